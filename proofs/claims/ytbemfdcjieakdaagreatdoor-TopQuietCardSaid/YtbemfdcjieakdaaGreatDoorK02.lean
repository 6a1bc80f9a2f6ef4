/- LayPlan; LayRef; ShaW; ShaLaw; MerkLaw; Bmap; Own. -/
import Derived.Laws.AppendOwnNone
import Derived.Laws.BitsAllLaws
import Derived.Test.YtbemfdcjieakdaaGreatDoorK01
set_option maxRecDepth 100000
set_option maxHeartbeats 8000000
namespace Go.Proofs.YtbemfdcjieakdaaGreatDoor
section
open Go.RowKit
def isPlan(s p g:Int):Prop:=64<=s/\s<=4096/\p=s / 4/\g=seg s
theorem isPlan.bd{s p g:Int}(h:isPlan s p g):16<=p/\p<=1024/\3<=g/\g<=4096:=by
 obtain⟨a,b,rfl,rfl⟩:=h;have:=b6S s a b;omega
theorem a2X(s p g:Int)(w:World)(h:isPlan s p g):
  Calls Tryz.prog 51 #[.agg #[.int .i64 s,.int .i64 p,.int .i64 g]] w fun e w'=>e= .returned (.bool true)/\Below w.heap.size w w':=by
 obtain⟨d,f,rfl,rfl⟩:=h;go_enter Tryz.func51,Tryz.ntmps51;go_wp2_with fail;refine(b3L s _ d f).mono ?_;rintro e w1 ⟨rfl,hb1⟩;obtain⟨a,b⟩:=a3S hb1;have c:w.heap.size<w1.heap.size:=by have:=hb1.size;simp at this;omega
 go_wp2_with fail;go_ret;exact⟨rfl,((((Ext.refl w).alloc _).step hb1).alloc _).1⟩
theorem b5D(s p g:Int)(w:World)(h:¬isPlan s p g):
  Calls Tryz.prog 51 #[.agg #[.int .i64 s,.int .i64 p,.int .i64 g]] w fun e w'=>e= .returned (.bool false)/\Below w.heap.size w w':=by
 by_cases j:s<64∨4096<s
 ·go_enter Tryz.func51,Tryz.ntmps51;go_wp2_with fail;refine(b6W s _ j).mono ?_;rintro e w1 ⟨rfl,hb1⟩;obtain⟨a,b⟩:=a3S hb1;have c:w.heap.size<w1.heap.size:=by have:=hb1.size;simp at this;omega
  go_wp2_with fail;go_ret;exact⟨rfl,((((Ext.refl w).alloc _).step hb1).alloc _).1⟩
 ·have f:64<=s:=by omega
  have i:s<=4096:=by omega
  have d:(p == s / 4)=false∨((p == s / 4)=true/\(g == seg s)=false):=by
   simp only[Cz,Al];unfold isPlan at h;omega
  clear h j;rcases d with d | ⟨d,k⟩
  ·go_enter Tryz.func51,Tryz.ntmps51;go_wp2_with fail;refine(b3L s _ f i).mono ?_;rintro e w1 ⟨rfl,hb1⟩;obtain⟨a,b⟩:=a3S hb1;have c:w.heap.size<w1.heap.size:=by have:=hb1.size;simp at this;omega
   go_wp2_with fail;go_ret;exact⟨rfl,((((Ext.refl w).alloc _).step hb1).alloc _).1⟩
  ·go_enter Tryz.func51,Tryz.ntmps51;go_wp2_with fail;refine(b3L s _ f i).mono ?_;rintro e w1 ⟨rfl,hb1⟩;obtain⟨a,b⟩:=a3S hb1;have c:w.heap.size<w1.heap.size:=by have:=hb1.size;simp at this;omega
   go_wp2_with fail;go_ret;exact⟨rfl,((((Ext.refl w).alloc _).step hb1).alloc _).1⟩
theorem b00(s p g k:Int)(w:World)(h:isPlan s p g)(m:0<=k)(o:k<2):
  Calls Tryz.prog 122 #[.agg #[.int .i64 s,.int .i64 p,.int .i64 g],.int .i64 k] w fun e w'=>e= .returned (.tuple #[.int .i64 (1+k * p),.int .i64 0])/\Below w.heap.size w w':=by
 have l:=h.bd;obtain⟨hb1,hb2,_,_⟩:=l;have j:decide (2<=k)=false:=by simp;omega
 have f:k * p<=1024/\0<=k * p:=by
  rcases(show k=0∨k=1 by omega) with rfl | rfl <;>omega
 obtain⟨b,d⟩:=f;go_enter Tryz.func122,Tryz.ntmps122;go_wp2_with fail;refine(a2X s p g _ h).mono ?_;rintro e n ⟨rfl,a⟩;obtain⟨c,i⟩:=a3S a;go_wp2_with fail;go_ret2;exact⟨rfl,(((Ext.refl w).alloc _).step a).1⟩
theorem a7b(s p g i:Int)(w:World)(h:isPlan s p g)(j:0<=i)(l:i<g):
  Calls Tryz.prog 20 #[.agg #[.int .i64 s,.int .i64 p,.int .i64 g],.int .i64 i] w fun e w'=>e= .returned (.tuple #[.int .i64 (1+2 * p+i * 8),.int .i64 0])/\Below w.heap.size w w':=by
 have f:=h.bd;obtain⟨hb1,hb2,hb3,hb4⟩:=f;have d:decide (g<=i)=false:=by simp;omega
 go_enter Tryz.func20,Tryz.ntmps20;go_wp2_with fail;refine(a2X s p g _ h).mono ?_;rintro e k ⟨rfl,a⟩;obtain⟨b,c⟩:=a3S a;go_wp2_with fail;go_ret2;exact⟨rfl,(((Ext.refl w).alloc _).step a).1⟩
theorem b3r(n:Int)(w:World):
  Calls Tryz.prog 26 #[.int .i64 n] w fun e w'=>e= .returned (ofV n)/\Below w.heap.size w w':=by
 by_cases a:n<64
 ·go_enter Tryz.func26,Tryz.ntmps26;go_wp2;exact Aj (v:=.tuple #[.agg #[.int .i64 0,.int .i64 0,.int .i64 0],.int .i64 1]) (by simp[results,Tryz.results26,go_sem]) rfl ⟨by simp[ofV,a],(Ab _ _).alloc (Aa _) _⟩
 by_cases b:4096<n
 ·go_enter Tryz.func26,Tryz.ntmps26;go_wp2;exact Aj (v:=.tuple #[.agg #[.int .i64 0,.int .i64 0,.int .i64 0],.int .i64 1]) (by simp[results,Tryz.results26,go_sem]) rfl ⟨by simp[ofV,b],(Ab _ _).alloc (Aa _) _⟩
 ·go_enter Tryz.func26,Tryz.ntmps26;go_wp2;exact Aj (v:=.tuple #[.agg #[.int .i64 n,.int .i64 (n / 4),.int .i64 (seg n)],.int .i64 0]) (by simp[results,Tryz.results26,go_sem,seg]) rfl ⟨by simp[ofV,a,b],(Ab _ _).alloc (Aa _) _⟩
theorem b9a(n:Int)(w:World)(h:n<64∨4096<n):
  Calls Tryz.prog 26 #[.int .i64 n] w fun e w'=>e= .returned (.tuple #[.agg #[.int .i64 0,.int .i64 0,.int .i64 0],.int .i64 1])/\Below w.heap.size w w':=
 (b3r n w).mono fun _ _ ⟨a,b⟩=>⟨by rw[a,ofV,Ah h],b⟩
theorem b8B(n:Int)(w:World)(c:64<=n)(b:n<=4096):
  Calls Tryz.prog 26 #[.int .i64 n] w fun e w'=>e= .returned (.tuple #[.agg #[.int .i64 n,.int .i64 (n / 4),.int .i64 (seg n)],.int .i64 0])/\Below w.heap.size w w':=
 (b3r n w).mono fun _ _ ⟨h3,a⟩=>⟨by rw[h3,ofV,Ag (by omega)],a⟩
def wd(x:UInt32):Int:=(x.toNat:Int)
@[simp,go_sem] theorem wd_xor (x y:UInt32):bits .xor .u32 (wd x) (wd y)=wd (x ^^^ y):=by
 unfold wd;rw[u32_xor_nat _ _ x.toNat_lt y.toNat_lt,UInt32.toNat_xor]
@[simp,go_sem] theorem wd_and (x y:UInt32):bits .and .u32 (wd x) (wd y)=wd (x &&& y):=by
 unfold wd;rw[u32_and_nat _ _ x.toNat_lt y.toNat_lt,UInt32.toNat_and]
@[simp,go_sem] theorem a2z (x y:UInt32):bits .or .u32 (wd x) (wd y)=wd (x ||| y):=by
 unfold wd;rw[u32_or_nat _ _ x.toNat_lt y.toNat_lt,UInt32.toNat_or]
@[simp,go_sem] theorem b8i (x:UInt32):bits .xor .u32 4294967295 (wd x)=wd (~~~x):=by
 have h:=u32_xor_nat 4294967295 x.toNat (by omega) x.toNat_lt;unfold wd;have e:((4294967295:Nat):Int)=4294967295:=rfl;rw[<-e,h,UInt32.toNat_not];congr 1;have:=x.toNat_lt;apply Nat.eq_of_testBit_eq;intro i;rw[Nat.testBit_xor];rw[show(4294967295:Nat)=2 ^ 32 - 1 from rfl,Nat.testBit_two_pow_sub_one];have b:UInt32.size - 1 - x.toNat=2 ^ 32 - (x.toNat+1):=by unfold UInt32.size;omega
 rw[b,Nat.testBit_two_pow_sub_succ this];by_cases a:i<32
 ·simp[a]
 ·have:x.toNat.testBit i=false:=Nat.testBit_lt_two_pow (Ai this (B2 (by omega) (by omega)));simp[a,this]
@[simp,go_sem] theorem b83 (x:UInt32):bits .xor .u32 IntKind.u32.max (wd x)=wd (~~~x):=b8i x
@[simp,go_sem] theorem b8j (x y:UInt32):IntKind.u32.wrap (wd x+wd y)=wd (x+y):=by
 unfold wd;rw[IntKind.wrap_u32,UInt32.toNat_add];omega
@[simp,go_sem] theorem b6P (x y:UInt32):(wd x+wd y) % (4294967296:Int)=wd (x+y):=by
 have:=b8j x y
 rwa [IntKind.wrap_u32] at this
@[simp,go_sem] theorem b81 (x y z:UInt32):(wd x+wd y+wd z) % (4294967296:Int)=wd (x+y+z):=by
 rw[<-b6P,<-b6P];omega
@[simp,go_sem] theorem b82 (x:UInt32):wd x / (8:Int)=wd (x >>> 3):=by
 show(x.toNat:Int) / (8:Int)=((x >>> 3).toNat:Int);rw[UInt32.toNat_shiftRight];simp[Nat.shiftRight_eq_div_pow]
@[simp,go_sem] theorem b8T (x:UInt32):wd x / (1024:Int)=wd (x >>> 10):=by
 show(x.toNat:Int) / (1024:Int)=((x >>> 10).toNat:Int);rw[UInt32.toNat_shiftRight];simp[Nat.shiftRight_eq_div_pow]
def a2T(x n:UInt32):UInt32:=(x >>> n) ||| (x <<< (32 - n))
theorem a3e(x:UInt32)(n:Nat)(b:n<32):wd x * (2 ^ n:Nat) % 4294967296=wd (x <<< (UInt32.ofNat n)):=by
 unfold wd;rw[UInt32.toNat_shiftLeft,UInt32.toNat_ofNat',AN (a:=n) (by omega),AN (a:=n) (by omega),Nat.shiftLeft_eq];omega
theorem a4g(x:UInt32)(n:Nat)(b:n<32):wd x / (2 ^ n:Nat)=wd (x >>> (UInt32.ofNat n)):=by
 unfold wd;rw[UInt32.toNat_shiftRight,UInt32.toNat_ofNat',AN (a:=n) (by omega),AN (a:=n) (by omega),Nat.shiftRight_eq_div_pow];omega
theorem b1R(x:UInt32):bits .or .u32 (wd x * 1073741824 % 4294967296) (wd x / 4)=wd (a2T x 2)/\bits .or .u32 (wd x / 4) (wd x * 1073741824 % 4294967296)=wd (a2T x 2):=by
 have a:=a3e x 30 (by omega);have b:=a4g x 2 (by omega);rw[show((2 ^ 30:Nat):Int)=1073741824 from rfl] at a;rw[show((2 ^ 2:Nat):Int)=4 from rfl] at b;rw[a,b,a2z,a2z];exact⟨by rw[Bu];rfl,rfl⟩
theorem b89(x:UInt32)(w:World):
  Calls Tryz.prog 332 #[.int .u32 (wd x),.int .i64 (-2)] w fun e w'=>e= .returned (.int .u32 (wd (a2T x 2)))/\w=w':=by
 have a:bits BinOp.and IntKind.u64 (IntKind.u64.wrap (-2)) 31=30:=by decide
 go_enter Tryz.func332,Tryz.ntmps332;go_wp2;go_ret;exact⟨a0F (b1R x).1,rfl⟩
theorem b1Q(x:UInt32):bits .or .u32 (wd x * 67108864 % 4294967296) (wd x / 64)=wd (a2T x 6)/\bits .or .u32 (wd x / 64) (wd x * 67108864 % 4294967296)=wd (a2T x 6):=by
 have a:=a3e x 26 (by omega);have b:=a4g x 6 (by omega);rw[show((2 ^ 26:Nat):Int)=67108864 from rfl] at a;rw[show((2 ^ 6:Nat):Int)=64 from rfl] at b;rw[a,b,a2z,a2z];exact⟨by rw[Bu];rfl,rfl⟩
theorem b88(x:UInt32)(w:World):
  Calls Tryz.prog 332 #[.int .u32 (wd x),.int .i64 (-6)] w fun e w'=>e= .returned (.int .u32 (wd (a2T x 6)))/\w=w':=by
 have a:bits BinOp.and IntKind.u64 (IntKind.u64.wrap (-6)) 31=26:=by decide
 go_enter Tryz.func332,Tryz.ntmps332;go_wp2;go_ret;exact⟨a0F (b1Q x).1,rfl⟩
theorem orot_6(x:UInt32)(w n:World):Calls Tryz.prog 332 #[.int .u32 (wd x),.int .i64 (-6)] (World.over w n) fun e a=>e= .returned (.int .u32 (wd (a2T x 6)))/\∃m,a=World.over w m:=a6m (b88 x _)
theorem a7c(x:UInt32):bits .or .u32 (wd x * 33554432 % 4294967296) (wd x / 128)=wd (a2T x 7)/\bits .or .u32 (wd x / 128) (wd x * 33554432 % 4294967296)=wd (a2T x 7):=by
 have a:=a3e x 25 (by omega);have b:=a4g x 7 (by omega);rw[show((2 ^ 25:Nat):Int)=33554432 from rfl] at a;rw[show((2 ^ 7:Nat):Int)=128 from rfl] at b;rw[a,b,a2z,a2z];exact⟨by rw[Bu];rfl,rfl⟩
theorem b87(x:UInt32)(w:World):
  Calls Tryz.prog 332 #[.int .u32 (wd x),.int .i64 (-7)] w fun e w'=>e= .returned (.int .u32 (wd (a2T x 7)))/\w=w':=by
 have a:bits BinOp.and IntKind.u64 (IntKind.u64.wrap (-7)) 31=25:=by decide
 go_enter Tryz.func332,Tryz.ntmps332;go_wp2;go_ret;exact⟨a0F (a7c x).1,rfl⟩
theorem b86(x:UInt32)(w:World):
  Calls Tryz.prog 252 #[.int .u32 (wd x),.int .u64 7] w fun e w'=>e= .returned (.int .u32 (wd (a2T x 7)))/\w=w':=by
 go_enter Tryz.func252,Tryz.ntmps252;go_wp2;go_ret;exact⟨a0F (a7c x).2,rfl⟩
theorem a94(x:UInt32):bits .or .u32 (wd x * 2097152 % 4294967296) (wd x / 2048)=wd (a2T x 11)/\bits .or .u32 (wd x / 2048) (wd x * 2097152 % 4294967296)=wd (a2T x 11):=by
 have a:=a3e x 21 (by omega);have b:=a4g x 11 (by omega);rw[show((2 ^ 21:Nat):Int)=2097152 from rfl] at a;rw[show((2 ^ 11:Nat):Int)=2048 from rfl] at b;rw[a,b,a2z,a2z];exact⟨by rw[Bu];rfl,rfl⟩
theorem b8A(x:UInt32)(w:World):
  Calls Tryz.prog 332 #[.int .u32 (wd x),.int .i64 (-11)] w fun e w'=>e= .returned (.int .u32 (wd (a2T x 11)))/\w=w':=by
 have a:bits BinOp.and IntKind.u64 (IntKind.u64.wrap (-11)) 31=21:=by decide
 go_enter Tryz.func332,Tryz.ntmps332;go_wp2;go_ret;exact⟨a0F (a94 x).1,rfl⟩
theorem orot_11(x:UInt32)(w n:World):Calls Tryz.prog 332 #[.int .u32 (wd x),.int .i64 (-11)] (World.over w n) fun e a=>e= .returned (.int .u32 (wd (a2T x 11)))/\∃m,a=World.over w m:=a6m (b8A x _)
theorem a6c(x:UInt32):bits .or .u32 (wd x * 524288 % 4294967296) (wd x / 8192)=wd (a2T x 13)/\bits .or .u32 (wd x / 8192) (wd x * 524288 % 4294967296)=wd (a2T x 13):=by
 have a:=a3e x 19 (by omega);have b:=a4g x 13 (by omega);rw[show((2 ^ 19:Nat):Int)=524288 from rfl] at a;rw[show((2 ^ 13:Nat):Int)=8192 from rfl] at b;rw[a,b,a2z,a2z];exact⟨by rw[Bu];rfl,rfl⟩
theorem b8z(x:UInt32)(w:World):
  Calls Tryz.prog 332 #[.int .u32 (wd x),.int .i64 (-13)] w fun e w'=>e= .returned (.int .u32 (wd (a2T x 13)))/\w=w':=by
 have a:bits BinOp.and IntKind.u64 (IntKind.u64.wrap (-13)) 31=19:=by decide
 go_enter Tryz.func332,Tryz.ntmps332;go_wp2;go_ret;exact⟨a0F (a6c x).1,rfl⟩
theorem b8U(x:UInt32)(w:World):
  Calls Tryz.prog 252 #[.int .u32 (wd x),.int .u64 13] w fun e w'=>e= .returned (.int .u32 (wd (a2T x 13)))/\w=w':=by
 go_enter Tryz.func252,Tryz.ntmps252;go_wp2;go_ret;exact⟨a0F (a6c x).2,rfl⟩
theorem a93(x:UInt32):bits .or .u32 (wd x * 32768 % 4294967296) (wd x / 131072)=wd (a2T x 17)/\bits .or .u32 (wd x / 131072) (wd x * 32768 % 4294967296)=wd (a2T x 17):=by
 have a:=a3e x 15 (by omega);have b:=a4g x 17 (by omega);rw[show((2 ^ 15:Nat):Int)=32768 from rfl] at a;rw[show((2 ^ 17:Nat):Int)=131072 from rfl] at b;rw[a,b,a2z,a2z];exact⟨by rw[Bu];rfl,rfl⟩
theorem b8y(x:UInt32)(w:World):
  Calls Tryz.prog 332 #[.int .u32 (wd x),.int .i64 (-17)] w fun e w'=>e= .returned (.int .u32 (wd (a2T x 17)))/\w=w':=by
 have a:bits BinOp.and IntKind.u64 (IntKind.u64.wrap (-17)) 31=15:=by decide
 go_enter Tryz.func332,Tryz.ntmps332;go_wp2;go_ret;exact⟨a0F (a93 x).1,rfl⟩
theorem a92(x:UInt32):bits .or .u32 (wd x * 16384 % 4294967296) (wd x / 262144)=wd (a2T x 18)/\bits .or .u32 (wd x / 262144) (wd x * 16384 % 4294967296)=wd (a2T x 18):=by
 have a:=a3e x 14 (by omega);have b:=a4g x 18 (by omega);rw[show((2 ^ 14:Nat):Int)=16384 from rfl] at a;rw[show((2 ^ 18:Nat):Int)=262144 from rfl] at b;rw[a,b,a2z,a2z];exact⟨by rw[Bu];rfl,rfl⟩
theorem b8x(x:UInt32)(w:World):
  Calls Tryz.prog 332 #[.int .u32 (wd x),.int .i64 (-18)] w fun e w'=>e= .returned (.int .u32 (wd (a2T x 18)))/\w=w':=by
 have a:bits BinOp.and IntKind.u64 (IntKind.u64.wrap (-18)) 31=14:=by decide
 go_enter Tryz.func332,Tryz.ntmps332;go_wp2;go_ret;exact⟨a0F (a92 x).1,rfl⟩
theorem a91(x:UInt32):bits .or .u32 (wd x * 8192 % 4294967296) (wd x / 524288)=wd (a2T x 19)/\bits .or .u32 (wd x / 524288) (wd x * 8192 % 4294967296)=wd (a2T x 19):=by
 have a:=a3e x 13 (by omega);have b:=a4g x 19 (by omega);rw[show((2 ^ 13:Nat):Int)=8192 from rfl] at a;rw[show((2 ^ 19:Nat):Int)=524288 from rfl] at b;rw[a,b,a2z,a2z];exact⟨by rw[Bu];rfl,rfl⟩
theorem b8w(x:UInt32)(w:World):
  Calls Tryz.prog 332 #[.int .u32 (wd x),.int .i64 (-19)] w fun e w'=>e= .returned (.int .u32 (wd (a2T x 19)))/\w=w':=by
 have a:bits BinOp.and IntKind.u64 (IntKind.u64.wrap (-19)) 31=13:=by decide
 go_enter Tryz.func332,Tryz.ntmps332;go_wp2;go_ret;exact⟨a0F (a91 x).1,rfl⟩
theorem a90(x:UInt32):bits .or .u32 (wd x * 1024 % 4294967296) (wd x / 4194304)=wd (a2T x 22)/\bits .or .u32 (wd x / 4194304) (wd x * 1024 % 4294967296)=wd (a2T x 22):=by
 have a:=a3e x 10 (by omega);have b:=a4g x 22 (by omega);rw[show((2 ^ 10:Nat):Int)=1024 from rfl] at a;rw[show((2 ^ 22:Nat):Int)=4194304 from rfl] at b;rw[a,b,a2z,a2z];exact⟨by rw[Bu];rfl,rfl⟩
theorem b8v(x:UInt32)(w:World):
  Calls Tryz.prog 332 #[.int .u32 (wd x),.int .i64 (-22)] w fun e w'=>e= .returned (.int .u32 (wd (a2T x 22)))/\w=w':=by
 have a:bits BinOp.and IntKind.u64 (IntKind.u64.wrap (-22)) 31=10:=by decide
 go_enter Tryz.func332,Tryz.ntmps332;go_wp2;go_ret;exact⟨a0F (a90 x).1,rfl⟩
theorem a9Z(x:UInt32):bits .or .u32 (wd x * 128 % 4294967296) (wd x / 33554432)=wd (a2T x 25)/\bits .or .u32 (wd x / 33554432) (wd x * 128 % 4294967296)=wd (a2T x 25):=by
 have a:=a3e x 7 (by omega);have b:=a4g x 25 (by omega);rw[show((2 ^ 7:Nat):Int)=128 from rfl] at a;rw[show((2 ^ 25:Nat):Int)=33554432 from rfl] at b;rw[a,b,a2z,a2z];exact⟨by rw[Bu];rfl,rfl⟩
theorem b8u(x:UInt32)(w:World):
  Calls Tryz.prog 332 #[.int .u32 (wd x),.int .i64 (-25)] w fun e w'=>e= .returned (.int .u32 (wd (a2T x 25)))/\w=w':=by
 have a:bits BinOp.and IntKind.u64 (IntKind.u64.wrap (-25)) 31=7:=by decide
 go_enter Tryz.func332,Tryz.ntmps332;go_wp2;go_ret;exact⟨a0F (a9Z x).1,rfl⟩
theorem orot_25(x:UInt32)(w n:World):Calls Tryz.prog 332 #[.int .u32 (wd x),.int .i64 (-25)] (World.over w n) fun e a=>e= .returned (.int .u32 (wd (a2T x 25)))/\∃m,a=World.over w m:=a6m (b8u x _)
structure S8 where
 a:UInt32
 b:UInt32
 c:UInt32
 d:UInt32
 e:UInt32
 f:UInt32
 g:UInt32
 h:UInt32
def S8.list(s:S8):List UInt32:=[s.a,s.b,s.c,s.d,s.e,s.f,s.g,s.h]
def S8.t(s:S8)(k w:UInt32):UInt32:=s.h+(a2T s.e 6 ^^^ a2T s.e 11 ^^^ a2T s.e 25)+(s.e &&& s.f ^^^ ~~~s.e &&& s.g)+k+w
def S8.u(s:S8):UInt32:=(a2T s.a 2 ^^^ a2T s.a 13 ^^^ a2T s.a 22)+(s.a &&& s.b ^^^ s.a &&& s.c ^^^ s.b &&& s.c)
def S8.rnd(s:S8)(k w:UInt32):S8:=⟨s.t k w+s.u,s.a,s.b,s.c,s.d+s.t k w,s.e,s.f,s.g⟩
def S8.add(s r:S8):S8:=⟨s.a+r.a,s.b+r.b,s.c+r.c,s.d+r.d,s.e+r.e,s.f+r.f,s.g+r.g,s.h+r.h⟩
def b80(a c b d:UInt8):UInt32:=d.toUInt32 ||| b.toUInt32 <<< 8 ||| c.toUInt32 <<< 16 ||| a.toUInt32 <<< 24
def a4t(b:List UInt8)(i:Nat):UInt32:=b80 (b.getD (4 * i) 0) (b.getD (4 * i+1) 0) (b.getD (4 * i+2) 0) (b.getD (4 * i+3) 0)
def b85(x:UInt32):UInt32:=a2T x 7 ^^^ a2T x 18 ^^^ x >>> 3
def b84(x:UInt32):UInt32:=a2T x 17 ^^^ a2T x 19 ^^^ x >>> 10
def b3O(l:List UInt32)(k:Nat):UInt32:=l.getD (k - 16) 0+b85 (l.getD (k - 15) 0)+l.getD (k - 7) 0+b84 (l.getD (k - 2) 0)
def a19(b:List UInt8):Nat->List UInt32
 | 0=>[]
 | k+1=>a19 b k ++[if k<16 then a4t b k else b3O (a19 b k) k]
theorem a0Y(b:List UInt8)(k:Nat):(a19 b k).length=k:=by
 induction k with
 | zero=>rfl
 | succ k a=>simp [a19,a]
def a2x(b:List UInt8)(k:Nat):List UInt32:=a19 b k ++List.replicate (64 - k) 0
theorem a4L(b:List UInt8)(k:Nat)(h:k<=64):(a2x b k).length=64:=by simp[a2x,a0Y];omega
theorem b0h(b:List UInt8):a2x b 64=a19 b 64:=by simp[a2x]
theorem a4M(b:List UInt8)(k i:Nat)(a:i<k):(a2x b k)[i]? =some ((a19 b k).getD i 0):=by
 rw[a2x,A7 (by rw[a0Y];omega),List.getD_eq_getElem?_getD,List.getElem?_eq_getElem (by rw[a0Y];omega)];rfl
theorem a7o(b:List UInt8)(k:Nat)(hk:k<64)(x:UInt32)(a:x=if k<16 then a4t b k else b3O (a19 b k) k):(a2x b k).set k x=a2x b (k+1):=by
 subst a;rw[a2x,BA _ _ (by rw[a0Y];omega),a0Y,Nat.sub_self,show 64 - k=(64 - (k+1))+1 by omega,List.replicate_succ,List.set_cons_zero,a2x,a19];simp
theorem b0n(b:List UInt8)(k:Nat):b3O (a19 b k) k=(a19 b k).getD (k - 16) 0+b85 ((a19 b k).getD (k - 15) 0)+(a19 b k).getD (k - 7) 0+b84 ((a19 b k).getD (k - 2) 0):=rfl
def KK:List UInt32:=[
 0x428a2f98,0x71374491,0xb5c0fbcf,0xe9b5dba5,0x3956c25b,0x59f111f1,0x923f82a4,0xab1c5ed5,
 0xd807aa98,0x12835b01,0x243185be,0x550c7dc3,0x72be5d74,0x80deb1fe,0x9bdc06a7,0xc19bf174,
 0xe49b69c1,0xefbe4786,0x0fc19dc6,0x240ca1cc,0x2de92c6f,0x4a7484aa,0x5cb0a9dc,0x76f988da,
 0x983e5152,0xa831c66d,0xb00327c8,0xbf597fc7,0xc6e00bf3,0xd5a79147,0x06ca6351,0x14292967,
 0x27b70a85,0x2e1b2138,0x4d2c6dfc,0x53380d13,0x650a7354,0x766a0abb,0x81c2c92e,0x92722c85,
 0xa2bfe8a1,0xa81a664b,0xc24b8b70,0xc76c51a3,0xd192e819,0xd6990624,0xf40e3585,0x106aa070,
 0x19a4c116,0x1e376c08,0x2748774c,0x34b0bcb5,0x391c0cb3,0x4ed8aa4a,0x5b9cca4f,0x682e6ff3,
 0x748f82ee,0x78a5636f,0x84c87814,0x8cc70208,0x90befffa,0xa4506ceb,0xbef9a3f7,0xc67178f2]
def b4O:S8:=⟨0x6a09e667,0xbb67ae85,0x3c6ef372,0xa54ff53a,0x510e527f,0x9b05688c,0x1f83d9ab,0x5be0cd19⟩
def b6U(b:List UInt8)(s:S8):Nat->S8
 | 0=>s
 | i+1=>(b6U b s i).rnd (KK.getD i 0) ((a19 b 64).getD i 0)
def a9J(s:S8)(b:List UInt8):S8:=s.add (b6U b s 64)
def blocks:Nat->S8->List UInt8->S8
 | 0,s,_=>s
 | n+1,s,b=>blocks n (a9J s b) (b.drop 64)
theorem a8C{b c:List UInt8}(h:b.take 64=c.take 64)(i:Nat)(d:i<16):a4t b i=a4t c i:=by
 have e:∀j,j<64->b.getD j 0=c.getD j 0:=fun j a=>by
  have:=An (·[j]?) h;simp only[AS,Ah a] at this;rw[List.getD_eq_getElem?_getD,List.getD_eq_getElem?_getD,this]
 unfold a4t;rw[e _ (by omega),e _ (by omega),e _ (by omega),e _ (by omega)]
theorem a9Y{b c:List UInt8}(h:b.take 64=c.take 64)(k:Nat):a19 b k=a19 c k:=by
 induction k with
 | zero=>rfl
 | succ k a=>
  simp only[a19,a];by_cases hk:k<16
  ·rw[Ah hk,Ah hk,a8C h k hk]
  ·rw[Ag hk,Ag hk]
theorem b1S{b c:List UInt8}(h:b.take 64=c.take 64)(s:S8)(n:Nat):b6U b s n=b6U c s n:=by
 induction n with
 | zero=>rfl
 | succ n a=>simp only[b6U,a,a9Y h]
theorem a7I{b c:List UInt8}(h:b.take 64=c.take 64)(s:S8):a9J s b=a9J s c:=by unfold a9J;rw[b1S h]
theorem b4D(s:S8)(b:List UInt8):a9J s (b.take 64)=a9J s b:=a7I (by rw[List.take_take];rfl) s
theorem a2G(n:Nat)(s:S8)(b c:List UInt8)(h:64 * n<=b.length):blocks n s (b ++c)=blocks n s b:=by
 induction n generalizing s b with
 | zero=>rfl
 | succ n a=>
  simp only[blocks];rw[a7I (c:=b) (by rw[List.take_append_of_le_length (by omega)]),Cw (by omega),a _ _ (by rw[B9];omega)]
theorem b0H(n:Nat)(s:S8)(b:List UInt8)(h:64 * n<=b.length):blocks n s (b.take (64 * n))=blocks n s b:=by
 conv=>rhs;rw[<-List.take_append_drop (64 * n) b]
 rw[a2G _ _ _ _ (by rw[Av];omega)]
theorem a5n(n m:Nat)(s:S8)(b:List UInt8):blocks (n+m) s b=blocks m (blocks n s b) (b.drop (64 * n)):=by
 induction n generalizing s b with
 | zero=>simp [blocks]
 | succ n a=>
  rw[show n+1+m=(n+m)+1 by omega];simp only[blocks];rw[a,CD,show 64+64 * n=64 * (n+1) by omega]
theorem a7L(s:S8)(b:List UInt8):blocks 1 s b=a9J s b:=rfl
def hashed(xs:List UInt8):S8:=blocks (xs.length / 64) b4O xs
def a1P(xs:List UInt8):List UInt8:=xs.drop (64 * (xs.length / 64))
theorem a13(xs:List UInt8):(a1P xs).length=xs.length % 64:=by unfold a1P;rw[B9];omega
theorem a7A(xs ys:List UInt8)(h:(a1P xs).length+ys.length<64):hashed (xs ++ys)=hashed xs/\a1P (xs ++ys)=a1P xs ++ys:=by
 rw[a13] at h;have e:(xs ++ys).length / 64=xs.length / 64:=by rw[Af];omega
 unfold hashed a1P;rw[e,a2G _ _ _ _ (by omega),Cw (by omega)];exact⟨rfl,rfl⟩
theorem a6w(xs ys:List UInt8)(h:(a1P xs).length+ys.length=64):hashed (xs ++ys)=a9J (hashed xs) (a1P xs ++ys)/\a1P (xs ++ys)=[]:=by
 rw[a13] at h;have e:(xs ++ys).length / 64=xs.length / 64+1:=by rw[Af];omega
 constructor
 ·unfold hashed a1P;rw[e,a5n,a7L,a2G _ _ _ _ (by omega),Cw (by omega)]
 ·refine Bw ?_;rw[a13,Af];omega
def a0Z(r:List UInt8)(n:Nat):List UInt8:=r ++[0x80] ++List.replicate ((119 - r.length % 64) % 64) 0 ++be8 n
where be8 (n:Nat):List UInt8:=[UInt8.ofNat (8 * n / 72057594037927936),UInt8.ofNat (8 * n / 281474976710656),UInt8.ofNat (8 * n / 1099511627776),UInt8.ofNat (8 * n / 4294967296),UInt8.ofNat (8 * n / 16777216),UInt8.ofNat (8 * n / 65536),UInt8.ofNat (8 * n / 256),UInt8.ofNat (8 * n)]
theorem a5w(r:List UInt8)(n:Nat):(a0Z r n).length=64 * ((a0Z r n).length / 64)/\(a0Z r n).length<=r.length+72:=by
 have:(a0Z r n).length=r.length+1+(119 - r.length % 64) % 64+8:=by simp[a0Z,a0Z.be8];omega
 rw[this];omega
def a0B(x:UInt32):List UInt8:=[UInt8.ofNat (x.toNat / 16777216),UInt8.ofNat (x.toNat / 65536),UInt8.ofNat (x.toNat / 256),UInt8.ofNat x.toNat]
def S8.bytes(s:S8):List UInt8:=(s.list.map a0B).flatten
def sha(xs:List UInt8):List UInt8:=(blocks ((a0Z xs xs.length).length / 64) b4O (a0Z xs xs.length)).bytes
theorem a0v(xs:List UInt8):(sha xs).length=32:=rfl
theorem b5u(xs:List UInt8):sha xs=(blocks ((a0Z (a1P xs) xs.length).length / 64) (hashed xs) (a0Z (a1P xs) xs.length)).bytes:=by
 have e:a0Z xs xs.length=xs.take (64 * (xs.length / 64)) ++a0Z (a1P xs) xs.length:=by
  have a:(a1P xs).length % 64=xs.length % 64:=by rw[a13];omega
  unfold a0Z;rw[a];simp only[<-List.append_assoc];rw[a1P,List.take_append_drop]
 have b:(a0Z xs xs.length).length / 64=xs.length / 64+(a0Z (a1P xs) xs.length).length / 64:=by
  rw[e,Af,Av];have:=(a5w (a1P xs) xs.length).1;omega
 unfold sha;rw[b,a5n,e,a2G _ _ _ _ (by rw[Av];omega),b0H _ _ _ (by omega),Cl (by rw[Av];omega)];rfl
def a5H(n k:Nat):Nat:=if 0<k/\2 * k<n then a5H n (2 * k) else k
termination_by n - k
decreasing_by omega
def mpart(n:Nat):Nat:=a5H n 1
theorem b02{n k:Nat}(a:0<k)(h:2 * k<n):a5H n k=a5H n (2 * k):=by rw[a5H,Ah ⟨a,h⟩]
theorem a7m{n k:Nat}(h:¬2 * k<n):a5H n k=k:=by rw[a5H,Ag (by omega)]
theorem a7n(n k:Nat)(b:0<k)(h:k<n):a5H n k<n/\n<=2 * a5H n k/\k<=a5H n k:=by
 by_cases a:2 * k<n
 ·rw[b02 b a];have:=a7n n (2 * k) (by omega) a;omega
 ·rw[a7m a];omega
termination_by n - k
theorem a5g{n:Nat}(h:2<=n):mpart n<n/\n<=2 * mpart n/\1<=mpart n:=a7n n 1 (by omega) (by omega)
abbrev b8C(x y:List UInt8):List UInt8:=sha (1 :: (x ++y))
def a2P(ls:List (List UInt8)):List UInt8:=
 if ls.length<2 then(if ls.length=0 then sha [] else sha (0 :: ls.headD []))
 else b8C (a2P (ls.take (mpart ls.length))) (a2P (ls.drop (mpart ls.length)))
termination_by ls.length
decreasing_by
 ·have:=a5g (n:=ls.length) (by omega);simp;omega
 ·have:=a5g (n:=ls.length) (by omega);simp;omega
theorem b3W:a2P []=sha []:=by rw[a2P];rfl
theorem b3V(x:List UInt8):a2P [x]=sha (0 :: x):=by rw[a2P];rfl
theorem b13{ls:List (List UInt8)}(h:2<=ls.length):a2P ls=b8C (a2P (ls.take (mpart ls.length))) (a2P (ls.drop (mpart ls.length))):=by rw[a2P,Ag (by omega)]
theorem a1H(ls:List (List UInt8)):(a2P ls).length=32:=by
 rw[a2P];split
 ·split <;>exact a0v _
 ·exact a0v _
def blk(n:Int):Int:=if n<1 then 0 else(n - 1) / 128+1
abbrev TB:TypeId:=5
def Row(w:World)(g cap:Nat)(xs:List UInt8):Prop:=
 ∃a,w.heap[g]? =some (.cells a TB (0,0))/\a.size=cap/\xs.length<=cap/\cap<=maxLen/\a.toList.take xs.length=xs.map bv
theorem Row.lt{w:World}{g cap:Nat}{xs:List UInt8}(h:Row w g cap xs):g<w.heap.size:=by
 obtain⟨a,b,_⟩:=h;exact(Array.getElem?_eq_some_iff.1 b).1
theorem Row.len{w:World}{g cap:Nat}{xs:List UInt8}(h:Row w g cap xs):xs.length<=cap:=by obtain⟨a,_,_,h3,_⟩:=h;exact h3
theorem Row.cap_le{w:World}{g cap:Nat}{xs:List UInt8}(h:Row w g cap xs):cap<=maxLen:=by obtain⟨a,_,_,_,b,_⟩:=h;exact b
theorem Row.cell{w:World}{g cap:Nat}{xs:List UInt8}(h:Row w g cap xs)(i:Nat)(b:i<xs.length):w.cell? ⟨g,i,none⟩=some (.int .u8 (xs[i].toNat:Int)):=by
 obtain⟨d,e,j,h3,f,c⟩:=h;have a:=An (·[i]?) c;simp only[AS,Cq] at a;rw[Ah b] at a;simp only[World.cell?,e];rw[<-Array.getElem?_toList];simp[a,bv,b]
theorem Row.of_heap{w w':World}{g cap:Nat}{xs:List UInt8}(h:Row w g cap xs)(d:w'.heap[g]? =w.heap[g]?):Row w' g cap xs:=by
 obtain⟨a,b,c⟩:=h;exact⟨a,d.trans b,c⟩
theorem Row.below{w w':World}{g cap:Nat}{xs:List UInt8}(h:Row w g cap xs)(a:Below w.heap.size w w'):Row w' g cap xs:=h.of_heap (a.block g h.lt)
theorem Row.alloc{w:World}{g cap:Nat}{xs:List UInt8}(h:Row w g cap xs)(o:Obj):Row (w.alloc o) g cap xs:=h.of_heap (AW _ _ _ h.lt)
theorem Row.setOther{w:World}{g cap:Nat}{xs:List UInt8}(h:Row w g cap xs){a:Addr}(b:g≠a.block)(u:Value):Row (w.setCell a u) g cap xs:=h.of_heap (A5 _ _ _ _ b)
theorem Row.grown{w w':World}{g cap:Nat}{xs:List UInt8}{row:Option Nat}(h:Row w g cap xs)(b:w.grownBy w' row)(a:some g≠row):Row w' g cap xs:=h.of_heap (b.block g h.lt a)
theorem Row.bs{w:World}{g cap:Nat}{xs:List UInt8}(h:Row w g cap xs):Bs w (some ⟨g,0,none⟩) xs.length cap xs:=
 ⟨rfl,h.len,h.cap_le,.inr ⟨g,0,rfl,h.lt,fun i a=>by rw[AD];exact h.cell i a⟩⟩
theorem Row.made(w:World)(C:Array Value)(n cap:Nat)(xs:List UInt8)(d:C.size=cap)(b:xs.length=n)(h:n<=cap)(a:cap<=maxLen)(c:C.toList.take n=xs.map bv):Row (w.alloc (.cells C TB)) w.heap.size cap xs:=
 ⟨C,Ae w _,d,by omega,a,by rw[b];exact c⟩
def Own(w:World)(B:Nat)(v:Value)(xs:List UInt8):Prop:=w.ownsRow B TB 1 v xs.length (xs.map bv)
theorem Own.nil(w:World)(B:Nat):Own w B (.slice none 0 0) []:=A6 w B TB 1
theorem Own.parts{w:World}{B:Nat}{v:Value}{xs:List UInt8}(h:Own w B v xs):
  (v= .slice none 0 0/\xs=[])∨∃g cap,v= .slice (some ⟨g,0,none⟩) xs.length cap/\B<=g/\Row w g cap xs:=by
 obtain⟨_,a⟩:=h;rcases a with⟨a,h3⟩ | ⟨g,cap,b,a,h3,c,e,f,i,d⟩
 ·exact .inl ⟨a,Ax.1 h3⟩
 ·exact .inr ⟨g,cap,a,h3,b,c,by omega,e,f,by simpa using d⟩
theorem Own.of_row{w:World}{B g cap:Nat}{xs:List UInt8}(h:Row w g cap xs)(e:B<=g):Own w B (.slice (some ⟨g,0,none⟩) xs.length cap) xs:=by
 obtain⟨a,d,f,h3,b,c⟩:=h;exact⟨by simp,.inr ⟨g,cap,a,rfl,e,d,h3,b,by omega,by simpa using c⟩⟩
theorem Own.bs{w:World}{B:Nat}{v:Value}{xs:List UInt8}(h:Own w B v xs):∃a cap,v= .slice a xs.length cap/\Bs w a xs.length cap xs:=by
 rcases h.parts with⟨rfl,rfl⟩ | ⟨g,cap,rfl,_,b⟩
 ·exact⟨none,0,rfl,Bs.nil w⟩
 ·exact⟨_,cap,rfl,b.bs⟩
theorem Own.below{w w':World}{B:Nat}{v:Value}{xs:List UInt8}(h:Own w B v xs)(a:Below w.heap.size w w'):Own w' B v xs:=by
 rcases h.parts with⟨rfl,rfl⟩ | ⟨g,cap,rfl,c,b⟩
 ·exact Own.nil _ _
 ·exact Own.of_row (b.below a) c
theorem Own.alloc{w:World}{B:Nat}{v:Value}{xs:List UInt8}(h:Own w B v xs)(o:Obj):Own (w.alloc o) B v xs:=h.below ((Ab _ _).alloc (Aa _) o)
theorem Ext.grown{B:Nat}{a w w':World}{row:Option Nat}(h:Ext B a w)(b:w.grownBy w' row)(c:∀k,row=some k->B<=k):Ext B a w':=⟨h.1.grown b h.2 c,Ad h.2 b.size⟩
theorem Bs.news{w:World}{a:Option Addr}{d cap:Nat}{ys:List UInt8}(h:Bs w a d cap ys):
  (a=none/\d=0/\ys=[])∨∃e,a=some e/\∀j u,(ys.map bv)[j]? =some u->w.cell? (e.add j)=some u:=by
 obtain⟨l,o,h3,i⟩:=h;rcases i with rfl | ⟨b,off,rfl,n,k⟩
 ·obtain rfl:=Ax.1 l;cases a with
  | none=>exact .inl ⟨rfl,rfl,rfl⟩
  | some e=>exact .inr ⟨e,rfl,fun j u c=>by simp at c⟩
 ·refine .inr ⟨_,rfl,fun j u c=>?_⟩;have g:j<ys.length:=by
   rcases BE j ys.length with h | h
   ·exact h
   ·rw[Bo (by simpa using h)] at c;cases c
  have m:(⟨b,off,none⟩:Addr).add j=⟨b,off+j,none⟩:=by by_cases f:j=0 <;>simp [Addr.add,f]
  rw[m,k j g,<-c];simp[bv,g]
theorem b1c:(Tryz.prog.info? TB).map (fun i=>(i.zero,i.size,i.bytes))=some (some (.int .u8 0),1,1):=by kernel_rfl
theorem a1W(n:Nat)(e:n<=281474976710656)(W:World):(Instr.makeSlice 30 (.int .i64 (n:Int)) (.int .i64 (n:Int))).run Tryz.prog W= .ok (.slice (some ⟨W.heap.size,0,none⟩) n n) (W.alloc (.cells (madeCells #[.int .u8 0] n) TB)):=by
 obtain⟨i,d,a,b,c⟩:=info_parts b1c;have:=run_make (P:=Tryz.prog) W 30 TB i (.int .u8 0) Tryz.underlying30 d a .i64 .i64 n n (by omega) (by omega) (by rw[c];omega) (by omega);simpa[b,Value.cells] using this
theorem Row.zero(w:World)(n:Nat)(a:n<=maxLen):Row (w.alloc (.cells (madeCells #[.int .u8 0] n) TB)) w.heap.size n (List.replicate n 0):=by
 refine Row.made w _ n n _ (by simp[madeCells]) (by simp) (Aa _) a ?_;rw[toList_madeCells_one,Am (by simp)];simp[bv]
def part(L:List UInt8)(k:Nat):List UInt8:=L.take k ++List.replicate (L.length - k) 0
theorem a1a{P:Program}{w:World}(a:Nat)(t j e:TypeId)(i:TypeInfo)(size:Nat)(f:P.underlying t=some (.slice e))(h:P.info? e=some i)
  (v:Value) (n cap:Nat) (xs:List Value) (b:w.ownsRow a e size v n xs):(Builtin.append_ #[t,t] j #[v,.slice none 0 cap]).run P w= .ok v w:=by
 rcases b.2 with⟨rfl,rfl⟩ | ⟨g,c,k,rfl,_,_,d,_⟩
 ·simp[Builtin.append_,run_underlying f,sizeOf,typeInfo,h,Builtin.lenOf,Builtin.firstCells]
 ·simp[Builtin.append_,run_underlying f,sizeOf,typeInfo,h,Builtin.lenOf,Builtin.firstCells,d,storeCells]
theorem a1o{w:World}{j:Array Oper}{rest:List Oper}{o:Oper}{a:Act}{Q:Exit->Act->World->Prop}(f:o.guard=none)(s x:Operand)
  (D:o.op= .call { callee:=.builtin .append,args:=#[s,x],argTypes:=#[30,30] })
  (B:Nat) (v:Value) (xs:List UInt8) (z:a.eval s=v) (b:Own w B v xs)
  (l:Option Addr) (m c:Nat) (ys:List UInt8) (C:a.eval x= .slice l m c) (t:Bs w l m c ys)
  (A:xs.length+m<=140737488355328) (d:B<=w.heap.size)
  (h:∀k w',Own w' B k (xs ++ys)->w.grownBy w' v.ownBlock->(k= .slice none 0 0↔v= .slice none 0 0/\m=0)->wpList Tryz.prog j Q rest (a.put o.dst k) w'):wpList Tryz.prog j Q (o :: rest) a w:=by
 obtain⟨i,r,p,n,q⟩:=info_parts b1c;have F:=t.1;rcases t.news with⟨rfl,rfl,rfl⟩ | ⟨l,rfl,e⟩
 ·refine BX f fun K hK=>?_
  have g:=a1a (P:=Tryz.prog) (w:=w) B 30 o.type TB i 1 Tryz.underlying30 r v _ c _ b;unfold Oper.wp;simp[execOp,D,resolve,invoke,builtin,z,C,g,Result.andThen];exact hK _ _ (h v w (by simpa using b) ⟨rfl,rfl,rfl,Aa _,fun _ _ _=>rfl⟩ (by simp))
 ·refine wpList_append_own w f s x 30 D B TB i (.int .u8 0) 1 1 Tryz.underlying30 r p n q rfl (by decide) v xs.length (xs.map bv) z b l m c (ys.map bv) C (by simp;omega) e ?_ (by unfold maxLen;omega) (by omega) d fun k w' E G h3=>h k w' ?_ G h3
  ·intro u H;obtain⟨y,_,rfl⟩:=AX.1 H;rfl
  ·subst F;unfold Own;simpa using E
end
end Go.Proofs.YtbemfdcjieakdaaGreatDoor
