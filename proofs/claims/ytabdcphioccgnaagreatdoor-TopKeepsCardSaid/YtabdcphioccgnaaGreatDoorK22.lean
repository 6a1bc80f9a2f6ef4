/- Shelf; IDs; Names; Commit. -/
import Derived.Ground.GgzProg
import Derived.Ground.NamesProg
import Derived.Ground.SlgmProg
import Derived.Ground.SlgnProg
import Derived.Ground.SlmdProg
import Derived.Shelf.AbstractIn
import Derived.Shelf.SlIter.Nil
import Derived.Shelf.SlIterI.Nil
import Derived.Shelf.SlMaps.DeleteFunc
import Derived.Shelf.SlicesE.Clone
import Derived.Shelf.SortM.Plain
import Derived.Shelf.SortM.SortNone
import Derived.Shelf.Strings.Split
import Derived.Test.YtabdcphioccgnaaGreatDoorK20
set_option maxRecDepth 100000
set_option maxHeartbeats 8000000
namespace Go.Proofs
section
open Go.Shelf
def Tryz.keysI_ren : Go.Shelf.Ren:=⟨fun | 7 => 220 | 10 => 258 | n => n,fun | 23 => 186 | 26 => 3 | 3 => 189 | 28 => 150 | 0 => 0 | 27 => 149 | 33 => 62 | 4 => 4 | n => n,fun | n => n⟩
theorem Tryz.keysI : Go.Proofs.SlLaysZI.n7 Tryz.prog Tryz.keysI_ren:={
 mixed:=by kernel_rfl
 f7:=⟨Tryz.f220.name,by decide,Tryz.func220.trans (congrArg some (by kernel_rfl))⟩
 f10:=⟨Tryz.f258.name,by decide,Tryz.func258.trans (congrArg some (by kernel_rfl))⟩
 t0:=Tryz.underlying0
 a0:=Tryz.isAgg0
 z0:=Tryz.sizeOf0
 v0:=Tryz.zeroValue0
 t4:=Tryz.underlying4
 a4:=Tryz.isAgg4
 z4:=Tryz.sizeOf4
 v4:=Tryz.zeroValue4
 t23:=Tryz.underlying186
 a23:=Tryz.isAgg186
 z23:=Tryz.sizeOf186
 v23:=Tryz.zeroValue186
 t26:=Tryz.underlying3
 a26:=Tryz.isAgg3
 z26:=Tryz.sizeOf3
 v26:=Tryz.zeroValue3
 t27:=Tryz.underlying149
 a27:=Tryz.isAgg149
 z27:=Tryz.sizeOf149
 v27:=Tryz.zeroValue149
 t28:=Tryz.underlying150
 a28:=Tryz.isAgg150
 z28:=Tryz.sizeOf150
 v28:=Tryz.zeroValue150
 t33:=Tryz.underlying62
 a33:=Tryz.isAgg62
 z33:=Tryz.sizeOf62
 v33:=Tryz.zeroValue62 }
def Tryz.sortedI_ren : Go.Shelf.Ren:=⟨fun | 6 => 81 | 8 => 151 | 9 => 152 | 11 => 204 | 13 => 206 | 12 => 205 | 23 => 249 | 24 => 250 | 14 => 240 | 15 => 241 | 16 => 242 | 17 => 243 | 18 => 244 | 19 => 245 | 20 => 246 | 21 => 247 | 22 => 248 | 25 => 267 | 26 => 268 | 27 => 269 | 28 => 270 | 29 => 271 | 30 => 272 | 31 => 291 | n => n,fun | 26 => 3 | 28 => 150 | 24 => 71 | 0 => 0 | 3 => 3 | 37 => 167 | 48 => 165 | 50 => 32 | 4 => 4 | 40 => 330 | 39 => 329 | 45 => 207 | 5 => 5 | 9 => 9 | 51 => 356 | 55 => 359 | 57 => 378 | 58 => 321 | 33 => 62 | n => n,fun | n => n⟩
theorem Tryz.sortedI : Go.Proofs.SlLaysZI.n6 Tryz.prog Tryz.sortedI_ren:={
 mixed:=by kernel_rfl
 f6:=⟨Tryz.f81.name,by decide,Tryz.func81.trans (congrArg some (by kernel_rfl))⟩
 f8:=⟨Tryz.f151.name,by decide,Tryz.func151.trans (congrArg some (by kernel_rfl))⟩
 f11:=⟨Tryz.f204.name,by decide,Tryz.func204.trans (congrArg some (by kernel_rfl))⟩
 t0:=Tryz.underlying0
 a0:=Tryz.isAgg0
 z0:=Tryz.sizeOf0
 v0:=Tryz.zeroValue0
 t24:=Tryz.underlying71
 a24:=Tryz.isAgg71
 z24:=Tryz.sizeOf71
 v24:=Tryz.zeroValue71
 t26:=Tryz.underlying3
 a26:=Tryz.isAgg3
 z26:=Tryz.sizeOf3
 v26:=Tryz.zeroValue3
 t28:=Tryz.underlying150
 a28:=Tryz.isAgg150
 z28:=Tryz.sizeOf150
 v28:=Tryz.zeroValue150
 i26:=by kernel_rfl }
def Tryz.sortI_ren : Go.Shelf.Ren:=⟨fun | 5 => 152 | 8 => 206 | 7 => 205 | 19 => 249 | 20 => 250 | 10 => 240 | 11 => 241 | 12 => 242 | 13 => 243 | 14 => 244 | 15 => 245 | 16 => 246 | 17 => 247 | 18 => 248 | 30 => 267 | 31 => 268 | 32 => 269 | 33 => 270 | 34 => 271 | 35 => 272 | 40 => 291 | n => n,fun | 23 => 71 | 25 => 3 | 3 => 3 | 32 => 167 | 22 => 71 | 0 => 0 | 44 => 165 | 46 => 32 | 4 => 4 | 36 => 330 | 35 => 329 | 41 => 207 | 5 => 5 | 9 => 9 | 53 => 356 | 57 => 359 | 63 => 378 | 64 => 321 | n => n,fun | n => n⟩
theorem Tryz.sortI : Go.Proofs.SlLaysM.n5 Tryz.prog Tryz.sortI_ren:={
 mixed:=by kernel_rfl
 f5:=⟨Tryz.f152.name,by decide,Tryz.func152.trans (congrArg some (by kernel_rfl))⟩
 f7:=⟨Tryz.f205.name,by decide,Tryz.func205.trans (congrArg some (by kernel_rfl))⟩
 f8:=Tryz.func206.trans (congrArg some (by kernel_rfl))
 f10:=⟨Tryz.f240.name,by decide,Tryz.func240.trans (congrArg some (by kernel_rfl))⟩
 f11:=⟨Tryz.f241.name,by decide,Tryz.func241.trans (congrArg some (by kernel_rfl))⟩
 f12:=⟨Tryz.f242.name,by decide,Tryz.func242.trans (congrArg some (by kernel_rfl))⟩
 f13:=⟨Tryz.f243.name,by decide,Tryz.func243.trans (congrArg some (by kernel_rfl))⟩
 f14:=⟨Tryz.f244.name,by decide,Tryz.func244.trans (congrArg some (by kernel_rfl))⟩
 f15:=⟨Tryz.f245.name,by decide,Tryz.func245.trans (congrArg some (by kernel_rfl))⟩
 f16:=⟨Tryz.f246.name,by decide,Tryz.func246.trans (congrArg some (by kernel_rfl))⟩
 f17:=⟨Tryz.f247.name,by decide,Tryz.func247.trans (congrArg some (by kernel_rfl))⟩
 f18:=⟨Tryz.f248.name,by decide,Tryz.func248.trans (congrArg some (by kernel_rfl))⟩
 f19:=Tryz.func249.trans (congrArg some (by kernel_rfl))
 f20:=Tryz.func250.trans (congrArg some (by kernel_rfl))
 f30:=⟨Tryz.f267.name,by decide,Tryz.func267.trans (congrArg some (by kernel_rfl))⟩
 f31:=Tryz.func268.trans (congrArg some (by kernel_rfl))
 f32:=Tryz.func269.trans (congrArg some (by kernel_rfl))
 f33:=⟨Tryz.f270.name,by decide,Tryz.func270.trans (congrArg some (by kernel_rfl))⟩
 f34:=⟨Tryz.f271.name,by decide,Tryz.func271.trans (congrArg some (by kernel_rfl))⟩
 f35:=⟨Tryz.f272.name,by decide,Tryz.func272.trans (congrArg some (by kernel_rfl))⟩
 f40:=⟨Tryz.f291.name,by decide,Tryz.func291.trans (congrArg some (by kernel_rfl))⟩
 t0:=Tryz.underlying0
 a0:=Tryz.isAgg0
 z0:=Tryz.sizeOf0
 v0:=Tryz.zeroValue0
 t3:=Tryz.underlying3
 a3:=Tryz.isAgg3
 z3:=Tryz.sizeOf3
 v3:=Tryz.zeroValue3
 t4:=Tryz.underlying4
 a4:=Tryz.isAgg4
 z4:=Tryz.sizeOf4
 v4:=Tryz.zeroValue4
 t5:=Tryz.underlying5
 a5:=Tryz.isAgg5
 z5:=Tryz.sizeOf5
 v5:=Tryz.zeroValue5
 t9:=Tryz.underlying9
 a9:=Tryz.isAgg9
 z9:=Tryz.sizeOf9
 v9:=Tryz.zeroValue9
 t22:=Tryz.underlying71
 a22:=Tryz.isAgg71
 z22:=Tryz.sizeOf71
 v22:=Tryz.zeroValue71
 t23:=Tryz.underlying71
 a23:=Tryz.isAgg71
 z23:=Tryz.sizeOf71
 v23:=Tryz.zeroValue71
 t25:=Tryz.underlying3
 a25:=Tryz.isAgg3
 z25:=Tryz.sizeOf3
 v25:=Tryz.zeroValue3
 t32:=Tryz.underlying167
 a32:=Tryz.isAgg167
 z32:=Tryz.sizeOf167
 v32:=Tryz.zeroValue167
 t35:=Tryz.underlying329
 a35:=Tryz.isAgg329
 z35:=Tryz.sizeOf329
 v35:=Tryz.zeroValue329
 t36:=Tryz.underlying330
 a36:=Tryz.isAgg330
 z36:=Tryz.sizeOf330
 v36:=Tryz.zeroValue330
 t41:=Tryz.underlying207
 a41:=Tryz.isAgg207
 z41:=Tryz.sizeOf207
 v41:=Tryz.zeroValue207
 t44:=Tryz.underlying165
 a44:=Tryz.isAgg165
 z44:=Tryz.sizeOf165
 v44:=Tryz.zeroValue165
 t46:=Tryz.underlying32
 a46:=Tryz.isAgg32
 z46:=Tryz.sizeOf32
 v46:=Tryz.zeroValue32
 t53:=Tryz.underlying356
 a53:=Tryz.isAgg356
 z53:=Tryz.sizeOf356
 v53:=Tryz.zeroValue356
 t57:=Tryz.underlying359
 a57:=Tryz.isAgg359
 z57:=Tryz.sizeOf359
 v57:=Tryz.zeroValue359
 t63:=Tryz.underlying378
 a63:=Tryz.isAgg378
 z63:=Tryz.sizeOf378
 v63:=Tryz.zeroValue378
 t64:=Tryz.underlying321
 a64:=Tryz.isAgg321
 z64:=Tryz.sizeOf321
 v64:=Tryz.zeroValue321 }
def Tryz.keysD_ren : Go.Shelf.Ren:=⟨fun | 7 => 82 | 10 => 153 | n => n,fun | 23 => 76 | 26 => 3 | 3 => 30 | 28 => 150 | 0 => 0 | 27 => 149 | 33 => 62 | 4 => 4 | n => n,fun | n => n⟩
theorem Tryz.keysD : Go.Proofs.SlLaysZI.n7 Tryz.prog Tryz.keysD_ren:={
 mixed:=by kernel_rfl
 f7:=⟨Tryz.f82.name,by decide,Tryz.func82.trans (congrArg some (by kernel_rfl))⟩
 f10:=⟨Tryz.f153.name,by decide,Tryz.func153.trans (congrArg some (by kernel_rfl))⟩
 t0:=Tryz.underlying0
 a0:=Tryz.isAgg0
 z0:=Tryz.sizeOf0
 v0:=Tryz.zeroValue0
 t4:=Tryz.underlying4
 a4:=Tryz.isAgg4
 z4:=Tryz.sizeOf4
 v4:=Tryz.zeroValue4
 t23:=Tryz.underlying76
 a23:=Tryz.isAgg76
 z23:=Tryz.sizeOf76
 v23:=Tryz.zeroValue76
 t26:=Tryz.underlying3
 a26:=Tryz.isAgg3
 z26:=Tryz.sizeOf3
 v26:=Tryz.zeroValue3
 t27:=Tryz.underlying149
 a27:=Tryz.isAgg149
 z27:=Tryz.sizeOf149
 v27:=Tryz.zeroValue149
 t28:=Tryz.underlying150
 a28:=Tryz.isAgg150
 z28:=Tryz.sizeOf150
 v28:=Tryz.zeroValue150
 t33:=Tryz.underlying62
 a33:=Tryz.isAgg62
 z33:=Tryz.sizeOf62
 v33:=Tryz.zeroValue62 }
def Tryz.keysS_ren : Go.Shelf.Ren:=⟨fun | 7 => 179 | 10 => 227 | n => n,fun | 23 => 190 | 26 => 9 | 3 => 3 | 28 => 265 | 0 => 0 | 27 => 264 | 33 => 320 | 4 => 4 | n => n,fun | n => n⟩
theorem Tryz.keysS : Go.Proofs.SlLaysZ.n7 Tryz.prog Tryz.keysS_ren:={
 mixed:=by kernel_rfl
 f7:=⟨Tryz.f179.name,by decide,Tryz.func179.trans (congrArg some (by kernel_rfl))⟩
 f10:=⟨Tryz.f227.name,by decide,Tryz.func227.trans (congrArg some (by kernel_rfl))⟩
 t0:=Tryz.underlying0
 a0:=Tryz.isAgg0
 z0:=Tryz.sizeOf0
 v0:=Tryz.zeroValue0
 t4:=Tryz.underlying4
 a4:=Tryz.isAgg4
 z4:=Tryz.sizeOf4
 v4:=Tryz.zeroValue4
 t23:=Tryz.underlying190
 a23:=Tryz.isAgg190
 z23:=Tryz.sizeOf190
 v23:=Tryz.zeroValue190
 t26:=Tryz.underlying9
 a26:=Tryz.isAgg9
 z26:=Tryz.sizeOf9
 v26:=Tryz.zeroValue9
 t27:=Tryz.underlying264
 a27:=Tryz.isAgg264
 z27:=Tryz.sizeOf264
 v27:=Tryz.zeroValue264
 t28:=Tryz.underlying265
 a28:=Tryz.isAgg265
 z28:=Tryz.sizeOf265
 v28:=Tryz.zeroValue265
 t33:=Tryz.underlying320
 a33:=Tryz.isAgg320
 z33:=Tryz.sizeOf320
 v33:=Tryz.zeroValue320 }
def Tryz.sortedS_ren : Go.Shelf.Ren:=⟨fun | 6 => 178 | 8 => 225 | 9 => 226 | 11 => 259 | 13 => 206 | 12 => 260 | 23 => 249 | 24 => 250 | 14 => 278 | 15 => 279 | 16 => 280 | 17 => 281 | 18 => 282 | 19 => 283 | 20 => 284 | 21 => 285 | 22 => 286 | 25 => 294 | 26 => 268 | 27 => 269 | 28 => 295 | 29 => 296 | 30 => 297 | 31 => 304 | n => n,fun | 26 => 9 | 28 => 265 | 24 => 31 | 0 => 0 | 3 => 3 | 37 => 167 | 48 => 165 | 50 => 32 | 4 => 4 | 40 => 330 | 39 => 329 | 45 => 207 | 5 => 5 | 9 => 9 | 51 => 356 | 55 => 359 | 57 => 378 | 58 => 321 | 33 => 320 | n => n,fun | n => n⟩
theorem Tryz.sortedS : Go.Proofs.SlLaysZ.n6 Tryz.prog Tryz.sortedS_ren:={
 mixed:=by kernel_rfl
 f6:=⟨Tryz.f178.name,by decide,Tryz.func178.trans (congrArg some (by kernel_rfl))⟩
 f8:=⟨Tryz.f225.name,by decide,Tryz.func225.trans (congrArg some (by kernel_rfl))⟩
 f11:=⟨Tryz.f259.name,by decide,Tryz.func259.trans (congrArg some (by kernel_rfl))⟩
 t0:=Tryz.underlying0
 a0:=Tryz.isAgg0
 z0:=Tryz.sizeOf0
 v0:=Tryz.zeroValue0
 t24:=Tryz.underlying31
 a24:=Tryz.isAgg31
 z24:=Tryz.sizeOf31
 v24:=Tryz.zeroValue31
 t26:=Tryz.underlying9
 a26:=Tryz.isAgg9
 z26:=Tryz.sizeOf9
 v26:=Tryz.zeroValue9
 t28:=Tryz.underlying265
 a28:=Tryz.isAgg265
 z28:=Tryz.sizeOf265
 v28:=Tryz.zeroValue265
 i26:=by kernel_rfl }
def Tryz.sortS_ren : Go.Shelf.Ren:=⟨fun | 6 => 226 | 8 => 206 | 9 => 260 | 19 => 249 | 20 => 250 | 21 => 278 | 22 => 279 | 23 => 280 | 24 => 281 | 25 => 282 | 26 => 283 | 27 => 284 | 28 => 285 | 29 => 286 | 36 => 294 | 31 => 268 | 32 => 269 | 37 => 295 | 38 => 296 | 39 => 297 | 41 => 304 | n => n,fun | 27 => 31 | 29 => 9 | 3 => 3 | 32 => 167 | 26 => 31 | 0 => 0 | 44 => 165 | 46 => 32 | 4 => 4 | 36 => 330 | 35 => 329 | 41 => 207 | 5 => 5 | 9 => 9 | 53 => 356 | 57 => 359 | 63 => 378 | 64 => 321 | n => n,fun | n => n⟩
theorem Tryz.sortS : Go.Proofs.SlLaysM.n6 Tryz.prog Tryz.sortS_ren:={
 mixed:=by kernel_rfl
 f6:=⟨Tryz.f226.name,by decide,Tryz.func226.trans (congrArg some (by kernel_rfl))⟩
 f8:=Tryz.func206.trans (congrArg some (by kernel_rfl))
 f9:=⟨Tryz.f260.name,by decide,Tryz.func260.trans (congrArg some (by kernel_rfl))⟩
 f19:=Tryz.func249.trans (congrArg some (by kernel_rfl))
 f20:=Tryz.func250.trans (congrArg some (by kernel_rfl))
 f21:=⟨Tryz.f278.name,by decide,Tryz.func278.trans (congrArg some (by kernel_rfl))⟩
 f22:=⟨Tryz.f279.name,by decide,Tryz.func279.trans (congrArg some (by kernel_rfl))⟩
 f23:=⟨Tryz.f280.name,by decide,Tryz.func280.trans (congrArg some (by kernel_rfl))⟩
 f24:=⟨Tryz.f281.name,by decide,Tryz.func281.trans (congrArg some (by kernel_rfl))⟩
 f25:=⟨Tryz.f282.name,by decide,Tryz.func282.trans (congrArg some (by kernel_rfl))⟩
 f26:=⟨Tryz.f283.name,by decide,Tryz.func283.trans (congrArg some (by kernel_rfl))⟩
 f27:=⟨Tryz.f284.name,by decide,Tryz.func284.trans (congrArg some (by kernel_rfl))⟩
 f28:=⟨Tryz.f285.name,by decide,Tryz.func285.trans (congrArg some (by kernel_rfl))⟩
 f29:=⟨Tryz.f286.name,by decide,Tryz.func286.trans (congrArg some (by kernel_rfl))⟩
 f31:=Tryz.func268.trans (congrArg some (by kernel_rfl))
 f32:=Tryz.func269.trans (congrArg some (by kernel_rfl))
 f36:=⟨Tryz.f294.name,by decide,Tryz.func294.trans (congrArg some (by kernel_rfl))⟩
 f37:=⟨Tryz.f295.name,by decide,Tryz.func295.trans (congrArg some (by kernel_rfl))⟩
 f38:=⟨Tryz.f296.name,by decide,Tryz.func296.trans (congrArg some (by kernel_rfl))⟩
 f39:=⟨Tryz.f297.name,by decide,Tryz.func297.trans (congrArg some (by kernel_rfl))⟩
 f41:=⟨Tryz.f304.name,by decide,Tryz.func304.trans (congrArg some (by kernel_rfl))⟩
 t0:=Tryz.underlying0
 a0:=Tryz.isAgg0
 z0:=Tryz.sizeOf0
 v0:=Tryz.zeroValue0
 t3:=Tryz.underlying3
 a3:=Tryz.isAgg3
 z3:=Tryz.sizeOf3
 v3:=Tryz.zeroValue3
 t4:=Tryz.underlying4
 a4:=Tryz.isAgg4
 z4:=Tryz.sizeOf4
 v4:=Tryz.zeroValue4
 t5:=Tryz.underlying5
 a5:=Tryz.isAgg5
 z5:=Tryz.sizeOf5
 v5:=Tryz.zeroValue5
 t9:=Tryz.underlying9
 a9:=Tryz.isAgg9
 z9:=Tryz.sizeOf9
 v9:=Tryz.zeroValue9
 t26:=Tryz.underlying31
 a26:=Tryz.isAgg31
 z26:=Tryz.sizeOf31
 v26:=Tryz.zeroValue31
 t27:=Tryz.underlying31
 a27:=Tryz.isAgg31
 z27:=Tryz.sizeOf31
 v27:=Tryz.zeroValue31
 t29:=Tryz.underlying9
 a29:=Tryz.isAgg9
 z29:=Tryz.sizeOf9
 v29:=Tryz.zeroValue9
 t32:=Tryz.underlying167
 a32:=Tryz.isAgg167
 z32:=Tryz.sizeOf167
 v32:=Tryz.zeroValue167
 t35:=Tryz.underlying329
 a35:=Tryz.isAgg329
 z35:=Tryz.sizeOf329
 v35:=Tryz.zeroValue329
 t36:=Tryz.underlying330
 a36:=Tryz.isAgg330
 z36:=Tryz.sizeOf330
 v36:=Tryz.zeroValue330
 t41:=Tryz.underlying207
 a41:=Tryz.isAgg207
 z41:=Tryz.sizeOf207
 v41:=Tryz.zeroValue207
 t44:=Tryz.underlying165
 a44:=Tryz.isAgg165
 z44:=Tryz.sizeOf165
 v44:=Tryz.zeroValue165
 t46:=Tryz.underlying32
 a46:=Tryz.isAgg32
 z46:=Tryz.sizeOf32
 v46:=Tryz.zeroValue32
 t53:=Tryz.underlying356
 a53:=Tryz.isAgg356
 z53:=Tryz.sizeOf356
 v53:=Tryz.zeroValue356
 t57:=Tryz.underlying359
 a57:=Tryz.isAgg359
 z57:=Tryz.sizeOf359
 v57:=Tryz.zeroValue359
 t63:=Tryz.underlying378
 a63:=Tryz.isAgg378
 z63:=Tryz.sizeOf378
 v63:=Tryz.zeroValue378
 t64:=Tryz.underlying321
 a64:=Tryz.isAgg321
 z64:=Tryz.sizeOf321
 v64:=Tryz.zeroValue321 }
def Tryz.cloneR_ren : Go.Shelf.Ren:=⟨fun | 41 => 71 | n => n,fun | 22 => 137 | 23 => 69 | 4 => 4 | n => n,fun | n => n⟩
theorem Tryz.cloneR : Go.Proofs.SlLaysE0.n41 Tryz.prog Tryz.cloneR_ren:={
 mixed:=by kernel_rfl
 f41:=⟨Tryz.f71.name,by decide,Tryz.func71.trans (congrArg some (by kernel_rfl))⟩
 t4:=Tryz.underlying4
 a4:=Tryz.isAgg4
 z4:=Tryz.sizeOf4
 v4:=Tryz.zeroValue4
 t22:=Tryz.underlying137
 a22:=Tryz.isAgg137
 z22:=Tryz.sizeOf137
 v22:=Tryz.zeroValue137 }
def Tryz.cloneO_ren : Go.Shelf.Ren:=⟨fun | 41 => 111 | n => n,fun | 22 => 194 | 23 => 197 | 4 => 4 | n => n,fun | n => n⟩
theorem Tryz.cloneO : Go.Proofs.SlLaysE0.n41 Tryz.prog Tryz.cloneO_ren:={
 mixed:=by kernel_rfl
 f41:=⟨Tryz.f111.name,by decide,Tryz.func111.trans (congrArg some (by kernel_rfl))⟩
 t4:=Tryz.underlying4
 a4:=Tryz.isAgg4
 z4:=Tryz.sizeOf4
 v4:=Tryz.zeroValue4
 t22:=Tryz.underlying194
 a22:=Tryz.isAgg194
 z22:=Tryz.sizeOf194
 v22:=Tryz.zeroValue194 }
def Tryz.splitS_ren : Go.Shelf.Ren:=⟨fun | 146 => 184 | 221 => 232 | 268 => 263 | 138 => 264 | 143 => 265 | 195 => 287 | 197 => 288 | 218 => 289 | 219 => 290 | 260 => 298 | 217 => 299 | 225 => 300 | 224 => 301 | 267 => 302 | 266 => 305 | 314 => 306 | n => n,fun | 9 => 9 | 31 => 31 | 3 => 3 | 4 => 4 | 0 => 0 | 105 => 309 | 21 => 21 | 5 => 5 | 46 => 167 | 119 => 363 | 139 => 366 | 138 => 365 | 146 => 386 | 51 => 165 | n => n,fun | 1 => 2 | 3 => 0 | 4 => 1 | n => n⟩
theorem Tryz.splitS : Go.Proofs.Lays.n146 Tryz.prog Tryz.splitS_ren:={
 mixed:=by kernel_rfl
 f138:=Tryz.func264.trans (congrArg some (by kernel_rfl))
 f143:=Tryz.func265.trans (congrArg some (by kernel_rfl))
 f146:=Tryz.func184.trans (congrArg some (by kernel_rfl))
 f195:=Tryz.func287.trans (congrArg some (by kernel_rfl))
 f197:=Tryz.func288.trans (congrArg some (by kernel_rfl))
 f217:=Tryz.func299.trans (congrArg some (by kernel_rfl))
 f218:=Tryz.func289.trans (congrArg some (by kernel_rfl))
 f219:=Tryz.func290.trans (congrArg some (by kernel_rfl))
 f221:=Tryz.func232.trans (congrArg some (by kernel_rfl))
 f224:=Tryz.func301.trans (congrArg some (by kernel_rfl))
 f225:=Tryz.func300.trans (congrArg some (by kernel_rfl))
 f260:=Tryz.func298.trans (congrArg some (by kernel_rfl))
 f266:=Tryz.func305.trans (congrArg some (by kernel_rfl))
 f267:=Tryz.func302.trans (congrArg some (by kernel_rfl))
 f268:=Tryz.func263.trans (congrArg some (by kernel_rfl))
 f314:=Tryz.func306.trans (congrArg some (by kernel_rfl))
 t0:=Tryz.underlying0
 a0:=Tryz.isAgg0
 z0:=Tryz.sizeOf0
 v0:=Tryz.zeroValue0
 t3:=Tryz.underlying3
 a3:=Tryz.isAgg3
 z3:=Tryz.sizeOf3
 v3:=Tryz.zeroValue3
 t4:=Tryz.underlying4
 a4:=Tryz.isAgg4
 z4:=Tryz.sizeOf4
 v4:=Tryz.zeroValue4
 t5:=Tryz.underlying5
 a5:=Tryz.isAgg5
 z5:=Tryz.sizeOf5
 v5:=Tryz.zeroValue5
 t9:=Tryz.underlying9
 a9:=Tryz.isAgg9
 z9:=Tryz.sizeOf9
 v9:=Tryz.zeroValue9
 t21:=Tryz.underlying21
 a21:=Tryz.isAgg21
 z21:=Tryz.sizeOf21
 v21:=Tryz.zeroValue21
 t31:=Tryz.underlying31
 a31:=Tryz.isAgg31
 z31:=Tryz.sizeOf31
 v31:=Tryz.zeroValue31
 t46:=Tryz.underlying167
 a46:=Tryz.isAgg167
 z46:=Tryz.sizeOf167
 v46:=Tryz.zeroValue167
 t51:=Tryz.underlying165
 a51:=Tryz.isAgg165
 z51:=Tryz.sizeOf165
 v51:=Tryz.zeroValue165
 t105:=Tryz.underlying309
 a105:=Tryz.isAgg309
 z105:=Tryz.sizeOf309
 v105:=Tryz.zeroValue309
 t119:=Tryz.underlying363
 a119:=Tryz.isAgg363
 z119:=Tryz.sizeOf363
 t138:=Tryz.underlying365
 a138:=Tryz.isAgg365
 z138:=Tryz.sizeOf365
 v138:=Tryz.zeroValue365
 t139:=Tryz.underlying366
 a139:=Tryz.isAgg366
 z139:=Tryz.sizeOf366
 v139:=Tryz.zeroValue366
 t146:=Tryz.underlying386
 a146:=Tryz.isAgg386
 z146:=Tryz.sizeOf386
 v146:=Tryz.zeroValue386
 g1:=by kernel_rfl
 g3:=by kernel_rfl
 g4:=by kernel_rfl }
end
end Go.Proofs
namespace Go.Proofs.YtabdcphioccgnaaGreatDoor
section
open Go.RowKit Go.ChangeMaps Go.MapKept Go.Maps Go.Sort Go.Shelf
theorem sortsI (m : Nat) : AnyZI.SortsIn Tryz.prog Tryz.sortedI_ren Fence.wide m :=
 ⟨fun blk off cap ss W hH hblk hsz => callsIn_wide.2 (AnyM.slices_Sort_int Tryz.sortI blk off cap ss W hH hblk hsz),
  fun p cap W => callsIn_wide.2 (AnyM.slices_Sort_int_none Tryz.sortI p cap W)⟩
theorem ids_raw (t b nn : Nat) (D0 : DataW Value) (w : World) (hown : w.ownsMap Tryz.prog TI64 RH b nn D0) (c0 : w.cell? ⟨t,0,none⟩ = some (.map (some b))) (hmax : Maps.size D0 <= maxLen) (hbytes : Maps.size D0 * 8 <= 140737488355328) :
  Calls Tryz.prog 175 #[.pointer (some ⟨t,0,none⟩)] w fun e w' => ∃ (v : Value) (ss : List Int),e = .returned v /\ ss.Perm (intKeys D0) /\
   w'.ownsRow w.heap.size TI64 1 v ss.length ((ss.mergeSort (fun x y => decide (x <= y))).map encZ) /\ (v = .slice none 0 0 ↔ ss = []) /\ Below w.heap.size w w':=by
 refine (callsIn_wide (n:=6)).1 ?_
 have hbl:=hown.lt
 have hseq : SeqGives Fence.wide 2 Tryz.prog 258 #[.pointer (some ⟨w.heap.size,0,none⟩)] encZ (fun ss => ss.Perm (intKeys D0)) (Maps.size D0) (w.alloc (.cells #[.map (some b)] 186)) :=
  AnyZI.keys_gives (ρ:=Tryz.keysI_ren) { Tryz.keysI with } Fence.wide _ trivial rfl (by omega) w.heap.size b nn D0 _ (by simp) (by simp) (by
   obtain ⟨es,clock,hb,Ft,hs,hD⟩:=hown
   exact ⟨es,clock,(Below.heap_alloc _ _ b hbl).trans hb,Ft,hs,hD⟩)
 have cK : ∀ mb W,CallsIn Fence.wide 5 Tryz.prog 220 #[.map mb] W fun e w' => e = .returned (.func (.func 258) #[] #[.pointer (some ⟨W.heap.size,0,none⟩)]) /\ w' = W.alloc (.cells #[.map mb] 186):=fun mb W => AnyZI.keys_in Tryz.keysI Fence.wide 5 trivial rfl mb W
 have cS:=AnyZI.sorted_in Tryz.sortedI Fence.wide 5 trivial trivial trivial trivial rfl (by omega) (sortsI _) (enters_of Tryz.func152 (by kernel_rfl) rfl) 258 #[.pointer (some ⟨w.heap.size,0,none⟩)] trivial (enters_of Tryz.func258 (by kernel_rfl) rfl) _ _ hmax hbytes _ hseq
 change CallsIn _ _ Tryz.prog 81 _ _ _ at cS
 have hfK : Fence.wide.fn 220:=trivial
 have hfS : Fence.wide.fn 81:=trivial
 clear hown hseq
 refine callsIn_of_wp Tryz.func175 rfl trivial ?_ rfl
 simp only [Tryz.ntmps175,List.size_toArray,List.length_cons,List.length_nil,Nat.reduceAdd,Nat.reduceSub,Array.replicate_succ,Array.replicate_zero,List.push_toArray,List.append_toArray,List.nil_append,List.cons_append]
 gi_wp2_with (first
  | (gi_at_call 220; refine (cK _ _).mono ?_; rintro e w' ⟨rfl,rfl⟩)
  | (gi_at_call 81; refine cS.mono ?_; rintro e w' ⟨v,ss,rfl,hS,hrow,hnil,hb⟩))
 go_ret
 exact ⟨v,ss,rfl,hS,ownsRow_base_a hrow (by simp),hnil,((Below.refl _ w).alloc (Nat.le_refl _) _).trans (hb.mono (by simp))⟩
def OwnI (w : World) (B : Nat) (v : Value) (l : List Nat) : Prop:=w.ownsRow B TI64 1 v l.length (l.map fun (n : Nat) => Value.int .i64 (n : Int))
theorem OwnI.below {w w' : World} {B : Nat} {v : Value} {l : List Nat} (h : OwnI w B v l) (hb : Below w.heap.size w w') : OwnI w' B v l :=
 World.ownsRow.kept h (row:=none) ⟨hb.os,hb.tape,hb.output,hb.size,fun k hk _ => hb.block k hk⟩ (by cases v.ownBlock <;> simp)
theorem OwnI.at {w : World} {B n : Nat} {v : Value} {l : List Nat} (h : OwnI w B v l) (hn : l.length = n) : ∃ a cap,v = .slice a n cap /\ n <= cap /\ (0 < n -> ∃ g,a = some ⟨g,0,none⟩ /\ B <= g /\ g < w.heap.size /\ ∀ i (hi : i < l.length),w.cell? ⟨g,i,none⟩ = some (.int .i64 (l[i] : Int))):=by
 have h1:=h
 rcases h.2 with ⟨rfl,h4⟩ | ⟨g,cap,cur,rfl,h6,h7,h8,h9,h10,h11⟩
 ·exact ⟨none,0,by rw [<- hn,h4],by omega,fun h => by omega⟩
 ·refine ⟨some ⟨g,0,none⟩,cap,by rw [hn],by omega,fun _ => ⟨g,rfl,h6,(Array.getElem?_eq_some_iff.1 h7).1,fun i hi => ?_⟩⟩
  have:=World.ownsRow.cellAt (size:=1) h1 i (by omega)
  rw [this]
  simp [hi]
theorem intKeys_mapK (l : List (Nat × Value)) : intKeys (mapK numS l) = l.map fun p => (p.1 : Int):=by
 unfold mapK intKeys
 simp only
 rw [List.map_map]
 rfl
theorem sorted_rising (l : List Nat) (h : l.Pairwise (· < ·)) : (l.map fun (n : Nat) => (n : Int)).mergeSort (fun x y => decide (x <= y)) = l.map fun (n : Nat) => (n : Int):=by
 refine List.mergeSort_of_pairwise ?_
 rw [List.pairwise_map]
 exact h.imp (fun {a b} hab => by simp; omega)
theorem ids_any {w : World} {L B t mb c : Nat} {F G : Nat -> Nat} {T : Tr} (h : TreeIn w L B t mb F G T) (ok : TrOk c T) :
  Calls Tryz.prog 175 #[.pointer (some ⟨t,0,none⟩)] w fun e w' => ∃ v,e = .returned v /\ OwnI w' w.heap.size v (T.map (·.1)) /\ Below w.heap.size w w':=by
 have hl:=ok.len
 have hsz : Maps.size (mapK numS (vals (ival F) T)) = T.length:=by rw [mapK_size,vals_len]
 refine (ids_raw t mb _ _ w h.map h.cell0 (by rw [hsz]; unfold maxLen; omega) (by rw [hsz]; omega)).mono ?_
 rintro e w' ⟨v,ss,rfl,hp,hrow,_,hb⟩
 refine ⟨v,rfl,?_,hb⟩
 have hk : intKeys (mapK numS (vals (ival F) T)) = (T.map (·.1)).map fun (n : Nat) => (n : Int):=by
  rw [intKeys_mapK]
  unfold vals
  rw [List.map_map,List.map_map]
  rfl
 rw [hk] at hp
 have hlen : ss.length = (T.map (·.1)).length:=by rw [hp.length_eq,List.length_map]
 have hrise : (T.map (·.1)).Pairwise (· < ·):=by rw [List.pairwise_map]; exact h.uniq
 have hs:=mergeSort_of_perm_i hp
 have hs2:=sorted_rising _ hrise
 unfold OwnI
 rw [<- hlen]
 have e1 : (ss.mergeSort fun x y => decide (x <= y)) = (T.map (·.1)).map fun (n : Nat) => (n : Int):=hs.trans hs2
 rw [e1,List.map_map] at hrow
 exact hrow
theorem sortsS (m : Nat) : AnyZ.SortsIn Tryz.prog Tryz.sortedS_ren Fence.wide m :=
 ⟨fun blk off cap ss W hH hblk hsz => callsIn_wide.2 (AnyM.slices_Sort_string Tryz.sortS blk off cap ss W hH hblk hsz),
  fun p cap W => callsIn_wide.2 (AnyM.slices_Sort_string_none Tryz.sortS p cap W)⟩
theorem skeys_any (mb : Option Nat) (W : World) :
  Calls Tryz.prog 179 #[.map mb] W fun e w' => e = .returned (.func (.func 227) #[] #[.pointer (some ⟨W.heap.size,0,none⟩)]) /\ w' = W.alloc (.cells #[.map mb] 190) :=
 (callsIn_wide (n:=5)).1 (AnyZ.keys_in Tryz.keysS Fence.wide 5 trivial rfl mb W)
theorem before_lt : ∀ (a b : List UInt8),bytesBefore a b = true -> a < b
 | [],[],h => by simp [bytesBefore] at h
 | [],_ :: _,_ => List.nil_lt_cons ..
 | _ :: _,[],h => by simp [bytesBefore] at h
 | a :: r,b :: s,h => by
  simp only [bytesBefore,Bool.or_eq_true,decide_eq_true_eq,Bool.and_eq_true,beq_iff_eq] at h
  rw [List.cons_lt_cons_iff]
  rcases h with h | ⟨h1,h2⟩
  ·exact .inl h
  ·exact .inr ⟨h1,before_lt r s h2⟩
theorem before_le (a b : List UInt8) (h : bytesBefore a b = true) : a <= b:=List.le_of_lt (before_lt a b h)
theorem MapAt.srising {α : Type} {f : List UInt8 -> α -> Value} {w : World} {b : Nat} {l : List (List UInt8 × α)} (h : MapAt strS Tryz.prog TStr w b (vals f l)) : l.Pairwise (fun p q => bytesBefore p.1 q.1 = true):=by
 obtain ⟨es,e,h1,_⟩:=World.ownsMap.canon h skeyed
 unfold mapK vals at e
 injection e with e
 rw [<- e,List.pairwise_map,List.pairwise_map] at h1
 exact h1.imp (fun {a b} hab => by simpa [strS,Lit.before] using hab)
theorem strKeys_mapK (l : List (List UInt8 × Value)) : strKeys (mapK strS l) = l.map (·.1):=by
 unfold mapK strKeys
 simp only
 rw [List.map_map]
 rfl
theorem ssorted_any (b : Nat) (l : List (List UInt8 × Nat)) (w : World) (h : MapAt strS Tryz.prog TStr w b (vals nval l)) (hl : l.length <= 100000) :
  Calls Tryz.prog 178 #[.func (.func 227) #[] #[.pointer (some ⟨w.heap.size,0,none⟩)]] (w.alloc (.cells #[.map (some b)] 190)) fun e w' => ∃ v,e = .returned v /\ OwnS w' w.heap.size v (l.map (·.1)) /\ Below w.heap.size w w':=by
 have hown : w.ownsMap Tryz.prog TStr RH b _ _:=h
 have hbl:=hown.lt
 have hsz : Maps.size (mapK strS (vals nval l)) = l.length:=by rw [mapK_size,vals_len]
 have hseq : SeqGives Fence.wide 2 Tryz.prog 227 #[.pointer (some ⟨w.heap.size,0,none⟩)] encStr (fun ss => ss.Perm (strKeys (mapK strS (vals nval l)))) (Maps.size (mapK strS (vals nval l))) (w.alloc (.cells #[.map (some b)] 190)) :=
  AnyZ.keys_gives (ρ:=Tryz.keysS_ren) { Tryz.keysS with } Fence.wide _ trivial rfl (by omega) w.heap.size b _ _ _ (by simp) (by simp) (by
   obtain ⟨es,clock,hb,Ft,hs,hD⟩:=hown
   exact ⟨es,clock,(Below.heap_alloc _ _ b hbl).trans hb,Ft,hs,hD⟩)
 have cS:=AnyZ.sorted_in Tryz.sortedS Fence.wide 5 trivial trivial trivial trivial rfl (by omega) (sortsS _) (enters_of Tryz.func226 (by kernel_rfl) rfl) 227 #[.pointer (some ⟨w.heap.size,0,none⟩)] trivial (enters_of Tryz.func227 (by kernel_rfl) rfl) _ _ (by rw [hsz]; unfold maxLen; omega) (by rw [hsz]; omega) _ hseq
 change CallsIn _ _ Tryz.prog 178 _ _ _ at cS
 refine ((callsIn_wide (n:=5)).1 cS).mono ?_
 rintro e w' ⟨v,ss,rfl,hp,hrow,_,hb⟩
 refine ⟨v,rfl,?_,((Below.refl _ w).alloc (Nat.le_refl _) _).trans (hb.mono (by simp))⟩
 rw [strKeys_mapK] at hp
 have hk : (vals nval l).map (·.1) = l.map (·.1):=by unfold vals; rw [List.map_map]; rfl
 rw [hk] at hp
 have hlen : ss.length = (l.map (·.1)).length:=hp.length_eq
 have hs2 : (l.map (·.1)).mergeSort (fun x y => decide (x <= y)) = l.map (·.1):=by
  refine List.mergeSort_of_pairwise ?_
  rw [List.pairwise_map]
  exact h.srising.imp (fun {a b} hab => by simpa using before_le _ _ hab)
 have e1 : (ss.mergeSort fun x y => decide (x <= y)) = l.map (·.1):=(mergeSort_of_perm hp).trans hs2
 rw [e1] at hrow
 unfold OwnS
 rw [<- hlen]
 exact ownsRow_base_a hrow (by simp)
theorem ssorted_nil (w : World) :
  Calls Tryz.prog 178 #[.func (.func 227) #[] #[.pointer (some ⟨w.heap.size,0,none⟩)]] (w.alloc (.cells #[.map none] 190)) fun e w' => e = .returned (.slice none 0 0) /\ Below w.heap.size w w':=by
 have hseq : SeqGives Fence.wide 2 Tryz.prog 227 #[.pointer (some ⟨w.heap.size,0,none⟩)] encStr (fun ss : List (List UInt8) => ss = []) 0 (w.alloc (.cells #[.map none] 190)) :=
  AnyZ.keys_gives_nil (ρ:=Tryz.keysS_ren) { Tryz.keysS with } Fence.wide _ trivial rfl w.heap.size _ (by simp) (by simp)
 have cS:=AnyZ.sorted_in Tryz.sortedS Fence.wide 5 trivial trivial trivial trivial rfl (by omega) (sortsS _) (enters_of Tryz.func226 (by kernel_rfl) rfl) 227 #[.pointer (some ⟨w.heap.size,0,none⟩)] trivial (enters_of Tryz.func227 (by kernel_rfl) rfl) _ 0 (Nat.zero_le _) (by omega) _ hseq
 change CallsIn _ _ Tryz.prog 178 _ _ _ at cS
 refine ((callsIn_wide (n:=5)).1 cS).mono ?_
 rintro e w' ⟨v,ss,rfl,rfl,_,hnil,hb⟩
 exact ⟨by rw [hnil.2 rfl],((Below.refl _ w).alloc (Nat.le_refl _) _).trans (hb.mono (by simp))⟩
end
section
open Go.RowKit Go.ChangeMaps Go.MapKept
variable {w : World} {L B t mb c : Nat} {F G : Nat -> Nat} {T : Tr}
def Shut0 (T : Tr) : Prop:=∀ i x,getK i T = some x -> x.n.kind ≠ 2 -> x.n.closed = true
theorem drop_no (h : TreeIn w L B t mb F G T) (ok : TrOk c T) (hc : c <= 60000) (hs : Shut0 T) (i : Nat) (x : It) (hx : getK i T = some x) :
  Calls Tryz.prog 176 #[.pointer (some ⟨t,0,none⟩),.int .i64 (i : Int)] w fun e w' => (∃ y : Nat,e = .returned (.int .i64 (y : Int))) /\ Below w.heap.size w w':=by
 have hba:=(Below.refl w.heap.size w).alloc (Nat.le_refl _) (.cells #[.int .i64 (i : Int)] 3)
 have hi:=(ok.nd i x hx).1
 have HF:=qh (file_tree (h.below hba) ok i (by omega))
 obtain ⟨_,v,m,h2,_⟩:=(h.below hba).item i x hx
 obtain ⟨_,_,_,_,_,d5,_⟩:=item_cells h2
 have HB:=qh hba
 by_cases hk : x.n.kind = 2
 ·have hf : fileT T i = 22:=by unfold fileT; rw [hx]; simp [hk]
  rw [fileV_no _ _ _ (by omega),hf] at HF
  clear h ok hs hx hk hf h2 hba hi
  go_enter Tryz.func176,Tryz.ntmps176
  go_wp2_with fail
  refine HF.out.mono ?_
  rintro e w1 ⟨rfl,rfl⟩
  go_wp2_with fail
  go_ret
  exact ⟨⟨22,rfl⟩,HB.out⟩
 ·have hf : fileT T i = 0:=by unfold fileT; rw [hx]; simp [hk]
  rw [fileV_ok _ _ _ hf] at HF
  rw [hs i x hx hk] at d5
  clear h ok hs hx hk hf h2 hba hi
  go_enter Tryz.func176,Tryz.ntmps176
  go_wp2_with fail
  refine HF.out.mono ?_
  rintro e w1 ⟨rfl,hw1⟩
  subst hw1
  go_wp2_with fail
  go_ret
  exact ⟨⟨27,rfl⟩,HB.out⟩
theorem commit_any (h : TreeIn w L B t mb F G T) (ok : TrOk c T) (hc : c <= 60000) (hLw : L <= w.heap.size) (hs : Shut0 T) :
  Calls Tryz.prog 102 #[.pointer (some ⟨t,0,none⟩)] w fun e w' => ∃ t',e = .returned (.pointer (some ⟨t',0,none⟩)) /\ TreeAt w' L w.heap.size t' T /\ Below w.heap.size w w':=by
 have HC:=qh (tcopy_any h ok hc hLw)
 have HOK:=qh (aI ok hs)
 have HT0:=qh h.uniq
 clear h ok hs
 go_enter Tryz.func102,Tryz.ntmps102
 go_wp2_with fail
 refine HC.out.mono ?_
 rintro e w1 ⟨t1,rfl,⟨mb1,F1,G1,hT1⟩,hb1⟩
 have HT1:=qh hT1
 have HI:=qh (ids_any hT1 HOK.out.1)
 have hE1:=qh (show Ext w.heap.size w w1 from ⟨hb1,hb1.size⟩)
 clear hT1 hb1
 go_wp2_with fail
 refine HI.out.mono ?_
 rintro e w2 ⟨v2,rfl,ho2,hb2⟩
 obtain ⟨n,hn⟩:=qnm ((T.map (·.1)).length)
 obtain ⟨a2,c2,rfl,hcap,hat⟩:=ho2.at hn.symm
 have hnT : n = T.length:=by rw [hn,List.length_map]
 have hnl : n <= 64:=by have:=HOK.out.1.len; omega
 have HT2:=qh (HT1.out.below hb2)
 have HE2:=qh (hE1.out.step hb2)
 have HAT:=qh (aI hat hnT)
 clear ho2 hb2 hat hn hnT hE1 HI HT1
 go_wp2_with fail
 go_loopw [12] (fun k wr => ∃ j : Nat,j <= n /\ k = .int .i64 (j : Int) /\ Below w2.heap.size w2 wr) (fun k _ => n - (intOf k).toNat)
 case atStart => exact ⟨0,by omega,rfl,Below.refl _ _⟩
 case round =>
  obtain ⟨j,hj,rfl,hbr⟩:=hrel
  by_cases hlt : j < n
  ·obtain ⟨g,rfl,_,hg,hcell⟩:=HAT.out.1 (by omega)
   have hjl : j < (T.map (·.1)).length:=by rw [List.length_map,<- HAT.out.2]; exact hlt
   have c0:=(hbr.cell (p:=⟨g,j,none⟩) hg).trans (hcell j hjl)
   have hjT : j < T.length:=by rw [<- HAT.out.2]; exact hlt
   have hx : getK (T.map (·.1))[j] T = some (T[j]'hjT).2:=by
    rw [List.getElem_map]
    exact getK_of_mem (HT0.out.imp (fun {a b} hab => by omega)) (List.getElem_mem hjT)
   generalize (T.map (·.1))[j] = i at c0 hx
   have HD:=qh (drop_no (HT2.out.below hbr) HOK.out.1 hc HOK.out.2 i _ hx)
   have e1 : (0 : Int) <= (j : Int):=by omega
   have e2 : (j : Int) < (n : Int):=by omega
   obtain ⟨j2,hj2⟩:=qnm (j + 1)
   have e3 : IntKind.i64.wrap ((j : Int) + 1) = (j2 : Int):=by rw [IntWalk.i64_in _ (by omega)]; omega
   have HJ:=qh hj2
   have HBR:=qh hbr
   clear hcell hx hjl hjT hj2 hbr hj
   go_wp2_with fail
   refine HD.out.mono ?_
   rintro e w3 ⟨⟨y,rfl⟩,hb3⟩
   have HB3:=qh (HBR.out.trans (hb3.mono HBR.out.size))
   clear hb3
   go_wp2_with fail
   go_roundw
   case rel => exact ⟨j2,by have:=HJ.out; omega,rfl,HB3.out⟩
   case measure =>
    have:=HJ.out
    show n - (j2 : Int).toNat < n - (j : Int).toNat
    omega
  ·obtain rfl : j = n:=by omega
   clear hlt hj
   have HF:=qh (aI (HT2.out.below hbr) (HE2.out.step hbr))
   clear hbr
   go_wp2_with fail
   go_ret
   exact ⟨_,rfl,⟨_,_,_,HF.out.1⟩,HF.out.2.1⟩
end
end Go.Proofs.YtabdcphioccgnaaGreatDoor
