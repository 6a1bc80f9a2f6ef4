/- Shelf; IDs; Names; Commit; TreeSave. -/
import Derived.Ground.GgzProg
import Derived.Ground.NamesProg
import Derived.Ground.SlgfProg
import Derived.Ground.SlgmProg
import Derived.Ground.SlgnProg
import Derived.Ground.SlmdProg
import Derived.Shelf.AbstractIn
import Derived.Shelf.SlIter.Nil
import Derived.Shelf.SlIterI.Nil
import Derived.Shelf.SlMaps.DeleteFunc
import Derived.Shelf.SlicesE.Clone
import Derived.Shelf.SlicesQ.IndexFunc
import Derived.Shelf.SortM.Plain
import Derived.Shelf.SortM.SortNone
import Derived.Shelf.Strings.Split
import Derived.Test.YtbemfdcjieakdaaGreatDoorK19
set_option maxRecDepth 100000
set_option maxHeartbeats 8000000
namespace Go.Proofs
section
open Go.Shelf
def Tryz.keysI_ren:Go.Shelf.Ren:=⟨fun | 7=>221 | 10=>288 | n=>n,fun | 23=>226 | 26=>3 | 3=>229 | 28=>109 | 0=>0 | 27=>108 | 33=>82 | 4=>4 | n=>n,fun | n=>n⟩
theorem Tryz.keysI:Go.Proofs.SlLaysZI.n7 Tryz.prog Tryz.keysI_ren:={
 mixed:=by kernel_rfl
 f7:=⟨Tryz.f221.name,by decide,Tryz.func221.trans (congrArg some (by kernel_rfl))⟩
 f10:=⟨Tryz.f288.name,by decide,Tryz.func288.trans (congrArg some (by kernel_rfl))⟩
 t0:=Tryz.underlying0
 a0:=Tryz.isAgg0
 z0:=Tryz.sizeOf0
 v0:=Tryz.zeroValue0
 t4:=Tryz.underlying4
 a4:=Tryz.isAgg4
 z4:=Tryz.sizeOf4
 v4:=Tryz.zeroValue4
 t23:=Tryz.underlying226
 a23:=Tryz.isAgg226
 z23:=Tryz.sizeOf226
 v23:=Tryz.zeroValue226
 t26:=Tryz.underlying3
 a26:=Tryz.isAgg3
 z26:=Tryz.sizeOf3
 v26:=Tryz.zeroValue3
 t27:=Tryz.underlying108
 a27:=Tryz.isAgg108
 z27:=Tryz.sizeOf108
 v27:=Tryz.zeroValue108
 t28:=Tryz.underlying109
 a28:=Tryz.isAgg109
 z28:=Tryz.sizeOf109
 v28:=Tryz.zeroValue109
 t33:=Tryz.underlying82
 a33:=Tryz.isAgg82
 z33:=Tryz.sizeOf82
 v33:=Tryz.zeroValue82 }
def Tryz.sortedI_ren:Go.Shelf.Ren:=⟨fun | 6=>49 | 8=>114 | 9=>115 | 11=>197 | 13=>199 | 12=>198 | 23=>271 | 24=>272 | 14=>262 | 15=>263 | 16=>264 | 17=>265 | 18=>266 | 19=>267 | 20=>268 | 21=>269 | 22=>270 | 25=>302 | 26=>303 | 27=>304 | 28=>305 | 29=>306 | 30=>307 | 31=>330 | n=>n,fun | 26=>3 | 28=>109 | 24=>52 | 0=>0 | 3=>3 | 37=>195 | 48=>193 | 50=>29 | 4=>4 | 40=>357 | 39=>356 | 45=>255 | 5=>5 | 9=>9 | 51=>384 | 55=>387 | 57=>408 | 58=>105 | 33=>82 | n=>n,fun | n=>n⟩
theorem Tryz.sortedI:Go.Proofs.SlLaysZI.n6 Tryz.prog Tryz.sortedI_ren:={
 mixed:=by kernel_rfl
 f6:=⟨Tryz.f49.name,by decide,Tryz.func49.trans (congrArg some (by kernel_rfl))⟩
 f8:=⟨Tryz.f114.name,by decide,Tryz.func114.trans (congrArg some (by kernel_rfl))⟩
 f11:=⟨Tryz.f197.name,by decide,Tryz.func197.trans (congrArg some (by kernel_rfl))⟩
 t0:=Tryz.underlying0
 a0:=Tryz.isAgg0
 z0:=Tryz.sizeOf0
 v0:=Tryz.zeroValue0
 t24:=Tryz.underlying52
 a24:=Tryz.isAgg52
 z24:=Tryz.sizeOf52
 v24:=Tryz.zeroValue52
 t26:=Tryz.underlying3
 a26:=Tryz.isAgg3
 z26:=Tryz.sizeOf3
 v26:=Tryz.zeroValue3
 t28:=Tryz.underlying109
 a28:=Tryz.isAgg109
 z28:=Tryz.sizeOf109
 v28:=Tryz.zeroValue109
 i26:=by kernel_rfl }
def Tryz.sortI_ren:Go.Shelf.Ren:=⟨fun | 5=>115 | 8=>199 | 7=>198 | 19=>271 | 20=>272 | 10=>262 | 11=>263 | 12=>264 | 13=>265 | 14=>266 | 15=>267 | 16=>268 | 17=>269 | 18=>270 | 30=>302 | 31=>303 | 32=>304 | 33=>305 | 34=>306 | 35=>307 | 40=>330 | n=>n,fun | 23=>52 | 25=>3 | 3=>3 | 32=>195 | 22=>52 | 0=>0 | 44=>193 | 46=>29 | 4=>4 | 36=>357 | 35=>356 | 41=>255 | 5=>5 | 9=>9 | 53=>384 | 57=>387 | 63=>408 | 64=>105 | n=>n,fun | n=>n⟩
theorem Tryz.sortI:Go.Proofs.SlLaysM.n5 Tryz.prog Tryz.sortI_ren:={
 mixed:=by kernel_rfl
 f5:=⟨Tryz.f115.name,by decide,Tryz.func115.trans (congrArg some (by kernel_rfl))⟩
 f7:=⟨Tryz.f198.name,by decide,Tryz.func198.trans (congrArg some (by kernel_rfl))⟩
 f8:=Tryz.func199.trans (congrArg some (by kernel_rfl))
 f10:=⟨Tryz.f262.name,by decide,Tryz.func262.trans (congrArg some (by kernel_rfl))⟩
 f11:=⟨Tryz.f263.name,by decide,Tryz.func263.trans (congrArg some (by kernel_rfl))⟩
 f12:=⟨Tryz.f264.name,by decide,Tryz.func264.trans (congrArg some (by kernel_rfl))⟩
 f13:=⟨Tryz.f265.name,by decide,Tryz.func265.trans (congrArg some (by kernel_rfl))⟩
 f14:=⟨Tryz.f266.name,by decide,Tryz.func266.trans (congrArg some (by kernel_rfl))⟩
 f15:=⟨Tryz.f267.name,by decide,Tryz.func267.trans (congrArg some (by kernel_rfl))⟩
 f16:=⟨Tryz.f268.name,by decide,Tryz.func268.trans (congrArg some (by kernel_rfl))⟩
 f17:=⟨Tryz.f269.name,by decide,Tryz.func269.trans (congrArg some (by kernel_rfl))⟩
 f18:=⟨Tryz.f270.name,by decide,Tryz.func270.trans (congrArg some (by kernel_rfl))⟩
 f19:=Tryz.func271.trans (congrArg some (by kernel_rfl))
 f20:=Tryz.func272.trans (congrArg some (by kernel_rfl))
 f30:=⟨Tryz.f302.name,by decide,Tryz.func302.trans (congrArg some (by kernel_rfl))⟩
 f31:=Tryz.func303.trans (congrArg some (by kernel_rfl))
 f32:=Tryz.func304.trans (congrArg some (by kernel_rfl))
 f33:=⟨Tryz.f305.name,by decide,Tryz.func305.trans (congrArg some (by kernel_rfl))⟩
 f34:=⟨Tryz.f306.name,by decide,Tryz.func306.trans (congrArg some (by kernel_rfl))⟩
 f35:=⟨Tryz.f307.name,by decide,Tryz.func307.trans (congrArg some (by kernel_rfl))⟩
 f40:=⟨Tryz.f330.name,by decide,Tryz.func330.trans (congrArg some (by kernel_rfl))⟩
 t0:=Tryz.underlying0
 a0:=Tryz.isAgg0
 z0:=Tryz.sizeOf0
 v0:=Tryz.zeroValue0
 t3:=Tryz.underlying3
 a3:=Tryz.isAgg3
 z3:=Tryz.sizeOf3
 v3:=Tryz.zeroValue3
 t4:=Tryz.underlying4
 a4:=Tryz.isAgg4
 z4:=Tryz.sizeOf4
 v4:=Tryz.zeroValue4
 t5:=Tryz.underlying5
 a5:=Tryz.isAgg5
 z5:=Tryz.sizeOf5
 v5:=Tryz.zeroValue5
 t9:=Tryz.underlying9
 a9:=Tryz.isAgg9
 z9:=Tryz.sizeOf9
 v9:=Tryz.zeroValue9
 t22:=Tryz.underlying52
 a22:=Tryz.isAgg52
 z22:=Tryz.sizeOf52
 v22:=Tryz.zeroValue52
 t23:=Tryz.underlying52
 a23:=Tryz.isAgg52
 z23:=Tryz.sizeOf52
 v23:=Tryz.zeroValue52
 t25:=Tryz.underlying3
 a25:=Tryz.isAgg3
 z25:=Tryz.sizeOf3
 v25:=Tryz.zeroValue3
 t32:=Tryz.underlying195
 a32:=Tryz.isAgg195
 z32:=Tryz.sizeOf195
 v32:=Tryz.zeroValue195
 t35:=Tryz.underlying356
 a35:=Tryz.isAgg356
 z35:=Tryz.sizeOf356
 v35:=Tryz.zeroValue356
 t36:=Tryz.underlying357
 a36:=Tryz.isAgg357
 z36:=Tryz.sizeOf357
 v36:=Tryz.zeroValue357
 t41:=Tryz.underlying255
 a41:=Tryz.isAgg255
 z41:=Tryz.sizeOf255
 v41:=Tryz.zeroValue255
 t44:=Tryz.underlying193
 a44:=Tryz.isAgg193
 z44:=Tryz.sizeOf193
 v44:=Tryz.zeroValue193
 t46:=Tryz.underlying29
 a46:=Tryz.isAgg29
 z46:=Tryz.sizeOf29
 v46:=Tryz.zeroValue29
 t53:=Tryz.underlying384
 a53:=Tryz.isAgg384
 z53:=Tryz.sizeOf384
 v53:=Tryz.zeroValue384
 t57:=Tryz.underlying387
 a57:=Tryz.isAgg387
 z57:=Tryz.sizeOf387
 v57:=Tryz.zeroValue387
 t63:=Tryz.underlying408
 a63:=Tryz.isAgg408
 z63:=Tryz.sizeOf408
 v63:=Tryz.zeroValue408
 t64:=Tryz.underlying105
 a64:=Tryz.isAgg105
 z64:=Tryz.sizeOf105
 v64:=Tryz.zeroValue105 }
def Tryz.keysS_ren:Go.Shelf.Ren:=⟨fun | 7=>146 | 10=>229 | n=>n,fun | 23=>231 | 26=>9 | 3=>3 | 28=>236 | 0=>0 | 27=>235 | 33=>327 | 4=>4 | n=>n,fun | n=>n⟩
theorem Tryz.keysS:Go.Proofs.SlLaysZ.n7 Tryz.prog Tryz.keysS_ren:={
 mixed:=by kernel_rfl
 f7:=⟨Tryz.f146.name,by decide,Tryz.func146.trans (congrArg some (by kernel_rfl))⟩
 f10:=⟨Tryz.f229.name,by decide,Tryz.func229.trans (congrArg some (by kernel_rfl))⟩
 t0:=Tryz.underlying0
 a0:=Tryz.isAgg0
 z0:=Tryz.sizeOf0
 v0:=Tryz.zeroValue0
 t4:=Tryz.underlying4
 a4:=Tryz.isAgg4
 z4:=Tryz.sizeOf4
 v4:=Tryz.zeroValue4
 t23:=Tryz.underlying231
 a23:=Tryz.isAgg231
 z23:=Tryz.sizeOf231
 v23:=Tryz.zeroValue231
 t26:=Tryz.underlying9
 a26:=Tryz.isAgg9
 z26:=Tryz.sizeOf9
 v26:=Tryz.zeroValue9
 t27:=Tryz.underlying235
 a27:=Tryz.isAgg235
 z27:=Tryz.sizeOf235
 v27:=Tryz.zeroValue235
 t28:=Tryz.underlying236
 a28:=Tryz.isAgg236
 z28:=Tryz.sizeOf236
 v28:=Tryz.zeroValue236
 t33:=Tryz.underlying327
 a33:=Tryz.isAgg327
 z33:=Tryz.sizeOf327
 v33:=Tryz.zeroValue327 }
def Tryz.sortedS_ren:Go.Shelf.Ren:=⟨fun | 6=>145 | 8=>227 | 9=>228 | 11=>289 | 13=>199 | 12=>290 | 23=>271 | 24=>272 | 14=>316 | 15=>317 | 16=>318 | 17=>319 | 18=>320 | 19=>321 | 20=>322 | 21=>323 | 22=>324 | 25=>336 | 26=>303 | 27=>304 | 28=>337 | 29=>338 | 30=>339 | 31=>346 | n=>n,fun | 26=>9 | 28=>236 | 24=>37 | 0=>0 | 3=>3 | 37=>195 | 48=>193 | 50=>29 | 4=>4 | 40=>357 | 39=>356 | 45=>255 | 5=>5 | 9=>9 | 51=>384 | 55=>387 | 57=>408 | 58=>105 | 33=>327 | n=>n,fun | n=>n⟩
theorem Tryz.sortedS:Go.Proofs.SlLaysZ.n6 Tryz.prog Tryz.sortedS_ren:={
 mixed:=by kernel_rfl
 f6:=⟨Tryz.f145.name,by decide,Tryz.func145.trans (congrArg some (by kernel_rfl))⟩
 f8:=⟨Tryz.f227.name,by decide,Tryz.func227.trans (congrArg some (by kernel_rfl))⟩
 f11:=⟨Tryz.f289.name,by decide,Tryz.func289.trans (congrArg some (by kernel_rfl))⟩
 t0:=Tryz.underlying0
 a0:=Tryz.isAgg0
 z0:=Tryz.sizeOf0
 v0:=Tryz.zeroValue0
 t24:=Tryz.underlying37
 a24:=Tryz.isAgg37
 z24:=Tryz.sizeOf37
 v24:=Tryz.zeroValue37
 t26:=Tryz.underlying9
 a26:=Tryz.isAgg9
 z26:=Tryz.sizeOf9
 v26:=Tryz.zeroValue9
 t28:=Tryz.underlying236
 a28:=Tryz.isAgg236
 z28:=Tryz.sizeOf236
 v28:=Tryz.zeroValue236
 i26:=by kernel_rfl }
def Tryz.sortS_ren:Go.Shelf.Ren:=⟨fun | 6=>228 | 8=>199 | 9=>290 | 19=>271 | 20=>272 | 21=>316 | 22=>317 | 23=>318 | 24=>319 | 25=>320 | 26=>321 | 27=>322 | 28=>323 | 29=>324 | 36=>336 | 31=>303 | 32=>304 | 37=>337 | 38=>338 | 39=>339 | 41=>346 | n=>n,fun | 27=>37 | 29=>9 | 3=>3 | 32=>195 | 26=>37 | 0=>0 | 44=>193 | 46=>29 | 4=>4 | 36=>357 | 35=>356 | 41=>255 | 5=>5 | 9=>9 | 53=>384 | 57=>387 | 63=>408 | 64=>105 | n=>n,fun | n=>n⟩
theorem Tryz.sortS:Go.Proofs.SlLaysM.n6 Tryz.prog Tryz.sortS_ren:={
 mixed:=by kernel_rfl
 f6:=⟨Tryz.f228.name,by decide,Tryz.func228.trans (congrArg some (by kernel_rfl))⟩
 f8:=Tryz.func199.trans (congrArg some (by kernel_rfl))
 f9:=⟨Tryz.f290.name,by decide,Tryz.func290.trans (congrArg some (by kernel_rfl))⟩
 f19:=Tryz.func271.trans (congrArg some (by kernel_rfl))
 f20:=Tryz.func272.trans (congrArg some (by kernel_rfl))
 f21:=⟨Tryz.f316.name,by decide,Tryz.func316.trans (congrArg some (by kernel_rfl))⟩
 f22:=⟨Tryz.f317.name,by decide,Tryz.func317.trans (congrArg some (by kernel_rfl))⟩
 f23:=⟨Tryz.f318.name,by decide,Tryz.func318.trans (congrArg some (by kernel_rfl))⟩
 f24:=⟨Tryz.f319.name,by decide,Tryz.func319.trans (congrArg some (by kernel_rfl))⟩
 f25:=⟨Tryz.f320.name,by decide,Tryz.func320.trans (congrArg some (by kernel_rfl))⟩
 f26:=⟨Tryz.f321.name,by decide,Tryz.func321.trans (congrArg some (by kernel_rfl))⟩
 f27:=⟨Tryz.f322.name,by decide,Tryz.func322.trans (congrArg some (by kernel_rfl))⟩
 f28:=⟨Tryz.f323.name,by decide,Tryz.func323.trans (congrArg some (by kernel_rfl))⟩
 f29:=⟨Tryz.f324.name,by decide,Tryz.func324.trans (congrArg some (by kernel_rfl))⟩
 f31:=Tryz.func303.trans (congrArg some (by kernel_rfl))
 f32:=Tryz.func304.trans (congrArg some (by kernel_rfl))
 f36:=⟨Tryz.f336.name,by decide,Tryz.func336.trans (congrArg some (by kernel_rfl))⟩
 f37:=⟨Tryz.f337.name,by decide,Tryz.func337.trans (congrArg some (by kernel_rfl))⟩
 f38:=⟨Tryz.f338.name,by decide,Tryz.func338.trans (congrArg some (by kernel_rfl))⟩
 f39:=⟨Tryz.f339.name,by decide,Tryz.func339.trans (congrArg some (by kernel_rfl))⟩
 f41:=⟨Tryz.f346.name,by decide,Tryz.func346.trans (congrArg some (by kernel_rfl))⟩
 t0:=Tryz.underlying0
 a0:=Tryz.isAgg0
 z0:=Tryz.sizeOf0
 v0:=Tryz.zeroValue0
 t3:=Tryz.underlying3
 a3:=Tryz.isAgg3
 z3:=Tryz.sizeOf3
 v3:=Tryz.zeroValue3
 t4:=Tryz.underlying4
 a4:=Tryz.isAgg4
 z4:=Tryz.sizeOf4
 v4:=Tryz.zeroValue4
 t5:=Tryz.underlying5
 a5:=Tryz.isAgg5
 z5:=Tryz.sizeOf5
 v5:=Tryz.zeroValue5
 t9:=Tryz.underlying9
 a9:=Tryz.isAgg9
 z9:=Tryz.sizeOf9
 v9:=Tryz.zeroValue9
 t26:=Tryz.underlying37
 a26:=Tryz.isAgg37
 z26:=Tryz.sizeOf37
 v26:=Tryz.zeroValue37
 t27:=Tryz.underlying37
 a27:=Tryz.isAgg37
 z27:=Tryz.sizeOf37
 v27:=Tryz.zeroValue37
 t29:=Tryz.underlying9
 a29:=Tryz.isAgg9
 z29:=Tryz.sizeOf9
 v29:=Tryz.zeroValue9
 t32:=Tryz.underlying195
 a32:=Tryz.isAgg195
 z32:=Tryz.sizeOf195
 v32:=Tryz.zeroValue195
 t35:=Tryz.underlying356
 a35:=Tryz.isAgg356
 z35:=Tryz.sizeOf356
 v35:=Tryz.zeroValue356
 t36:=Tryz.underlying357
 a36:=Tryz.isAgg357
 z36:=Tryz.sizeOf357
 v36:=Tryz.zeroValue357
 t41:=Tryz.underlying255
 a41:=Tryz.isAgg255
 z41:=Tryz.sizeOf255
 v41:=Tryz.zeroValue255
 t44:=Tryz.underlying193
 a44:=Tryz.isAgg193
 z44:=Tryz.sizeOf193
 v44:=Tryz.zeroValue193
 t46:=Tryz.underlying29
 a46:=Tryz.isAgg29
 z46:=Tryz.sizeOf29
 v46:=Tryz.zeroValue29
 t53:=Tryz.underlying384
 a53:=Tryz.isAgg384
 z53:=Tryz.sizeOf384
 v53:=Tryz.zeroValue384
 t57:=Tryz.underlying387
 a57:=Tryz.isAgg387
 z57:=Tryz.sizeOf387
 v57:=Tryz.zeroValue387
 t63:=Tryz.underlying408
 a63:=Tryz.isAgg408
 z63:=Tryz.sizeOf408
 v63:=Tryz.zeroValue408
 t64:=Tryz.underlying105
 a64:=Tryz.isAgg105
 z64:=Tryz.sizeOf105
 v64:=Tryz.zeroValue105 }
def Tryz.cloneR_ren:Go.Shelf.Ren:=⟨fun | 41=>102 | n=>n,fun | 22=>141 | 23=>89 | 4=>4 | n=>n,fun | n=>n⟩
theorem Tryz.cloneR:Go.Proofs.SlLaysE0.n41 Tryz.prog Tryz.cloneR_ren:={
 mixed:=by kernel_rfl
 f41:=⟨Tryz.f102.name,by decide,Tryz.func102.trans (congrArg some (by kernel_rfl))⟩
 t4:=Tryz.underlying4
 a4:=Tryz.isAgg4
 z4:=Tryz.sizeOf4
 v4:=Tryz.zeroValue4
 t22:=Tryz.underlying141
 a22:=Tryz.isAgg141
 z22:=Tryz.sizeOf141
 v22:=Tryz.zeroValue141 }
def Tryz.cloneO_ren:Go.Shelf.Ren:=⟨fun | 41=>149 | n=>n,fun | 22=>241 | 23=>245 | 4=>4 | n=>n,fun | n=>n⟩
theorem Tryz.cloneO:Go.Proofs.SlLaysE0.n41 Tryz.prog Tryz.cloneO_ren:={
 mixed:=by kernel_rfl
 f41:=⟨Tryz.f149.name,by decide,Tryz.func149.trans (congrArg some (by kernel_rfl))⟩
 t4:=Tryz.underlying4
 a4:=Tryz.isAgg4
 z4:=Tryz.sizeOf4
 v4:=Tryz.zeroValue4
 t22:=Tryz.underlying241
 a22:=Tryz.isAgg241
 z22:=Tryz.sizeOf241
 v22:=Tryz.zeroValue241 }
def Tryz.idxO_ren:Go.Shelf.Ren:=⟨fun | 6=>240 | n=>n,fun | 22=>241 | 23=>245 | 25=>341 | 3=>3 | 0=>0 | 4=>4 | n=>n,fun | n=>n⟩
theorem Tryz.idxO:Go.Proofs.SlLaysH0.n6 Tryz.prog Tryz.idxO_ren:={
 mixed:=by kernel_rfl
 f6:=⟨Tryz.f240.name,by decide,Tryz.func240.trans (congrArg some (by kernel_rfl))⟩
 t0:=Tryz.underlying0
 a0:=Tryz.isAgg0
 z0:=Tryz.sizeOf0
 v0:=Tryz.zeroValue0
 t3:=Tryz.underlying3
 a3:=Tryz.isAgg3
 z3:=Tryz.sizeOf3
 v3:=Tryz.zeroValue3
 t4:=Tryz.underlying4
 a4:=Tryz.isAgg4
 z4:=Tryz.sizeOf4
 v4:=Tryz.zeroValue4
 t22:=Tryz.underlying241
 a22:=Tryz.isAgg241
 z22:=Tryz.sizeOf241
 v22:=Tryz.zeroValue241
 t25:=Tryz.underlying341
 a25:=Tryz.isAgg341
 z25:=Tryz.sizeOf341
 v25:=Tryz.zeroValue341 }
def Tryz.delS_ren:Go.Shelf.Ren:=⟨fun | 5=>223 | n=>n,fun | 23=>231 | 26=>9 | 24=>3 | 27=>323 | 0=>0 | 4=>4 | n=>n,fun | n=>n⟩
theorem Tryz.delS:Go.Proofs.SlLaysDf.n5 Tryz.prog Tryz.delS_ren:={
 mixed:=by kernel_rfl
 f5:=⟨Tryz.f223.name,by decide,Tryz.func223.trans (congrArg some (by kernel_rfl))⟩
 t0:=Tryz.underlying0
 a0:=Tryz.isAgg0
 z0:=Tryz.sizeOf0
 v0:=Tryz.zeroValue0
 t4:=Tryz.underlying4
 a4:=Tryz.isAgg4
 z4:=Tryz.sizeOf4
 v4:=Tryz.zeroValue4
 t23:=Tryz.underlying231
 a23:=Tryz.isAgg231
 z23:=Tryz.sizeOf231
 v23:=Tryz.zeroValue231
 a24:=Tryz.isAgg3
 z24:=Tryz.sizeOf3
 a26:=Tryz.isAgg9
 z26:=Tryz.sizeOf9
 t27:=Tryz.underlying323
 a27:=Tryz.isAgg323
 z27:=Tryz.sizeOf323
 v27:=Tryz.zeroValue323 }
def Tryz.splitS_ren:Go.Shelf.Ren:=⟨fun | 146=>232 | 221=>292 | 268=>326 | 138=>327 | 143=>328 | 195=>340 | 197=>341 | 218=>342 | 219=>343 | 260=>347 | 217=>348 | 225=>349 | 224=>350 | 267=>351 | 266=>353 | 314=>354 | n=>n,fun | 9=>9 | 31=>37 | 3=>3 | 4=>4 | 0=>0 | 105=>373 | 21=>21 | 5=>5 | 46=>195 | 119=>415 | 139=>418 | 138=>417 | 146=>428 | 51=>193 | n=>n,fun | 1=>2 | 3=>0 | 4=>1 | n=>n⟩
theorem Tryz.splitS:Go.Proofs.Lays.n146 Tryz.prog Tryz.splitS_ren:={
 mixed:=by kernel_rfl
 f138:=Tryz.func327.trans (congrArg some (by kernel_rfl))
 f143:=Tryz.func328.trans (congrArg some (by kernel_rfl))
 f146:=Tryz.func232.trans (congrArg some (by kernel_rfl))
 f195:=Tryz.func340.trans (congrArg some (by kernel_rfl))
 f197:=Tryz.func341.trans (congrArg some (by kernel_rfl))
 f217:=Tryz.func348.trans (congrArg some (by kernel_rfl))
 f218:=Tryz.func342.trans (congrArg some (by kernel_rfl))
 f219:=Tryz.func343.trans (congrArg some (by kernel_rfl))
 f221:=Tryz.func292.trans (congrArg some (by kernel_rfl))
 f224:=Tryz.func350.trans (congrArg some (by kernel_rfl))
 f225:=Tryz.func349.trans (congrArg some (by kernel_rfl))
 f260:=Tryz.func347.trans (congrArg some (by kernel_rfl))
 f266:=Tryz.func353.trans (congrArg some (by kernel_rfl))
 f267:=Tryz.func351.trans (congrArg some (by kernel_rfl))
 f268:=Tryz.func326.trans (congrArg some (by kernel_rfl))
 f314:=Tryz.func354.trans (congrArg some (by kernel_rfl))
 t0:=Tryz.underlying0
 a0:=Tryz.isAgg0
 z0:=Tryz.sizeOf0
 v0:=Tryz.zeroValue0
 t3:=Tryz.underlying3
 a3:=Tryz.isAgg3
 z3:=Tryz.sizeOf3
 v3:=Tryz.zeroValue3
 t4:=Tryz.underlying4
 a4:=Tryz.isAgg4
 z4:=Tryz.sizeOf4
 v4:=Tryz.zeroValue4
 t5:=Tryz.underlying5
 a5:=Tryz.isAgg5
 z5:=Tryz.sizeOf5
 v5:=Tryz.zeroValue5
 t9:=Tryz.underlying9
 a9:=Tryz.isAgg9
 z9:=Tryz.sizeOf9
 v9:=Tryz.zeroValue9
 t21:=Tryz.underlying21
 a21:=Tryz.isAgg21
 z21:=Tryz.sizeOf21
 v21:=Tryz.zeroValue21
 t31:=Tryz.underlying37
 a31:=Tryz.isAgg37
 z31:=Tryz.sizeOf37
 v31:=Tryz.zeroValue37
 t46:=Tryz.underlying195
 a46:=Tryz.isAgg195
 z46:=Tryz.sizeOf195
 v46:=Tryz.zeroValue195
 t51:=Tryz.underlying193
 a51:=Tryz.isAgg193
 z51:=Tryz.sizeOf193
 v51:=Tryz.zeroValue193
 t105:=Tryz.underlying373
 a105:=Tryz.isAgg373
 z105:=Tryz.sizeOf373
 v105:=Tryz.zeroValue373
 t119:=Tryz.underlying415
 a119:=Tryz.isAgg415
 z119:=Tryz.sizeOf415
 t138:=Tryz.underlying417
 a138:=Tryz.isAgg417
 z138:=Tryz.sizeOf417
 v138:=Tryz.zeroValue417
 t139:=Tryz.underlying418
 a139:=Tryz.isAgg418
 z139:=Tryz.sizeOf418
 v139:=Tryz.zeroValue418
 t146:=Tryz.underlying428
 a146:=Tryz.isAgg428
 z146:=Tryz.sizeOf428
 v146:=Tryz.zeroValue428
 g1:=by kernel_rfl
 g3:=by kernel_rfl
 g4:=by kernel_rfl }
end
end Go.Proofs
namespace Go.Proofs.YtbemfdcjieakdaaGreatDoor
section
open Go.RowKit Go.ChangeMaps Go.MapKept Go.Maps Go.Sort Go.Shelf
theorem b8q(m:Nat):AnyZI.SortsIn Tryz.prog Tryz.sortedI_ren Fence.wide m:=
 ⟨fun blk off cap d W c a b=>Bd.2 (AnyM.slices_Sort_int Tryz.sortI blk off cap d W c a b),
  fun p cap W=>Bd.2 (AnyM.slices_Sort_int_none Tryz.sortI p cap W)⟩
theorem b7K(t b o:Nat)(g:DataW Value)(w:World)(a:w.ownsMap Tryz.prog TI64 RH b o g)(D:w.cell? ⟨t,0,none⟩=some (.map (some b)))(j:Maps.size g<=maxLen)(c:Maps.size g * 8<=140737488355328):
  Calls Tryz.prog 142 #[.pointer (some ⟨t,0,none⟩)] w fun e w'=>∃(v:Value) (d:List Int),e= .returned v/\d.Perm (intKeys g)/\
   w'.ownsRow w.heap.size TI64 1 v d.length ((d.mergeSort (fun x y=>decide (x<=y))).map encZ)/\(v= .slice none 0 0↔d=[])/\Below w.heap.size w w':=by
 refine(Bd (n:=6)).1 ?_;have m:=a.lt;have f:SeqGives Fence.wide 2 Tryz.prog 288 #[.pointer (some ⟨w.heap.size,0,none⟩)] encZ (fun d=>d.Perm (intKeys g)) (Maps.size g) (w.alloc (.cells #[.map (some b)] 226)):=
  AnyZI.keys_gives (ρ:=Tryz.keysI_ren) { Tryz.keysI with } Fence.wide _ trivial rfl (by omega) w.heap.size b o g _ (by simp) (by simp) (by
   obtain⟨z,h,l,s,u,C⟩:=a;exact⟨z,h,(AW _ _ b m).trans l,s,u,C⟩)
 have B:∀mb W,CallsIn Fence.wide 5 Tryz.prog 221 #[.map mb] W fun e w'=>e= .returned (.func (.func 288) #[] #[.pointer (some ⟨W.heap.size,0,none⟩)])/\w'=W.alloc (.cells #[.map mb] 226):=fun mb W=>AnyZI.keys_in Tryz.keysI Fence.wide 5 trivial rfl mb W
 have p:=AnyZI.sorted_in Tryz.sortedI Fence.wide 5 trivial trivial trivial trivial rfl (by omega) (b8q _) (enters_of Tryz.func115 (by kernel_rfl) rfl) 288 #[.pointer (some ⟨w.heap.size,0,none⟩)] trivial (enters_of Tryz.func288 (by kernel_rfl) rfl) _ _ j c _ f;change CallsIn _ _ Tryz.prog 49 _ _ _ at p;have r:Fence.wide.fn 221:=trivial;have q:Fence.wide.fn 49:=trivial;clear a f;refine callsIn_of_wp Tryz.func142 rfl trivial ?_ rfl;simp only[Tryz.ntmps142,Co,AA,Ay,Nat.reduceAdd,Nat.reduceSub,B7,B6,Cp,Cf,AJ,Be]
 gi_wp2_with (first
  | (gi_at_call 221;refine(B _ _).mono ?_;rintro e w' ⟨rfl,rfl⟩)
  | (gi_at_call 49;refine p.mono ?_;rintro e w' ⟨v,d,rfl,A,k,i,l⟩))
 go_ret;exact⟨v,d,rfl,A,ownsRow_base_a k (by simp),i,((Ab _ w).alloc (Aa _) _).trans (l.mono (by simp))⟩
def OwnI(w:World)(B:Nat)(v:Value)(l:List Nat):Prop:=w.ownsRow B TI64 1 v l.length (l.map fun(n:Nat)=>Value.int .i64 (n:Int))
theorem OwnI.below{w w':World}{B:Nat}{v:Value}{l:List Nat}(h:OwnI w B v l)(a:Below w.heap.size w w'):OwnI w' B v l:=
 BC h (row:=none) ⟨a.os,a.tape,a.output,a.size,fun k hk _=>a.block k hk⟩ (by cases v.ownBlock <;>simp)
theorem OwnI.at{w:World}{B n:Nat}{v:Value}{l:List Nat}(h:OwnI w B v l)(b:l.length=n):∃a cap,v= .slice a n cap/\n<=cap/\(0<n->∃g,a=some ⟨g,0,none⟩/\B<=g/\g<w.heap.size/\∀i (c:i<l.length),w.cell? ⟨g,i,none⟩=some (.int .i64 (l[i]:Int))):=by
 have o:=h;rcases h.2 with⟨rfl,d⟩ | ⟨g,cap,m,rfl,j,f,p,q,e,k⟩
 ·exact⟨none,0,by rw[<-b,d],by omega,fun h=>by omega⟩
 ·refine⟨some ⟨g,0,none⟩,cap,by rw[b],by omega,fun _=>⟨g,rfl,j,(Array.getElem?_eq_some_iff.1 f).1,fun i c=>?_⟩⟩;have:=A1 (size:=1) o i (by omega);rw[this];simp[c]
theorem a9g(l:List (Nat×Value)):intKeys (a3o numS l)=l.map fun p=>(p.1:Int):=by
 unfold a3o intKeys;simp only;rw[BU];rfl
theorem a7X(l:List Nat)(h:l.Pairwise (· < ·)):(l.map fun(n:Nat)=>(n:Int)).mergeSort (fun x y=>decide (x<=y))=l.map fun(n:Nat)=>(n:Int):=by
 refine List.mergeSort_of_pairwise ?_;rw[A2];exact h.imp (fun {a b} c=>by simp;omega)
theorem a8g{w:World}{L B t mb c:Nat}{F G:Nat->Nat}{T:Tr}(h:TreeIn w L B t mb F G T)(k:TrOk c T):
  Calls Tryz.prog 142 #[.pointer (some ⟨t,0,none⟩)] w fun e w'=>∃v,e= .returned v/\OwnI w' w.heap.size v (T.map (·.1))/\Below w.heap.size w w':=by
 have p:=k.len;have d:Maps.size (a3o numS (vals (ival F) T))=T.length:=by rw[a4Q,a1p]
 refine(b7K t mb _ _ w h.map h.cell0 (by rw[d];unfold maxLen;omega) (by rw[d];omega)).mono ?_;rintro e w' ⟨v,j,rfl,i,a,_,l⟩;refine⟨v,rfl,?_,l⟩;have hk:intKeys (a3o numS (vals (ival F) T))=(T.map (·.1)).map fun(n:Nat)=>(n:Int):=by
  rw[a9g];unfold vals;rw[BU,BU];rfl
 rw[hk] at i;have f:j.length=(T.map (·.1)).length:=by rw[i.length_eq,AC]
 have b:(T.map (·.1)).Pairwise (· < ·):=by rw[A2];exact h.uniq
 have o:=mergeSort_of_perm_i i;have g:=a7X _ b;unfold OwnI;rw[<-f];have m:(j.mergeSort fun x y=>decide (x<=y))=(T.map (·.1)).map fun(n:Nat)=>(n:Int):=o.trans g
 rw[m,BU] at a;exact a
theorem b6Q(m:Nat):AnyZ.SortsIn Tryz.prog Tryz.sortedS_ren Fence.wide m:=
 ⟨fun blk off cap d W c a b=>Bd.2 (AnyM.slices_Sort_string Tryz.sortS blk off cap d W c a b),
  fun p cap W=>Bd.2 (AnyM.slices_Sort_string_none Tryz.sortS p cap W)⟩
theorem a8L(mb:Option Nat)(W:World):
  Calls Tryz.prog 146 #[.map mb] W fun e w'=>e= .returned (.func (.func 229) #[] #[.pointer (some ⟨W.heap.size,0,none⟩)])/\w'=W.alloc (.cells #[.map mb] 231):=
 (Bd (n:=5)).1 (AnyZ.keys_in Tryz.keysS Fence.wide 5 trivial rfl mb W)
theorem a1L:∀(a b:List UInt8),bytesBefore a b=true->a<b
 | [],[],h=>by simp[bytesBefore] at h
 | [],_ :: _,_=>List.nil_lt_cons ..
 | _ :: _,[],h=>by simp[bytesBefore] at h
 | a :: r,b :: s,h=>by
  simp only[bytesBefore,Bool.or_eq_true,decide_eq_true_eq,Ca,Cz] at h;rw[List.cons_lt_cons_iff];rcases h with h | ⟨c,d⟩
  ·exact .inl h
  ·exact .inr ⟨c,a1L r s d⟩
theorem b4P(a b:List UInt8)(h:bytesBefore a b=true):a<=b:=List.le_of_lt (a1L a b h)
theorem MapAt.srising{g:Type}{f:List UInt8->g->Value}{w:World}{b:Nat}{l:List (List UInt8×g)}(h:MapAt a0L Tryz.prog a3c w b (vals f l)):l.Pairwise (fun p q=>bytesBefore p.1 q.1=true):=by
 obtain⟨i,e,d,_⟩:=World.ownsMap.canon h a3f;unfold a3o vals at e;injection e with e
 rw[<-e,A2,A2] at d;exact d.imp (fun {a b} c=>by simpa[a0L,Lit.before] using c)
theorem a8K(l:List (List UInt8×Value)):strKeys (a3o a0L l)=l.map (·.1):=by
 unfold a3o strKeys;simp only;rw[BU];rfl
theorem a52(b:Nat)(l:List (List UInt8×Nat))(w:World)(h:MapAt a0L Tryz.prog a3c w b (vals a3v l))(C:l.length<=100000):
  Calls Tryz.prog 145 #[.func (.func 229) #[] #[.pointer (some ⟨w.heap.size,0,none⟩)]] (w.alloc (.cells #[.map (some b)] 231)) fun e w'=>∃v,e= .returned v/\OwnS w' w.heap.size v (l.map (·.1))/\Below w.heap.size w w':=by
 have d:w.ownsMap Tryz.prog a3c RH b _ _:=h;have r:=d.lt;have i:Maps.size (a3o a0L (vals a3v l))=l.length:=by rw[a4Q,a1p]
 have g:SeqGives Fence.wide 2 Tryz.prog 229 #[.pointer (some ⟨w.heap.size,0,none⟩)] encStr (fun k=>k.Perm (strKeys (a3o a0L (vals a3v l)))) (Maps.size (a3o a0L (vals a3v l))) (w.alloc (.cells #[.map (some b)] 231)):=
  AnyZ.keys_gives (ρ:=Tryz.keysS_ren) { Tryz.keysS with } Fence.wide _ trivial rfl (by omega) w.heap.size b _ _ _ (by simp) (by simp) (by
   obtain⟨A,f,o,u,z,B⟩:=d;exact⟨A,f,(AW _ _ b r).trans o,u,z,B⟩)
 have s:=AnyZ.sorted_in Tryz.sortedS Fence.wide 5 trivial trivial trivial trivial rfl (by omega) (b6Q _) (enters_of Tryz.func228 (by kernel_rfl) rfl) 229 #[.pointer (some ⟨w.heap.size,0,none⟩)] trivial (enters_of Tryz.func229 (by kernel_rfl) rfl) _ _ (by rw[i];unfold maxLen;omega) (by rw[i];omega) _ g;change CallsIn _ _ Tryz.prog 145 _ _ _ at s;refine((Bd (n:=5)).1 s).mono ?_;rintro e w' ⟨v,k,rfl,m,c,_,o⟩;refine⟨v,rfl,?_,((Ab _ w).alloc (Aa _) _).trans (o.mono (by simp))⟩;rw[a8K] at m;have hk:(vals a3v l).map (·.1)=l.map (·.1):=by unfold vals;rw[BU];rfl
 rw[hk] at m;have j:k.length=(l.map (·.1)).length:=m.length_eq;have p:(l.map (·.1)).mergeSort (fun x y=>decide (x<=y))=l.map (·.1):=by
  refine List.mergeSort_of_pairwise ?_;rw[A2];exact h.srising.imp (fun {a b} q=>by simpa using b4P _ _ q)
 have t:(k.mergeSort fun x y=>decide (x<=y))=l.map (·.1):=(mergeSort_of_perm m).trans p;rw[t] at c;unfold OwnS;rw[<-j];exact ownsRow_base_a c (by simp)
theorem a9P(w:World):
  Calls Tryz.prog 145 #[.func (.func 229) #[] #[.pointer (some ⟨w.heap.size,0,none⟩)]] (w.alloc (.cells #[.map none] 231)) fun e w'=>e= .returned (.slice none 0 0)/\Below w.heap.size w w':=by
 have b:SeqGives Fence.wide 2 Tryz.prog 229 #[.pointer (some ⟨w.heap.size,0,none⟩)] encStr (fun c:List (List UInt8)=>c=[]) 0 (w.alloc (.cells #[.map none] 231)):=
  AnyZ.keys_gives_nil (ρ:=Tryz.keysS_ren) { Tryz.keysS with } Fence.wide _ trivial rfl w.heap.size _ (by simp) (by simp)
 have d:=AnyZ.sorted_in Tryz.sortedS Fence.wide 5 trivial trivial trivial trivial rfl (by omega) (b6Q _) (enters_of Tryz.func228 (by kernel_rfl) rfl) 229 #[.pointer (some ⟨w.heap.size,0,none⟩)] trivial (enters_of Tryz.func229 (by kernel_rfl) rfl) _ 0 (AH _) (by omega) _ b;change CallsIn _ _ Tryz.prog 145 _ _ _ at d;refine((Bd (n:=5)).1 d).mono ?_;rintro e w' ⟨v,c,rfl,rfl,_,a,f⟩;exact⟨by rw[a.2 rfl],((Ab _ w).alloc (Aa _) _).trans (f.mono (by simp))⟩
end
section
open Go.RowKit Go.ChangeMaps Go.MapKept
variable {w : World} {L B t mb c : Nat} {F G : Nat → Nat} {T : Tr}
def Shut0(T:Tr):Prop:=∀i x,getK i T=some x->x.n.kind≠2->x.n.closed=true
theorem b7P(h:TreeIn w L B t mb F G T)(f:TrOk c T)(r:c<=60000)(k:Shut0 T)(i:Nat)(x:It)(b:getK i T=some x):
  Calls Tryz.prog 143 #[.pointer (some ⟨t,0,none⟩),.int .i64 (i:Int)] w fun e w'=>(∃y:Nat,e= .returned (.int .i64 (y:Int)))/\Below w.heap.size w w':=by
 have a:=(Ab w.heap.size w).alloc (Aa _) (.cells #[.int .i64 (i:Int)] 3);have o:=(f.nd i x b).1;have g:=qh (a2Q (h.below a) f i (by omega));obtain⟨_,v,m,l,_⟩:=(h.below a).item i x b;obtain⟨_,_,_,_,_,p,_⟩:=a0m l;have HB:=qh a;by_cases hk:x.n.kind=2
 ·have d:fileT T i=22:=by unfold fileT;rw[b];simp[hk]
  rw[a4d _ _ _ (by omega),d] at g;clear h f k b hk d l a o;go_enter Tryz.func143,Tryz.ntmps143;go_wp2_with fail;refine g.out.mono ?_;rintro e q ⟨rfl,rfl⟩;go_wp2_with fail;go_ret;exact⟨⟨22,rfl⟩,HB.out⟩
 ·have d:fileT T i=0:=by unfold fileT;rw[b];simp[hk]
  rw[a4c _ _ _ d] at g;rw[k i x b hk] at p;clear h f k b hk d l a o;go_enter Tryz.func143,Tryz.ntmps143;go_wp2_with fail;refine g.out.mono ?_;rintro e q ⟨rfl,j⟩;subst j;go_wp2_with fail;go_ret;exact⟨⟨27,rfl⟩,HB.out⟩
theorem b2w(h:TreeIn w L B t mb F G T)(N:TrOk c T)(Y:c<=60000)(H:L<=w.heap.size)(W:Shut0 T):
  Calls Tryz.prog 68 #[.pointer (some ⟨t,0,none⟩)] w fun e w'=>∃Q,e= .returned (.pointer (some ⟨Q,0,none⟩))/\TreeAt w' L w.heap.size Q T/\Below w.heap.size w w':=by
 have HC:=qh (a4y h N Y H);have l:=qh (aI N W);have K:=qh h.uniq;clear h N W;go_enter Tryz.func68,Tryz.ntmps68;go_wp2_with fail;refine HC.out.mono ?_;rintro e w1 ⟨t1,rfl,⟨a0,F1,G1,m⟩,hb1⟩;have x:=qh m;have U:=qh (a8g m l.out.1);have u:=qh (show Ext w.heap.size w w1 from⟨hb1,hb1.size⟩);clear m hb1;go_wp2_with fail;refine U.out.mono ?_;rintro e w2 ⟨v2,rfl,v,hb2⟩;obtain⟨n,J⟩:=qnm ((T.map (·.1)).length);obtain⟨a2,c2,rfl,X,A⟩:=v.at J.symm;have D:n=T.length:=by rw[J,AC]
 have Z:n<=64:=by have:=l.out.1.len;omega
 have s:=qh (x.out.below hb2);have I:=qh (u.out.step hb2);have q:=qh (aI A D);clear v hb2 A J D u U x;go_wp2_with fail;go_loopw [12] (fun k wr=>∃j:Nat,j<=n/\k= .int .i64 (j:Int)/\Below w2.heap.size w2 wr) (fun k _=>n - (intOf k).toNat);case atStart=>exact ⟨0,by omega,rfl,Ab _ _⟩
 case round=>
  obtain⟨j,R,rfl,d⟩:=hrel;by_cases o:j<n
  ·obtain⟨g,rfl,_,hg,f⟩:=q.out.1 (by omega);have E:j<(T.map (·.1)).length:=by rw[AC,<-q.out.2];exact o
   have c0:=(d.cell (p:=⟨g,j,none⟩) hg).trans (f j E);have r:j<T.length:=by rw[<-q.out.2];exact o
   have P:getK (T.map (·.1))[j] T=some (T[j]'r).2:=by
    rw[List.getElem_map];exact a0s (K.out.imp (fun {a b} a1=>by omega)) (AE r)
   generalize(T.map (·.1))[j]=i at c0 P;have HD:=qh (b7P (s.out.below d) l.out.1 Y l.out.2 i _ P);have e1:(0:Int)<=(j:Int):=by omega
   have e2:(j:Int)<(n:Int):=by omega
   obtain⟨M,z⟩:=qnm (j+1);have e3:IntKind.i64.wrap ((j:Int)+1)=(M:Int):=by rw[Ak _ (by omega)];omega
   have V:=qh z;have C:=qh d;clear f P E r z d R;go_wp2_with fail;refine HD.out.mono ?_;rintro e w3 ⟨⟨y,rfl⟩,hb3⟩;have O:=qh (C.out.trans (hb3.mono C.out.size));clear hb3;go_wp2_with fail;go_roundw;case rel=>exact ⟨M,by have:=V.out;omega,rfl,O.out⟩
   case measure=>
    have:=V.out;show n - (M:Int).toNat<n - (j:Int).toNat;omega
  ·obtain rfl:j=n:=by omega
   clear o R;have S:=qh (aI (s.out.below d) (I.out.step d));clear d;go_wp2_with fail;go_ret;exact⟨_,rfl,⟨_,_,_,S.out.1⟩,S.out.2.1⟩
end
section
open Go.RowKit Go.ChangeMaps Go.MapKept
def a1d(l:List (List UInt8×Nat)):List UInt8:=(l.map fun p=>a0j p.1 ++be p.2 2).flatten
def a1e(x:It):List UInt8:=a0j x.n.bytes ++(a0j x.b ++(be x.names.length 2 ++a1d x.names))
def a0p(T:Tr):List UInt8:=be T.length 2 ++(T.map fun p=>a1e p.2).flatten
theorem a1J(b:List UInt8):(a0j b).length<=65537:=by
 unfold a0j;rw[Af,a0d,Av];omega
theorem a12(b:List UInt8):(a0j b).length<=b.length+2:=by
 unfold a0j;rw[Af,a0d,Av];omega
theorem a6o(l:List (List UInt8×Nat))(h:∀p∈l,p.1.length<=16):(a1d l).length<=l.length * 20:=by
 induction l with
 | nil=>simp [a1d]
 | cons p r a=>
  have b:=a (fun q c=>h q (AI _ c));have d:=a12 p.1;have h3:=h p (AL ..);unfold a1d at b⊢;rw[Au,Bg,Af,Af,a0d,AA];omega
theorem a85(l:List (List UInt8×Nat))(j:Nat)(a:j<l.length):a1d (l.take (j+1))=a1d (l.take j) ++a0j l[j].1 ++be l[j].2 2:=by
 unfold a1d;rw[Ar a,AZ,AT];simp
theorem b12{w:World}{nb:Nat}{l:List (List UInt8×Nat)}(h:MapAt a0L Tryz.prog a3c w nb (vals a3v l))(s:List UInt8)(k:Nat)(hk:getK s l=some k)(a:s.length<=1000000):
  (Instr.lookup 231 (.map (some nb)) (.string (a0c s)) false).run Tryz.prog w= .ok (.int .i64 (k:Int)) w:=by
 have:=h.look a0L a3f a1y (a7O w) (b8s s (by unfold maxLen;omega));rw[a1c,hk] at this;exact this
theorem b19(w:World):∀a,(Builtin.len_ #[231] a #[.map none]).run Tryz.prog w= .ok (.int .i64 0) w:=fun a=>by
 simp[Builtin.len_,run_underlying Tryz.underlying231];rfl
theorem b2d{w:World}{x:It}{mo:Option Nat}{B nb:Nat}(o:x.n.kind=2->Value.map mo= .map (some nb)/\B<=nb/\MapAt a0L Tryz.prog a3c w nb (vals a3v x.names))(s:x.n.kind≠2->Value.map mo= .map none/\x.names=[])(y:x.names.length<=60000):
  (∀h,(Builtin.len_ #[231] h #[.map mo]).run Tryz.prog w= .ok (.int .i64 (x.names.length:Int)) w)/\
  Calls Tryz.prog 145 #[.func (.func 229) #[] #[.pointer (some ⟨w.heap.size,0,none⟩)]] (w.alloc (.cells #[.map mo] 231)) (fun e w'=>∃a c,e= .returned (.slice a x.names.length c)/\Ss w' a x.names.length c (x.names.map (·.1))/\(∀g,a=some g->w.heap.size<=g.block)/\Below w.heap.size w w')/\
  (∀p∈x.names,p.1.length<=1000000->(Instr.lookup 231 (.map mo) (.string (a0c p.1)) false).run Tryz.prog w= .ok (.int .i64 (p.2:Int)) w):=by
 by_cases hk:x.n.kind=2
 ·obtain⟨e,_,i⟩:=o hk;rw[e];refine⟨fun h=>?_,?_,fun p l u=>?_⟩
  ·have:=i.len a0L a1y h;rw[a1p] at this;exact this
  ·refine(a52 nb x.names w i (by omega)).mono ?_;rintro e w' ⟨v,rfl,m,k⟩;obtain⟨a,c,rfl,r⟩:=m.ss (n:=x.names.length) (by rw[AC]);exact⟨a,c,rfl,r,fun g d=>m.blk g.block (by rw[d];rfl),k⟩
  ·have j:x.names.Pairwise (fun p q=>p.1≠q.1):=i.srising.imp (fun {a b} f e=>by rw[e] at f;have:=a1L _ _ f;exact absurd this (B3 _));exact b12 i p.1 p.2 (a0s j l) u
 ·obtain⟨e,t⟩:=s hk;rw[e,t];refine⟨fun h=>b19 w h,?_,fun p l=>by simp at l⟩;refine(a9P w).mono ?_;rintro e w' ⟨rfl,k⟩;exact⟨none,0,rfl,Ss.nil _,fun g d=>(by cases d),k⟩
variable {w : World} {L B t mb c : Nat} {F G : Nat → Nat} {T : Tr}
theorem a6u(x:It)(e:x.b.length<=4096)(a:∀p∈x.names,p.1.length<=16)(d:x.names.length<=60000):(a1e x).length<=2000000:=by
 have f:=a12 x.b;have g:=a6o x.names a;have h3:=a12 x.n.bytes;have c:=x.n.bytes_length;unfold a1e;rw[Af,Af,Af,a0d];omega
theorem TrOk.item{c:Nat}{T:Tr}(l:TrOk c T){w:World}{L B t mb:Nat}{F G:Nat->Nat}(h:TreeIn w L B t mb F G T){i:Nat}{x:It}(f:getK i T=some x):x.b.length<=4096/\∀p∈x.names,p.1.length<=16:=by
 obtain⟨_,_,j,o,_⟩:=l.nd i x f;refine⟨?_,fun p k=>?_⟩
 ·have:=j.2.2.2.2;omega
 ·by_cases hk:x.n.kind=2
  ·obtain⟨_,_,r⟩:=h.dir f hk;have g:x.names.Pairwise (fun p q=>p.1≠q.1):=r.srising.imp (fun {a b} d e=>by rw[e] at d;have:=a1L _ _ d;exact absurd this (B3 _));exact(l.nm i x p.1 p.2 f (a0s g k)).2.2
  ·obtain⟨_,v,m,_,_,_,s⟩:=h.item i x f;rw[(s hk).2] at k;simp at k
end
end Go.Proofs.YtbemfdcjieakdaaGreatDoor
