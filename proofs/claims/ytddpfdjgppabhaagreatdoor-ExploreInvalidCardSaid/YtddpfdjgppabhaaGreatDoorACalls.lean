/- Closed calls: the functions that are reached. By program (mkawake.py). -/
import Derived.Test.YtddpfdjgppabhaaGreatDoorDFun
set_option linter.unusedSimpArgs false
set_option linter.unusedVariables false
namespace Go.Proofs.YtddpfdjgppabhaaGreatDoor
open Go Go.TI
set_option linter.unusedVariables false
set_option maxRecDepth 100000
noncomputable def fun5 : Fun := { fn := Tryz.f5, mask := 55, keep := false, prim := none }
noncomputable def fun9 : Fun := { fn := Tryz.f9, mask := 19, keep := false, prim := none }
noncomputable def fun12 : Fun := { fn := Tryz.f12, mask := 18279342225255375, keep := false, prim := none }
noncomputable def fun13 : Fun := { fn := Tryz.f13, mask := 3, keep := false, prim := none }
noncomputable def fun26 : Fun := { fn := Tryz.f26, mask := 21, keep := true, prim := some (.clone 1 8) }
noncomputable def fun29 : Fun := { fn := Tryz.f29, mask := 8796093286397, keep := false, prim := none }
noncomputable def fun30 : Fun := { fn := Tryz.f30, mask := 19808249554385699031857790975, keep := false, prim := none }
noncomputable def fun32 : Fun := { fn := Tryz.f32, mask := 4330618893, keep := false, prim := none }
noncomputable def fun33 : Fun := { fn := Tryz.f33, mask := 131635, keep := false, prim := none }
noncomputable def fun37 : Fun := { fn := Tryz.f37, mask := 8934607822903, keep := false, prim := none }
noncomputable def fun38 : Fun := { fn := Tryz.f38, mask := 39, keep := false, prim := none }
noncomputable def fun39 : Fun := { fn := Tryz.f39, mask := 36893738837144453119, keep := false, prim := none }
noncomputable def fun40 : Fun := { fn := Tryz.f40, mask := 311547321280428806288892949008569727, keep := false, prim := none }
noncomputable def fun52 : Fun := { fn := Tryz.f52, mask := 4605278686335, keep := false, prim := none }
noncomputable def fun57 : Fun := { fn := Tryz.f57, mask := 9224506733391652861, keep := false, prim := none }
noncomputable def fun58 : Fun := { fn := Tryz.f58, mask := 4432473883133, keep := false, prim := none }
noncomputable def fun60 : Fun := { fn := Tryz.f60, mask := 19342850151455133005856767, keep := false, prim := none }
noncomputable def fun61 : Fun := { fn := Tryz.f61, mask := 316913254556860716756833993695, keep := false, prim := none }
noncomputable def fun62 : Fun := { fn := Tryz.f62, mask := 275, keep := false, prim := none }
noncomputable def fun63 : Fun := { fn := Tryz.f63, mask := 11, keep := false, prim := none }
noncomputable def fun64 : Fun := { fn := Tryz.f64, mask := 5, keep := false, prim := none }
noncomputable def fun65 : Fun := { fn := Tryz.f65, mask := 131613, keep := false, prim := none }
noncomputable def fun66 : Fun := { fn := Tryz.f66, mask := 5, keep := false, prim := none }
noncomputable def fun69 : Fun := { fn := Tryz.f69, mask := 4310958111, keep := false, prim := none }
noncomputable def fun70 : Fun := { fn := Tryz.f70, mask := 131945421865135, keep := true, prim := none }
noncomputable def fun71 : Fun := { fn := Tryz.f71, mask := 2559, keep := false, prim := none }
noncomputable def fun72 : Fun := { fn := Tryz.f72, mask := 3, keep := false, prim := none }
noncomputable def fun73 : Fun := { fn := Tryz.f73, mask := 71, keep := true, prim := none }
noncomputable def fun74 : Fun := { fn := Tryz.f74, mask := 7699, keep := false, prim := none }
noncomputable def fun75 : Fun := { fn := Tryz.f75, mask := 11, keep := false, prim := none }
noncomputable def fun76 : Fun := { fn := Tryz.f76, mask := 164805410609476479079325731131359, keep := false, prim := none }
noncomputable def fun78 : Fun := { fn := Tryz.f78, mask := 5, keep := false, prim := none }
noncomputable def fun79 : Fun := { fn := Tryz.f79, mask := 35315368591455, keep := false, prim := none }
noncomputable def fun80 : Fun := { fn := Tryz.f80, mask := 19, keep := false, prim := none }
noncomputable def fun81 : Fun := { fn := Tryz.f81, mask := 606826398900554784047567, keep := false, prim := none }
noncomputable def fun87 : Fun := { fn := Tryz.f87, mask := 5868843906288553182383292937158044313155908148351, keep := false, prim := none }
noncomputable def fun90 : Fun := { fn := Tryz.f90, mask := 19, keep := false, prim := none }
noncomputable def fun92 : Fun := { fn := Tryz.f92, mask := 33587517, keep := false, prim := none }
noncomputable def fun93 : Fun := { fn := Tryz.f93, mask := 4101, keep := false, prim := none }
noncomputable def fun94 : Fun := { fn := Tryz.f94, mask := 21853, keep := false, prim := none }
noncomputable def fun95 : Fun := { fn := Tryz.f95, mask := 37396817117309, keep := false, prim := none }
noncomputable def fun96 : Fun := { fn := Tryz.f96, mask := 51, keep := false, prim := none }
noncomputable def fun97 : Fun := { fn := Tryz.f97, mask := 40536831200067837, keep := false, prim := none }
noncomputable def fun98 : Fun := { fn := Tryz.f98, mask := 72128100255664255, keep := false, prim := none }
noncomputable def fun99 : Fun := { fn := Tryz.f99, mask := 1242795222330225588904675325, keep := false, prim := none }
noncomputable def fun100 : Fun := { fn := Tryz.f100, mask := 1237940043933112819970491391, keep := false, prim := none }
noncomputable def fun101 : Fun := { fn := Tryz.f101, mask := 1053, keep := false, prim := none }
noncomputable def fun102 : Fun := { fn := Tryz.f102, mask := 151115745466229840684019, keep := false, prim := none }
noncomputable def fun104 : Fun := { fn := Tryz.f104, mask := 18191, keep := true, prim := none }
noncomputable def fun105 : Fun := { fn := Tryz.f105, mask := 365376106316094180278949616271352870286206697499, keep := false, prim := none }
noncomputable def fun106 : Fun := { fn := Tryz.f106, mask := 1, keep := false, prim := none }
noncomputable def fun108 : Fun := { fn := Tryz.f108, mask := 1198173691272031633503, keep := false, prim := none }
noncomputable def fun109 : Fun := { fn := Tryz.f109, mask := 79542256554101726209818756591, keep := false, prim := none }
noncomputable def fun110 : Fun := { fn := Tryz.f110, mask := 8597274655, keep := false, prim := none }
noncomputable def fun111 : Fun := { fn := Tryz.f111, mask := 115795622931500156787090594869991752700707101173952930503499814435576165171199, keep := false, prim := none }
noncomputable def fun112 : Fun := { fn := Tryz.f112, mask := 2247, keep := true, prim := none }
noncomputable def fun113 : Fun := { fn := Tryz.f113, mask := 5073078280992641850991240020191, keep := false, prim := none }
noncomputable def fun123 : Fun := { fn := Tryz.f123, mask := 16661, keep := false, prim := none }
noncomputable def fun151 : Fun := { fn := Tryz.f151, mask := 19, keep := false, prim := none }
noncomputable def fun152 : Fun := { fn := Tryz.f152, mask := 19, keep := false, prim := none }
noncomputable def fun153 : Fun := { fn := Tryz.f153, mask := 5, keep := false, prim := none }
noncomputable def fun154 : Fun := { fn := Tryz.f154, mask := 35500589085, keep := false, prim := none }
noncomputable def fun155 : Fun := { fn := Tryz.f155, mask := 5, keep := false, prim := none }
noncomputable def fun156 : Fun := { fn := Tryz.f156, mask := 1125908496810045, keep := false, prim := none }
noncomputable def fun157 : Fun := { fn := Tryz.f157, mask := 262565, keep := false, prim := none }
noncomputable def fun158 : Fun := { fn := Tryz.f158, mask := 541, keep := false, prim := none }
noncomputable def fun159 : Fun := { fn := Tryz.f159, mask := 328307, keep := false, prim := none }
noncomputable def fun160 : Fun := { fn := Tryz.f160, mask := 1574131, keep := false, prim := none }
noncomputable def fun161 : Fun := { fn := Tryz.f161, mask := 275, keep := false, prim := none }
noncomputable def fun162 : Fun := { fn := Tryz.f162, mask := 529021, keep := false, prim := none }
noncomputable def fun163 : Fun := { fn := Tryz.f163, mask := 1125902054326279, keep := false, prim := none }
noncomputable def fun164 : Fun := { fn := Tryz.f164, mask := 32909, keep := false, prim := none }
noncomputable def fun165 : Fun := { fn := Tryz.f165, mask := 262707, keep := false, prim := none }
noncomputable def fun166 : Fun := { fn := Tryz.f166, mask := 262707, keep := false, prim := none }
noncomputable def fun167 : Fun := { fn := Tryz.f167, mask := 14474012017383023515249485065460760621927424225494418519668988771800801378299, keep := false, prim := none }
noncomputable def fun168 : Fun := { fn := Tryz.f168, mask := 36893488147419136123, keep := false, prim := none }
noncomputable def fun172 : Fun := { fn := Tryz.f172, mask := 20282409606012871684182924853463, keep := false, prim := none }
noncomputable def fun173 : Fun := { fn := Tryz.f173, mask := 18463069622434269437, keep := false, prim := none }
noncomputable def fun174 : Fun := { fn := Tryz.f174, mask := 18480521087022929591, keep := false, prim := none }
noncomputable def fun176 : Fun := { fn := Tryz.f176, mask := 34930167647, keep := false, prim := none }
noncomputable def fun177 : Fun := { fn := Tryz.f177, mask := 19, keep := false, prim := none }
noncomputable def fun178 : Fun := { fn := Tryz.f178, mask := 8934607822903, keep := false, prim := none }
noncomputable def fun179 : Fun := { fn := Tryz.f179, mask := 20850475683926052533283307399427439, keep := false, prim := none }
noncomputable def fun180 : Fun := { fn := Tryz.f180, mask := 36028833526300797, keep := false, prim := none }
noncomputable def fun181 : Fun := { fn := Tryz.f181, mask := 772424076352653274097095092108232752774234854811365887, keep := false, prim := none }
noncomputable def fun182 : Fun := { fn := Tryz.f182, mask := 32985380290927, keep := true, prim := none }
noncomputable def fun183 : Fun := { fn := Tryz.f183, mask := 9227875773923197183, keep := false, prim := none }
noncomputable def fun184 : Fun := { fn := Tryz.f184, mask := 5575, keep := true, prim := none }
noncomputable def fun186 : Fun := { fn := Tryz.f186, mask := 21, keep := true, prim := some (.clone 1 8) }
noncomputable def fun202 : Fun := { fn := Tryz.f202, mask := 19, keep := false, prim := none }
noncomputable def fun203 : Fun := { fn := Tryz.f203, mask := 2293, keep := false, prim := none }
noncomputable def fun204 : Fun := { fn := Tryz.f204, mask := 2149585011, keep := false, prim := none }
noncomputable def fun205 : Fun := { fn := Tryz.f205, mask := 526461, keep := false, prim := none }
noncomputable def fun206 : Fun := { fn := Tryz.f206, mask := 8606909437, keep := false, prim := none }
noncomputable def fun207 : Fun := { fn := Tryz.f207, mask := 182687706027492332498828539273953093013162958911, keep := false, prim := none }
noncomputable def fun208 : Fun := { fn := Tryz.f208, mask := 70368744310543, keep := false, prim := none }
noncomputable def fun209 : Fun := { fn := Tryz.f209, mask := 83, keep := false, prim := none }
noncomputable def fun210 : Fun := { fn := Tryz.f210, mask := 33688639, keep := false, prim := none }
noncomputable def fun211 : Fun := { fn := Tryz.f211, mask := 4196847, keep := false, prim := none }
noncomputable def fun213 : Fun := { fn := Tryz.f213, mask := 1049655, keep := false, prim := none }
noncomputable def fun214 : Fun := { fn := Tryz.f214, mask := 274888196125, keep := false, prim := none }
noncomputable def fun217 : Fun := { fn := Tryz.f217, mask := 23, keep := false, prim := none }
noncomputable def fun219 : Fun := { fn := Tryz.f219, mask := 5, keep := false, prim := none }
noncomputable def fun220 : Fun := { fn := Tryz.f220, mask := 1043, keep := false, prim := none }
noncomputable def fun221 : Fun := { fn := Tryz.f221, mask := 30783, keep := true, prim := none }
noncomputable def fun225 : Fun := { fn := Tryz.f225, mask := 491583, keep := true, prim := none }
noncomputable def fun226 : Fun := { fn := Tryz.f226, mask := 12855504354071922917960223656443085702429845449959358836311679, keep := false, prim := none }
noncomputable def fun230 : Fun := { fn := Tryz.f230, mask := 20426010943356750102455122975, keep := true, prim := none }
noncomputable def fun235 : Fun := { fn := Tryz.f235, mask := 0, keep := false, prim := some .indexByteString }
noncomputable def fun236 : Fun := { fn := Tryz.f236, mask := 8211, keep := false, prim := none }
noncomputable def fun240 : Fun := { fn := Tryz.f240, mask := 131527, keep := false, prim := none }
noncomputable def fun241 : Fun := { fn := Tryz.f241, mask := 563501857374451, keep := false, prim := none }
noncomputable def fun243 : Fun := { fn := Tryz.f243, mask := 18483898770635358239, keep := false, prim := none }
noncomputable def fun245 : Fun := { fn := Tryz.f245, mask := 99132251962343631, keep := false, prim := none }
noncomputable def fun246 : Fun := { fn := Tryz.f246, mask := 8703, keep := false, prim := none }
noncomputable def fun247 : Fun := { fn := Tryz.f247, mask := 8590200303, keep := false, prim := none }
noncomputable def fun249 : Fun := { fn := Tryz.f249, mask := 21, keep := true, prim := some (.clone 1 1) }
noncomputable def fun250 : Fun := { fn := Tryz.f250, mask := 21, keep := true, prim := some (.clone 3 24) }
noncomputable def fun252 : Fun := { fn := Tryz.f252, mask := 11, keep := false, prim := none }
noncomputable def fun256 : Fun := { fn := Tryz.f256, mask := 5, keep := false, prim := none }
noncomputable def fun261 : Fun := { fn := Tryz.f261, mask := 594912002450663878599, keep := false, prim := none }
noncomputable def fun263 : Fun := { fn := Tryz.f263, mask := 13, keep := false, prim := none }
noncomputable def fun271 : Fun := { fn := Tryz.f271, mask := 132109, keep := false, prim := none }
noncomputable def fun276 : Fun := { fn := Tryz.f276, mask := 749019592093908130998168547243562859198691857383367, keep := false, prim := none }
noncomputable def fun281 : Fun := { fn := Tryz.f281, mask := 72339071195682803, keep := false, prim := none }
noncomputable def fun290 : Fun := { fn := Tryz.f290, mask := 8407165, keep := false, prim := none }
noncomputable def fun291 : Fun := { fn := Tryz.f291, mask := 2101491, keep := false, prim := none }
noncomputable def fun293 : Fun := { fn := Tryz.f293, mask := 9224502335110254589, keep := false, prim := none }
noncomputable def fun294 : Fun := { fn := Tryz.f294, mask := 715827901, keep := false, prim := none }
noncomputable def g5 : Quick := fun cf n args h => bodyT cx cf n fun5.fn fun5.mask fun5.keep args h
theorem g5_k : okFun fun5 = true := by kernel_rfl
theorem g5_ok : QuickOk Tryz.prog cx 5 g5 := quick_deep (F := fun5) mixed tysOk Tryz.func5 g5_k
noncomputable def g9 : Quick := fun cf n args h => bodyT cx cf n fun9.fn fun9.mask fun9.keep args h
theorem g9_k : okFun fun9 = true := by kernel_rfl
theorem g9_ok : QuickOk Tryz.prog cx 9 g9 := quick_deep (F := fun9) mixed tysOk Tryz.func9 g9_k
noncomputable def g12 : Quick := fun cf n args h => bodyT cx cf n fun12.fn fun12.mask fun12.keep args h
theorem g12_k : okFun fun12 = true := by kernel_rfl
theorem g12_ok : QuickOk Tryz.prog cx 12 g12 := quick_deep (F := fun12) mixed tysOk Tryz.func12 g12_k
noncomputable def g13 : Quick := fun cf n args h => bodyT cx cf n fun13.fn fun13.mask fun13.keep args h
theorem g13_k : okFun fun13 = true := by kernel_rfl
theorem g13_ok : QuickOk Tryz.prog cx 13 g13 := quick_deep (F := fun13) mixed tysOk Tryz.func13 g13_k
noncomputable def g26 : Quick := fun _ _ args h => primT ((.clone 1 8)) args h
theorem g26_ok : QuickOk Tryz.prog cx 26 g26 := quick_prim (clone_ok (fn := Tryz.f26) (t := 53) (tb := 4) (te := ty2) tysOk Tryz.func26 (by kernel_rfl) (by kernel_rfl) (by kernel_rfl) (by kernel_rfl) (by kernel_rfl) (by kernel_rfl) (by kernel_rfl))
noncomputable def g29 : Quick := fun cf n args h => bodyT cx cf n fun29.fn fun29.mask fun29.keep args h
theorem g29_k : okFun fun29 = true := by kernel_rfl
theorem g29_ok : QuickOk Tryz.prog cx 29 g29 := quick_deep (F := fun29) mixed tysOk Tryz.func29 g29_k
noncomputable def g30 : Quick := fun cf n args h => bodyT cx cf n fun30.fn fun30.mask fun30.keep args h
theorem g30_k : okFun fun30 = true := by kernel_rfl
theorem g30_ok : QuickOk Tryz.prog cx 30 g30 := quick_deep (F := fun30) mixed tysOk Tryz.func30 g30_k
noncomputable def g32 : Quick := fun cf n args h => bodyT cx cf n fun32.fn fun32.mask fun32.keep args h
theorem g32_k : okFun fun32 = true := by kernel_rfl
theorem g32_ok : QuickOk Tryz.prog cx 32 g32 := quick_deep (F := fun32) mixed tysOk Tryz.func32 g32_k
noncomputable def g33 : Quick := fun cf n args h => bodyT cx cf n fun33.fn fun33.mask fun33.keep args h
theorem g33_k : okFun fun33 = true := by kernel_rfl
theorem g33_ok : QuickOk Tryz.prog cx 33 g33 := quick_deep (F := fun33) mixed tysOk Tryz.func33 g33_k
noncomputable def g37 : Quick := fun cf n args h => bodyT cx cf n fun37.fn fun37.mask fun37.keep args h
theorem g37_k : okFun fun37 = true := by kernel_rfl
theorem g37_ok : QuickOk Tryz.prog cx 37 g37 := quick_deep (F := fun37) mixed tysOk Tryz.func37 g37_k
noncomputable def g38 : Quick := fun cf n args h => bodyT cx cf n fun38.fn fun38.mask fun38.keep args h
theorem g38_k : okFun fun38 = true := by kernel_rfl
theorem g38_ok : QuickOk Tryz.prog cx 38 g38 := quick_deep (F := fun38) mixed tysOk Tryz.func38 g38_k
noncomputable def g39 : Quick := fun cf n args h => bodyT cx cf n fun39.fn fun39.mask fun39.keep args h
theorem g39_k : okFun fun39 = true := by kernel_rfl
theorem g39_ok : QuickOk Tryz.prog cx 39 g39 := quick_deep (F := fun39) mixed tysOk Tryz.func39 g39_k
noncomputable def g40 : Quick := fun cf n args h => bodyT cx cf n fun40.fn fun40.mask fun40.keep args h
theorem g40_k : okFun fun40 = true := by kernel_rfl
theorem g40_ok : QuickOk Tryz.prog cx 40 g40 := quick_deep (F := fun40) mixed tysOk Tryz.func40 g40_k
noncomputable def g52 : Quick := fun cf n args h => bodyT cx cf n fun52.fn fun52.mask fun52.keep args h
theorem g52_k : okFun fun52 = true := by kernel_rfl
theorem g52_ok : QuickOk Tryz.prog cx 52 g52 := quick_deep (F := fun52) mixed tysOk Tryz.func52 g52_k
noncomputable def g57 : Quick := fun cf n args h => bodyT cx cf n fun57.fn fun57.mask fun57.keep args h
theorem g57_k : okFun fun57 = true := by kernel_rfl
theorem g57_ok : QuickOk Tryz.prog cx 57 g57 := quick_deep (F := fun57) mixed tysOk Tryz.func57 g57_k
noncomputable def g58 : Quick := fun cf n args h => bodyT cx cf n fun58.fn fun58.mask fun58.keep args h
theorem g58_k : okFun fun58 = true := by kernel_rfl
theorem g58_ok : QuickOk Tryz.prog cx 58 g58 := quick_deep (F := fun58) mixed tysOk Tryz.func58 g58_k
noncomputable def g60 : Quick := fun cf n args h => bodyT cx cf n fun60.fn fun60.mask fun60.keep args h
theorem g60_k : okFun fun60 = true := by kernel_rfl
theorem g60_ok : QuickOk Tryz.prog cx 60 g60 := quick_deep (F := fun60) mixed tysOk Tryz.func60 g60_k
noncomputable def g61 : Quick := fun cf n args h => bodyT cx cf n fun61.fn fun61.mask fun61.keep args h
theorem g61_k : okFun fun61 = true := by kernel_rfl
theorem g61_ok : QuickOk Tryz.prog cx 61 g61 := quick_deep (F := fun61) mixed tysOk Tryz.func61 g61_k
noncomputable def g62 : Quick := fun cf n args h => bodyT cx cf n fun62.fn fun62.mask fun62.keep args h
theorem g62_k : okFun fun62 = true := by kernel_rfl
theorem g62_ok : QuickOk Tryz.prog cx 62 g62 := quick_deep (F := fun62) mixed tysOk Tryz.func62 g62_k
noncomputable def g63 : Quick := fun cf n args h => bodyT cx cf n fun63.fn fun63.mask fun63.keep args h
theorem g63_k : okFun fun63 = true := by kernel_rfl
theorem g63_ok : QuickOk Tryz.prog cx 63 g63 := quick_deep (F := fun63) mixed tysOk Tryz.func63 g63_k
noncomputable def g64 : Quick := fun cf n args h => bodyT cx cf n fun64.fn fun64.mask fun64.keep args h
theorem g64_k : okFun fun64 = true := by kernel_rfl
theorem g64_ok : QuickOk Tryz.prog cx 64 g64 := quick_deep (F := fun64) mixed tysOk Tryz.func64 g64_k
noncomputable def g65 : Quick := fun cf n args h => bodyT cx cf n fun65.fn fun65.mask fun65.keep args h
theorem g65_k : okFun fun65 = true := by kernel_rfl
theorem g65_ok : QuickOk Tryz.prog cx 65 g65 := quick_deep (F := fun65) mixed tysOk Tryz.func65 g65_k
noncomputable def g66 : Quick := fun cf n args h => bodyT cx cf n fun66.fn fun66.mask fun66.keep args h
theorem g66_k : okFun fun66 = true := by kernel_rfl
theorem g66_ok : QuickOk Tryz.prog cx 66 g66 := quick_deep (F := fun66) mixed tysOk Tryz.func66 g66_k
noncomputable def g69 : Quick := fun cf n args h => bodyT cx cf n fun69.fn fun69.mask fun69.keep args h
theorem g69_k : okFun fun69 = true := by kernel_rfl
theorem g69_ok : QuickOk Tryz.prog cx 69 g69 := quick_deep (F := fun69) mixed tysOk Tryz.func69 g69_k
noncomputable def g70 : Quick := fun cf n args h => bodyT cx cf n fun70.fn fun70.mask fun70.keep args h
theorem g70_k : okFun fun70 = true := by kernel_rfl
theorem g70_ok : QuickOk Tryz.prog cx 70 g70 := quick_deep (F := fun70) mixed tysOk Tryz.func70 g70_k
noncomputable def g71 : Quick := fun cf n args h => bodyT cx cf n fun71.fn fun71.mask fun71.keep args h
theorem g71_k : okFun fun71 = true := by kernel_rfl
theorem g71_ok : QuickOk Tryz.prog cx 71 g71 := quick_deep (F := fun71) mixed tysOk Tryz.func71 g71_k
noncomputable def g72 : Quick := fun cf n args h => bodyT cx cf n fun72.fn fun72.mask fun72.keep args h
theorem g72_k : okFun fun72 = true := by kernel_rfl
theorem g72_ok : QuickOk Tryz.prog cx 72 g72 := quick_deep (F := fun72) mixed tysOk Tryz.func72 g72_k
noncomputable def g73 : Quick := fun cf n args h => bodyT cx cf n fun73.fn fun73.mask fun73.keep args h
theorem g73_k : okFun fun73 = true := by kernel_rfl
theorem g73_ok : QuickOk Tryz.prog cx 73 g73 := quick_deep (F := fun73) mixed tysOk Tryz.func73 g73_k
noncomputable def g74 : Quick := fun cf n args h => bodyT cx cf n fun74.fn fun74.mask fun74.keep args h
theorem g74_k : okFun fun74 = true := by kernel_rfl
theorem g74_ok : QuickOk Tryz.prog cx 74 g74 := quick_deep (F := fun74) mixed tysOk Tryz.func74 g74_k
noncomputable def g75 : Quick := fun cf n args h => bodyT cx cf n fun75.fn fun75.mask fun75.keep args h
theorem g75_k : okFun fun75 = true := by kernel_rfl
theorem g75_ok : QuickOk Tryz.prog cx 75 g75 := quick_deep (F := fun75) mixed tysOk Tryz.func75 g75_k
noncomputable def g76 : Quick := fun cf n args h => bodyT cx cf n fun76.fn fun76.mask fun76.keep args h
theorem g76_k : okFun fun76 = true := by kernel_rfl
theorem g76_ok : QuickOk Tryz.prog cx 76 g76 := quick_deep (F := fun76) mixed tysOk Tryz.func76 g76_k
noncomputable def g78 : Quick := fun cf n args h => bodyT cx cf n fun78.fn fun78.mask fun78.keep args h
theorem g78_k : okFun fun78 = true := by kernel_rfl
theorem g78_ok : QuickOk Tryz.prog cx 78 g78 := quick_deep (F := fun78) mixed tysOk Tryz.func78 g78_k
noncomputable def g79 : Quick := fun cf n args h => bodyT cx cf n fun79.fn fun79.mask fun79.keep args h
theorem g79_k : okFun fun79 = true := by kernel_rfl
theorem g79_ok : QuickOk Tryz.prog cx 79 g79 := quick_deep (F := fun79) mixed tysOk Tryz.func79 g79_k
noncomputable def g80 : Quick := fun cf n args h => bodyT cx cf n fun80.fn fun80.mask fun80.keep args h
theorem g80_k : okFun fun80 = true := by kernel_rfl
theorem g80_ok : QuickOk Tryz.prog cx 80 g80 := quick_deep (F := fun80) mixed tysOk Tryz.func80 g80_k
noncomputable def g81 : Quick := fun cf n args h => bodyT cx cf n fun81.fn fun81.mask fun81.keep args h
theorem g81_k : okFun fun81 = true := by kernel_rfl
theorem g81_ok : QuickOk Tryz.prog cx 81 g81 := quick_deep (F := fun81) mixed tysOk Tryz.func81 g81_k
noncomputable def g87 : Quick := fun cf n args h => bodyT cx cf n fun87.fn fun87.mask fun87.keep args h
theorem g87_k : okFun fun87 = true := by kernel_rfl
theorem g87_ok : QuickOk Tryz.prog cx 87 g87 := quick_deep (F := fun87) mixed tysOk Tryz.func87 g87_k
noncomputable def g90 : Quick := fun cf n args h => bodyT cx cf n fun90.fn fun90.mask fun90.keep args h
theorem g90_k : okFun fun90 = true := by kernel_rfl
theorem g90_ok : QuickOk Tryz.prog cx 90 g90 := quick_deep (F := fun90) mixed tysOk Tryz.func90 g90_k
noncomputable def g92 : Quick := fun cf n args h => bodyT cx cf n fun92.fn fun92.mask fun92.keep args h
theorem g92_k : okFun fun92 = true := by kernel_rfl
theorem g92_ok : QuickOk Tryz.prog cx 92 g92 := quick_deep (F := fun92) mixed tysOk Tryz.func92 g92_k
noncomputable def g93 : Quick := fun cf n args h => bodyT cx cf n fun93.fn fun93.mask fun93.keep args h
theorem g93_k : okFun fun93 = true := by kernel_rfl
theorem g93_ok : QuickOk Tryz.prog cx 93 g93 := quick_deep (F := fun93) mixed tysOk Tryz.func93 g93_k
noncomputable def g94 : Quick := fun cf n args h => bodyT cx cf n fun94.fn fun94.mask fun94.keep args h
theorem g94_k : okFun fun94 = true := by kernel_rfl
theorem g94_ok : QuickOk Tryz.prog cx 94 g94 := quick_deep (F := fun94) mixed tysOk Tryz.func94 g94_k
noncomputable def g95 : Quick := fun cf n args h => bodyT cx cf n fun95.fn fun95.mask fun95.keep args h
theorem g95_k : okFun fun95 = true := by kernel_rfl
theorem g95_ok : QuickOk Tryz.prog cx 95 g95 := quick_deep (F := fun95) mixed tysOk Tryz.func95 g95_k
noncomputable def g96 : Quick := fun cf n args h => bodyT cx cf n fun96.fn fun96.mask fun96.keep args h
theorem g96_k : okFun fun96 = true := by kernel_rfl
theorem g96_ok : QuickOk Tryz.prog cx 96 g96 := quick_deep (F := fun96) mixed tysOk Tryz.func96 g96_k
noncomputable def g97 : Quick := fun cf n args h => bodyT cx cf n fun97.fn fun97.mask fun97.keep args h
theorem g97_k : okFun fun97 = true := by kernel_rfl
theorem g97_ok : QuickOk Tryz.prog cx 97 g97 := quick_deep (F := fun97) mixed tysOk Tryz.func97 g97_k
noncomputable def g98 : Quick := fun cf n args h => bodyT cx cf n fun98.fn fun98.mask fun98.keep args h
theorem g98_k : okFun fun98 = true := by kernel_rfl
theorem g98_ok : QuickOk Tryz.prog cx 98 g98 := quick_deep (F := fun98) mixed tysOk Tryz.func98 g98_k
noncomputable def g99 : Quick := fun cf n args h => bodyT cx cf n fun99.fn fun99.mask fun99.keep args h
theorem g99_k : okFun fun99 = true := by kernel_rfl
theorem g99_ok : QuickOk Tryz.prog cx 99 g99 := quick_deep (F := fun99) mixed tysOk Tryz.func99 g99_k
noncomputable def g100 : Quick := fun cf n args h => bodyT cx cf n fun100.fn fun100.mask fun100.keep args h
theorem g100_k : okFun fun100 = true := by kernel_rfl
theorem g100_ok : QuickOk Tryz.prog cx 100 g100 := quick_deep (F := fun100) mixed tysOk Tryz.func100 g100_k
noncomputable def g101 : Quick := fun cf n args h => bodyT cx cf n fun101.fn fun101.mask fun101.keep args h
theorem g101_k : okFun fun101 = true := by kernel_rfl
theorem g101_ok : QuickOk Tryz.prog cx 101 g101 := quick_deep (F := fun101) mixed tysOk Tryz.func101 g101_k
noncomputable def g102 : Quick := fun cf n args h => bodyT cx cf n fun102.fn fun102.mask fun102.keep args h
theorem g102_k : okFun fun102 = true := by kernel_rfl
theorem g102_ok : QuickOk Tryz.prog cx 102 g102 := quick_deep (F := fun102) mixed tysOk Tryz.func102 g102_k
noncomputable def g104 : Quick := fun cf n args h => bodyT cx cf n fun104.fn fun104.mask fun104.keep args h
theorem g104_k : okFun fun104 = true := by kernel_rfl
theorem g104_ok : QuickOk Tryz.prog cx 104 g104 := quick_deep (F := fun104) mixed tysOk Tryz.func104 g104_k
noncomputable def g105 : Quick := fun cf n args h => bodyT cx cf n fun105.fn fun105.mask fun105.keep args h
theorem g105_k : okFun fun105 = true := by kernel_rfl
theorem g105_ok : QuickOk Tryz.prog cx 105 g105 := quick_deep (F := fun105) mixed tysOk Tryz.func105 g105_k
noncomputable def g106 : Quick := fun cf n args h => bodyT cx cf n fun106.fn fun106.mask fun106.keep args h
theorem g106_k : okFun fun106 = true := by kernel_rfl
theorem g106_ok : QuickOk Tryz.prog cx 106 g106 := quick_deep (F := fun106) mixed tysOk Tryz.func106 g106_k
noncomputable def g108 : Quick := fun cf n args h => bodyT cx cf n fun108.fn fun108.mask fun108.keep args h
theorem g108_k : okFun fun108 = true := by kernel_rfl
theorem g108_ok : QuickOk Tryz.prog cx 108 g108 := quick_deep (F := fun108) mixed tysOk Tryz.func108 g108_k
noncomputable def g109 : Quick := fun cf n args h => bodyT cx cf n fun109.fn fun109.mask fun109.keep args h
theorem g109_k : okFun fun109 = true := by kernel_rfl
theorem g109_ok : QuickOk Tryz.prog cx 109 g109 := quick_deep (F := fun109) mixed tysOk Tryz.func109 g109_k
noncomputable def g110 : Quick := fun cf n args h => bodyT cx cf n fun110.fn fun110.mask fun110.keep args h
theorem g110_k : okFun fun110 = true := by kernel_rfl
theorem g110_ok : QuickOk Tryz.prog cx 110 g110 := quick_deep (F := fun110) mixed tysOk Tryz.func110 g110_k
noncomputable def g111 : Quick := fun cf n args h => bodyT cx cf n fun111.fn fun111.mask fun111.keep args h
theorem g111_k : okFun fun111 = true := by kernel_rfl
theorem g111_ok : QuickOk Tryz.prog cx 111 g111 := quick_deep (F := fun111) mixed tysOk Tryz.func111 g111_k
noncomputable def g112 : Quick := fun cf n args h => bodyT cx cf n fun112.fn fun112.mask fun112.keep args h
theorem g112_k : okFun fun112 = true := by kernel_rfl
theorem g112_ok : QuickOk Tryz.prog cx 112 g112 := quick_deep (F := fun112) mixed tysOk Tryz.func112 g112_k
noncomputable def g113 : Quick := fun cf n args h => bodyT cx cf n fun113.fn fun113.mask fun113.keep args h
theorem g113_k : okFun fun113 = true := by kernel_rfl
theorem g113_ok : QuickOk Tryz.prog cx 113 g113 := quick_deep (F := fun113) mixed tysOk Tryz.func113 g113_k
noncomputable def g123 : Quick := fun cf n args h => bodyT cx cf n fun123.fn fun123.mask fun123.keep args h
theorem g123_k : okFun fun123 = true := by kernel_rfl
theorem g123_ok : QuickOk Tryz.prog cx 123 g123 := quick_deep (F := fun123) mixed tysOk Tryz.func123 g123_k
noncomputable def g151 : Quick := fun cf n args h => bodyT cx cf n fun151.fn fun151.mask fun151.keep args h
theorem g151_k : okFun fun151 = true := by kernel_rfl
theorem g151_ok : QuickOk Tryz.prog cx 151 g151 := quick_deep (F := fun151) mixed tysOk Tryz.func151 g151_k
noncomputable def g152 : Quick := fun cf n args h => bodyT cx cf n fun152.fn fun152.mask fun152.keep args h
theorem g152_k : okFun fun152 = true := by kernel_rfl
theorem g152_ok : QuickOk Tryz.prog cx 152 g152 := quick_deep (F := fun152) mixed tysOk Tryz.func152 g152_k
noncomputable def g153 : Quick := fun cf n args h => bodyT cx cf n fun153.fn fun153.mask fun153.keep args h
theorem g153_k : okFun fun153 = true := by kernel_rfl
theorem g153_ok : QuickOk Tryz.prog cx 153 g153 := quick_deep (F := fun153) mixed tysOk Tryz.func153 g153_k
noncomputable def g154 : Quick := fun cf n args h => bodyT cx cf n fun154.fn fun154.mask fun154.keep args h
theorem g154_k : okFun fun154 = true := by kernel_rfl
theorem g154_ok : QuickOk Tryz.prog cx 154 g154 := quick_deep (F := fun154) mixed tysOk Tryz.func154 g154_k
noncomputable def g155 : Quick := fun cf n args h => bodyT cx cf n fun155.fn fun155.mask fun155.keep args h
theorem g155_k : okFun fun155 = true := by kernel_rfl
theorem g155_ok : QuickOk Tryz.prog cx 155 g155 := quick_deep (F := fun155) mixed tysOk Tryz.func155 g155_k
noncomputable def g156 : Quick := fun cf n args h => bodyT cx cf n fun156.fn fun156.mask fun156.keep args h
theorem g156_k : okFun fun156 = true := by kernel_rfl
theorem g156_ok : QuickOk Tryz.prog cx 156 g156 := quick_deep (F := fun156) mixed tysOk Tryz.func156 g156_k
noncomputable def g157 : Quick := fun cf n args h => bodyT cx cf n fun157.fn fun157.mask fun157.keep args h
theorem g157_k : okFun fun157 = true := by kernel_rfl
theorem g157_ok : QuickOk Tryz.prog cx 157 g157 := quick_deep (F := fun157) mixed tysOk Tryz.func157 g157_k
noncomputable def g158 : Quick := fun cf n args h => bodyT cx cf n fun158.fn fun158.mask fun158.keep args h
theorem g158_k : okFun fun158 = true := by kernel_rfl
theorem g158_ok : QuickOk Tryz.prog cx 158 g158 := quick_deep (F := fun158) mixed tysOk Tryz.func158 g158_k
noncomputable def g159 : Quick := fun cf n args h => bodyT cx cf n fun159.fn fun159.mask fun159.keep args h
theorem g159_k : okFun fun159 = true := by kernel_rfl
theorem g159_ok : QuickOk Tryz.prog cx 159 g159 := quick_deep (F := fun159) mixed tysOk Tryz.func159 g159_k
noncomputable def g160 : Quick := fun cf n args h => bodyT cx cf n fun160.fn fun160.mask fun160.keep args h
theorem g160_k : okFun fun160 = true := by kernel_rfl
theorem g160_ok : QuickOk Tryz.prog cx 160 g160 := quick_deep (F := fun160) mixed tysOk Tryz.func160 g160_k
noncomputable def g161 : Quick := fun cf n args h => bodyT cx cf n fun161.fn fun161.mask fun161.keep args h
theorem g161_k : okFun fun161 = true := by kernel_rfl
theorem g161_ok : QuickOk Tryz.prog cx 161 g161 := quick_deep (F := fun161) mixed tysOk Tryz.func161 g161_k
noncomputable def g162 : Quick := fun cf n args h => bodyT cx cf n fun162.fn fun162.mask fun162.keep args h
theorem g162_k : okFun fun162 = true := by kernel_rfl
theorem g162_ok : QuickOk Tryz.prog cx 162 g162 := quick_deep (F := fun162) mixed tysOk Tryz.func162 g162_k
noncomputable def g163 : Quick := fun cf n args h => bodyT cx cf n fun163.fn fun163.mask fun163.keep args h
theorem g163_k : okFun fun163 = true := by kernel_rfl
theorem g163_ok : QuickOk Tryz.prog cx 163 g163 := quick_deep (F := fun163) mixed tysOk Tryz.func163 g163_k
noncomputable def g164 : Quick := fun cf n args h => bodyT cx cf n fun164.fn fun164.mask fun164.keep args h
theorem g164_k : okFun fun164 = true := by kernel_rfl
theorem g164_ok : QuickOk Tryz.prog cx 164 g164 := quick_deep (F := fun164) mixed tysOk Tryz.func164 g164_k
noncomputable def g165 : Quick := fun cf n args h => bodyT cx cf n fun165.fn fun165.mask fun165.keep args h
theorem g165_k : okFun fun165 = true := by kernel_rfl
theorem g165_ok : QuickOk Tryz.prog cx 165 g165 := quick_deep (F := fun165) mixed tysOk Tryz.func165 g165_k
noncomputable def g166 : Quick := fun cf n args h => bodyT cx cf n fun166.fn fun166.mask fun166.keep args h
theorem g166_k : okFun fun166 = true := by kernel_rfl
theorem g166_ok : QuickOk Tryz.prog cx 166 g166 := quick_deep (F := fun166) mixed tysOk Tryz.func166 g166_k
noncomputable def g167 : Quick := fun cf n args h => bodyT cx cf n fun167.fn fun167.mask fun167.keep args h
theorem g167_k : okFun fun167 = true := by kernel_rfl
theorem g167_ok : QuickOk Tryz.prog cx 167 g167 := quick_deep (F := fun167) mixed tysOk Tryz.func167 g167_k
noncomputable def g168 : Quick := fun cf n args h => bodyT cx cf n fun168.fn fun168.mask fun168.keep args h
theorem g168_k : okFun fun168 = true := by kernel_rfl
theorem g168_ok : QuickOk Tryz.prog cx 168 g168 := quick_deep (F := fun168) mixed tysOk Tryz.func168 g168_k
noncomputable def g172 : Quick := fun cf n args h => bodyT cx cf n fun172.fn fun172.mask fun172.keep args h
theorem g172_k : okFun fun172 = true := by kernel_rfl
theorem g172_ok : QuickOk Tryz.prog cx 172 g172 := quick_deep (F := fun172) mixed tysOk Tryz.func172 g172_k
noncomputable def g173 : Quick := fun cf n args h => bodyT cx cf n fun173.fn fun173.mask fun173.keep args h
theorem g173_k : okFun fun173 = true := by kernel_rfl
theorem g173_ok : QuickOk Tryz.prog cx 173 g173 := quick_deep (F := fun173) mixed tysOk Tryz.func173 g173_k
noncomputable def g174 : Quick := fun cf n args h => bodyT cx cf n fun174.fn fun174.mask fun174.keep args h
theorem g174_k : okFun fun174 = true := by kernel_rfl
theorem g174_ok : QuickOk Tryz.prog cx 174 g174 := quick_deep (F := fun174) mixed tysOk Tryz.func174 g174_k
noncomputable def g176 : Quick := fun cf n args h => bodyT cx cf n fun176.fn fun176.mask fun176.keep args h
theorem g176_k : okFun fun176 = true := by kernel_rfl
theorem g176_ok : QuickOk Tryz.prog cx 176 g176 := quick_deep (F := fun176) mixed tysOk Tryz.func176 g176_k
noncomputable def g177 : Quick := fun cf n args h => bodyT cx cf n fun177.fn fun177.mask fun177.keep args h
theorem g177_k : okFun fun177 = true := by kernel_rfl
theorem g177_ok : QuickOk Tryz.prog cx 177 g177 := quick_deep (F := fun177) mixed tysOk Tryz.func177 g177_k
noncomputable def g178 : Quick := fun cf n args h => bodyT cx cf n fun178.fn fun178.mask fun178.keep args h
theorem g178_k : okFun fun178 = true := by kernel_rfl
theorem g178_ok : QuickOk Tryz.prog cx 178 g178 := quick_deep (F := fun178) mixed tysOk Tryz.func178 g178_k
noncomputable def g179 : Quick := fun cf n args h => bodyT cx cf n fun179.fn fun179.mask fun179.keep args h
theorem g179_k : okFun fun179 = true := by kernel_rfl
theorem g179_ok : QuickOk Tryz.prog cx 179 g179 := quick_deep (F := fun179) mixed tysOk Tryz.func179 g179_k
noncomputable def g180 : Quick := fun cf n args h => bodyT cx cf n fun180.fn fun180.mask fun180.keep args h
theorem g180_k : okFun fun180 = true := by kernel_rfl
theorem g180_ok : QuickOk Tryz.prog cx 180 g180 := quick_deep (F := fun180) mixed tysOk Tryz.func180 g180_k
noncomputable def g181 : Quick := fun cf n args h => bodyT cx cf n fun181.fn fun181.mask fun181.keep args h
theorem g181_k : okFun fun181 = true := by kernel_rfl
theorem g181_ok : QuickOk Tryz.prog cx 181 g181 := quick_deep (F := fun181) mixed tysOk Tryz.func181 g181_k
noncomputable def g182 : Quick := fun cf n args h => bodyT cx cf n fun182.fn fun182.mask fun182.keep args h
theorem g182_k : okFun fun182 = true := by kernel_rfl
theorem g182_ok : QuickOk Tryz.prog cx 182 g182 := quick_deep (F := fun182) mixed tysOk Tryz.func182 g182_k
noncomputable def g183 : Quick := fun cf n args h => bodyT cx cf n fun183.fn fun183.mask fun183.keep args h
theorem g183_k : okFun fun183 = true := by kernel_rfl
theorem g183_ok : QuickOk Tryz.prog cx 183 g183 := quick_deep (F := fun183) mixed tysOk Tryz.func183 g183_k
noncomputable def g184 : Quick := fun cf n args h => bodyT cx cf n fun184.fn fun184.mask fun184.keep args h
theorem g184_k : okFun fun184 = true := by kernel_rfl
theorem g184_ok : QuickOk Tryz.prog cx 184 g184 := quick_deep (F := fun184) mixed tysOk Tryz.func184 g184_k
noncomputable def g186 : Quick := fun _ _ args h => primT ((.clone 1 8)) args h
theorem g186_ok : QuickOk Tryz.prog cx 186 g186 := quick_prim (clone_ok (fn := Tryz.f186) (t := 61) (tb := 4) (te := ty3) tysOk Tryz.func186 (by kernel_rfl) (by kernel_rfl) (by kernel_rfl) (by kernel_rfl) (by kernel_rfl) (by kernel_rfl) (by kernel_rfl))
noncomputable def g202 : Quick := fun cf n args h => bodyT cx cf n fun202.fn fun202.mask fun202.keep args h
theorem g202_k : okFun fun202 = true := by kernel_rfl
theorem g202_ok : QuickOk Tryz.prog cx 202 g202 := quick_deep (F := fun202) mixed tysOk Tryz.func202 g202_k
noncomputable def g203 : Quick := fun cf n args h => bodyT cx cf n fun203.fn fun203.mask fun203.keep args h
theorem g203_k : okFun fun203 = true := by kernel_rfl
theorem g203_ok : QuickOk Tryz.prog cx 203 g203 := quick_deep (F := fun203) mixed tysOk Tryz.func203 g203_k
noncomputable def g204 : Quick := fun cf n args h => bodyT cx cf n fun204.fn fun204.mask fun204.keep args h
theorem g204_k : okFun fun204 = true := by kernel_rfl
theorem g204_ok : QuickOk Tryz.prog cx 204 g204 := quick_deep (F := fun204) mixed tysOk Tryz.func204 g204_k
noncomputable def g205 : Quick := fun cf n args h => bodyT cx cf n fun205.fn fun205.mask fun205.keep args h
theorem g205_k : okFun fun205 = true := by kernel_rfl
theorem g205_ok : QuickOk Tryz.prog cx 205 g205 := quick_deep (F := fun205) mixed tysOk Tryz.func205 g205_k
noncomputable def g206 : Quick := fun cf n args h => bodyT cx cf n fun206.fn fun206.mask fun206.keep args h
theorem g206_k : okFun fun206 = true := by kernel_rfl
theorem g206_ok : QuickOk Tryz.prog cx 206 g206 := quick_deep (F := fun206) mixed tysOk Tryz.func206 g206_k
noncomputable def g207 : Quick := fun cf n args h => bodyT cx cf n fun207.fn fun207.mask fun207.keep args h
theorem g207_k : okFun fun207 = true := by kernel_rfl
theorem g207_ok : QuickOk Tryz.prog cx 207 g207 := quick_deep (F := fun207) mixed tysOk Tryz.func207 g207_k
noncomputable def g208 : Quick := fun cf n args h => bodyT cx cf n fun208.fn fun208.mask fun208.keep args h
theorem g208_k : okFun fun208 = true := by kernel_rfl
theorem g208_ok : QuickOk Tryz.prog cx 208 g208 := quick_deep (F := fun208) mixed tysOk Tryz.func208 g208_k
noncomputable def g209 : Quick := fun cf n args h => bodyT cx cf n fun209.fn fun209.mask fun209.keep args h
theorem g209_k : okFun fun209 = true := by kernel_rfl
theorem g209_ok : QuickOk Tryz.prog cx 209 g209 := quick_deep (F := fun209) mixed tysOk Tryz.func209 g209_k
noncomputable def g210 : Quick := fun cf n args h => bodyT cx cf n fun210.fn fun210.mask fun210.keep args h
theorem g210_k : okFun fun210 = true := by kernel_rfl
theorem g210_ok : QuickOk Tryz.prog cx 210 g210 := quick_deep (F := fun210) mixed tysOk Tryz.func210 g210_k
noncomputable def g211 : Quick := fun cf n args h => bodyT cx cf n fun211.fn fun211.mask fun211.keep args h
theorem g211_k : okFun fun211 = true := by kernel_rfl
theorem g211_ok : QuickOk Tryz.prog cx 211 g211 := quick_deep (F := fun211) mixed tysOk Tryz.func211 g211_k
noncomputable def g213 : Quick := fun cf n args h => bodyT cx cf n fun213.fn fun213.mask fun213.keep args h
theorem g213_k : okFun fun213 = true := by kernel_rfl
theorem g213_ok : QuickOk Tryz.prog cx 213 g213 := quick_deep (F := fun213) mixed tysOk Tryz.func213 g213_k
noncomputable def g214 : Quick := fun cf n args h => bodyT cx cf n fun214.fn fun214.mask fun214.keep args h
theorem g214_k : okFun fun214 = true := by kernel_rfl
theorem g214_ok : QuickOk Tryz.prog cx 214 g214 := quick_deep (F := fun214) mixed tysOk Tryz.func214 g214_k
noncomputable def g217 : Quick := fun cf n args h => bodyT cx cf n fun217.fn fun217.mask fun217.keep args h
theorem g217_k : okFun fun217 = true := by kernel_rfl
theorem g217_ok : QuickOk Tryz.prog cx 217 g217 := quick_deep (F := fun217) mixed tysOk Tryz.func217 g217_k
noncomputable def g219 : Quick := fun cf n args h => bodyT cx cf n fun219.fn fun219.mask fun219.keep args h
theorem g219_k : okFun fun219 = true := by kernel_rfl
theorem g219_ok : QuickOk Tryz.prog cx 219 g219 := quick_deep (F := fun219) mixed tysOk Tryz.func219 g219_k
noncomputable def g220 : Quick := fun cf n args h => bodyT cx cf n fun220.fn fun220.mask fun220.keep args h
theorem g220_k : okFun fun220 = true := by kernel_rfl
theorem g220_ok : QuickOk Tryz.prog cx 220 g220 := quick_deep (F := fun220) mixed tysOk Tryz.func220 g220_k
noncomputable def g221 : Quick := fun cf n args h => bodyT cx cf n fun221.fn fun221.mask fun221.keep args h
theorem g221_k : okFun fun221 = true := by kernel_rfl
theorem g221_ok : QuickOk Tryz.prog cx 221 g221 := quick_deep (F := fun221) mixed tysOk Tryz.func221 g221_k
noncomputable def g225 : Quick := fun cf n args h => bodyT cx cf n fun225.fn fun225.mask fun225.keep args h
theorem g225_k : okFun fun225 = true := by kernel_rfl
theorem g225_ok : QuickOk Tryz.prog cx 225 g225 := quick_deep (F := fun225) mixed tysOk Tryz.func225 g225_k
noncomputable def g226 : Quick := fun cf n args h => bodyT cx cf n fun226.fn fun226.mask fun226.keep args h
theorem g226_k : okFun fun226 = true := by kernel_rfl
theorem g226_ok : QuickOk Tryz.prog cx 226 g226 := quick_deep (F := fun226) mixed tysOk Tryz.func226 g226_k
noncomputable def g230 : Quick := fun cf n args h => bodyT cx cf n fun230.fn fun230.mask fun230.keep args h
theorem g230_k : okFun fun230 = true := by kernel_rfl
theorem g230_ok : QuickOk Tryz.prog cx 230 g230 := quick_deep (F := fun230) mixed tysOk Tryz.func230 g230_k
noncomputable def g235 : Quick := fun _ _ args h => primT (.indexByteString) args h
theorem g235_a : (Tryz.f235.name == "runtime.NumGoroutine") = false := by kernel_rfl
theorem g235_b : Tryz.f235.body.isNone = true := by kernel_rfl
theorem g235_n : Extern.findNext Tryz.f235 = none := by kernel_rfl
theorem g235_e : Extern.find Tryz.f235 = some Extern.BytealgIndexByte.indexByte := by kernel_rfl
theorem g235_p : PrimOk Tryz.prog cx 235 .indexByteString := @indexByte_ok Tryz.prog cx 235 Tryz.f235 Tryz.func235 g235_a g235_b g235_n g235_e
theorem g235_ok : QuickOk Tryz.prog cx 235 g235 := quick_prim g235_p
noncomputable def g236 : Quick := fun cf n args h => bodyT cx cf n fun236.fn fun236.mask fun236.keep args h
theorem g236_k : okFun fun236 = true := by kernel_rfl
theorem g236_ok : QuickOk Tryz.prog cx 236 g236 := quick_deep (F := fun236) mixed tysOk Tryz.func236 g236_k
noncomputable def g240 : Quick := fun cf n args h => bodyT cx cf n fun240.fn fun240.mask fun240.keep args h
theorem g240_k : okFun fun240 = true := by kernel_rfl
theorem g240_ok : QuickOk Tryz.prog cx 240 g240 := quick_deep (F := fun240) mixed tysOk Tryz.func240 g240_k
noncomputable def g241 : Quick := fun cf n args h => bodyT cx cf n fun241.fn fun241.mask fun241.keep args h
theorem g241_k : okFun fun241 = true := by kernel_rfl
theorem g241_ok : QuickOk Tryz.prog cx 241 g241 := quick_deep (F := fun241) mixed tysOk Tryz.func241 g241_k
noncomputable def g243 : Quick := fun cf n args h => bodyT cx cf n fun243.fn fun243.mask fun243.keep args h
theorem g243_k : okFun fun243 = true := by kernel_rfl
theorem g243_ok : QuickOk Tryz.prog cx 243 g243 := quick_deep (F := fun243) mixed tysOk Tryz.func243 g243_k
noncomputable def g245 : Quick := fun cf n args h => bodyT cx cf n fun245.fn fun245.mask fun245.keep args h
theorem g245_k : okFun fun245 = true := by kernel_rfl
theorem g245_ok : QuickOk Tryz.prog cx 245 g245 := quick_deep (F := fun245) mixed tysOk Tryz.func245 g245_k
noncomputable def g246 : Quick := fun cf n args h => bodyT cx cf n fun246.fn fun246.mask fun246.keep args h
theorem g246_k : okFun fun246 = true := by kernel_rfl
theorem g246_ok : QuickOk Tryz.prog cx 246 g246 := quick_deep (F := fun246) mixed tysOk Tryz.func246 g246_k
noncomputable def g247 : Quick := fun cf n args h => bodyT cx cf n fun247.fn fun247.mask fun247.keep args h
theorem g247_k : okFun fun247 = true := by kernel_rfl
theorem g247_ok : QuickOk Tryz.prog cx 247 g247 := quick_deep (F := fun247) mixed tysOk Tryz.func247 g247_k
noncomputable def g249 : Quick := fun _ _ args h => primT ((.clone 1 1)) args h
theorem g249_ok : QuickOk Tryz.prog cx 249 g249 := quick_prim (clone_ok (fn := Tryz.f249) (t := 49) (tb := 4) (te := ty4) tysOk Tryz.func249 (by kernel_rfl) (by kernel_rfl) (by kernel_rfl) (by kernel_rfl) (by kernel_rfl) (by kernel_rfl) (by kernel_rfl))
noncomputable def g250 : Quick := fun _ _ args h => primT ((.clone 3 24)) args h
theorem g250_ok : QuickOk Tryz.prog cx 250 g250 := quick_prim (clone_ok (fn := Tryz.f250) (t := 50) (tb := 4) (te := ty157) tysOk Tryz.func250 (by kernel_rfl) (by kernel_rfl) (by kernel_rfl) (by kernel_rfl) (by kernel_rfl) (by kernel_rfl) (by kernel_rfl))
noncomputable def g252 : Quick := fun cf n args h => bodyT cx cf n fun252.fn fun252.mask fun252.keep args h
theorem g252_k : okFun fun252 = true := by kernel_rfl
theorem g252_ok : QuickOk Tryz.prog cx 252 g252 := quick_deep (F := fun252) mixed tysOk Tryz.func252 g252_k
noncomputable def g256 : Quick := fun cf n args h => bodyT cx cf n fun256.fn fun256.mask fun256.keep args h
theorem g256_k : okFun fun256 = true := by kernel_rfl
theorem g256_ok : QuickOk Tryz.prog cx 256 g256 := quick_deep (F := fun256) mixed tysOk Tryz.func256 g256_k
noncomputable def g261 : Quick := fun cf n args h => bodyT cx cf n fun261.fn fun261.mask fun261.keep args h
theorem g261_k : okFun fun261 = true := by kernel_rfl
theorem g261_ok : QuickOk Tryz.prog cx 261 g261 := quick_deep (F := fun261) mixed tysOk Tryz.func261 g261_k
noncomputable def g263 : Quick := fun cf n args h => bodyT cx cf n fun263.fn fun263.mask fun263.keep args h
theorem g263_k : okFun fun263 = true := by kernel_rfl
theorem g263_ok : QuickOk Tryz.prog cx 263 g263 := quick_deep (F := fun263) mixed tysOk Tryz.func263 g263_k
noncomputable def g271 : Quick := fun cf n args h => bodyT cx cf n fun271.fn fun271.mask fun271.keep args h
theorem g271_k : okFun fun271 = true := by kernel_rfl
theorem g271_ok : QuickOk Tryz.prog cx 271 g271 := quick_deep (F := fun271) mixed tysOk Tryz.func271 g271_k
noncomputable def g276 : Quick := fun cf n args h => bodyT cx cf n fun276.fn fun276.mask fun276.keep args h
theorem g276_k : okFun fun276 = true := by kernel_rfl
theorem g276_ok : QuickOk Tryz.prog cx 276 g276 := quick_deep (F := fun276) mixed tysOk Tryz.func276 g276_k
noncomputable def g281 : Quick := fun cf n args h => bodyT cx cf n fun281.fn fun281.mask fun281.keep args h
theorem g281_k : okFun fun281 = true := by kernel_rfl
theorem g281_ok : QuickOk Tryz.prog cx 281 g281 := quick_deep (F := fun281) mixed tysOk Tryz.func281 g281_k
noncomputable def g290 : Quick := fun cf n args h => bodyT cx cf n fun290.fn fun290.mask fun290.keep args h
theorem g290_k : okFun fun290 = true := by kernel_rfl
theorem g290_ok : QuickOk Tryz.prog cx 290 g290 := quick_deep (F := fun290) mixed tysOk Tryz.func290 g290_k
noncomputable def g291 : Quick := fun cf n args h => bodyT cx cf n fun291.fn fun291.mask fun291.keep args h
theorem g291_k : okFun fun291 = true := by kernel_rfl
theorem g291_ok : QuickOk Tryz.prog cx 291 g291 := quick_deep (F := fun291) mixed tysOk Tryz.func291 g291_k
noncomputable def g293 : Quick := fun cf n args h => bodyT cx cf n fun293.fn fun293.mask fun293.keep args h
theorem g293_k : okFun fun293 = true := by kernel_rfl
theorem g293_ok : QuickOk Tryz.prog cx 293 g293 := quick_deep (F := fun293) mixed tysOk Tryz.func293 g293_k
noncomputable def g294 : Quick := fun cf n args h => bodyT cx cf n fun294.fn fun294.mask fun294.keep args h
theorem g294_k : okFun fun294 = true := by kernel_rfl
theorem g294_ok : QuickOk Tryz.prog cx 294 g294 := quick_deep (F := fun294) mixed tysOk Tryz.func294 g294_k
noncomputable def qs : Tree Quick := (.node (.node (.node (.node (.node (.node (.node (.node .nil 5 (g5) .nil) 9 (g9) .nil) 12 (g12) (.node .nil 13 (g13) .nil)) 26 (g26) (.node (.node .nil 29 (g29) .nil) 30 (g30) (.node .nil 32 (g32) .nil))) 33 (g33) (.node (.node (.node .nil 37 (g37) .nil) 38 (g38) (.node .nil 39 (g39) .nil)) 40 (g40) (.node (.node .nil 52 (g52) .nil) 57 (g57) (.node .nil 58 (g58) .nil)))) 60 (g60) (.node (.node (.node (.node .nil 61 (g61) .nil) 62 (g62) (.node .nil 63 (g63) .nil)) 64 (g64) (.node (.node .nil 65 (g65) .nil) 66 (g66) (.node .nil 69 (g69) .nil))) 70 (g70) (.node (.node (.node .nil 71 (g71) .nil) 72 (g72) (.node .nil 73 (g73) .nil)) 74 (g74) (.node (.node .nil 75 (g75) .nil) 76 (g76) (.node .nil 78 (g78) .nil))))) 79 (g79) (.node (.node (.node (.node (.node .nil 80 (g80) .nil) 81 (g81) (.node .nil 87 (g87) .nil)) 90 (g90) (.node (.node .nil 92 (g92) .nil) 93 (g93) (.node .nil 94 (g94) .nil))) 95 (g95) (.node (.node (.node .nil 96 (g96) .nil) 97 (g97) (.node .nil 98 (g98) .nil)) 99 (g99) (.node (.node .nil 100 (g100) .nil) 101 (g101) (.node .nil 102 (g102) .nil)))) 104 (g104) (.node (.node (.node (.node .nil 105 (g105) .nil) 106 (g106) (.node .nil 108 (g108) .nil)) 109 (g109) (.node (.node .nil 110 (g110) .nil) 111 (g111) (.node .nil 112 (g112) .nil))) 113 (g113) (.node (.node (.node .nil 123 (g123) .nil) 151 (g151) (.node .nil 152 (g152) .nil)) 153 (g153) (.node (.node .nil 154 (g154) .nil) 155 (g155) (.node .nil 156 (g156) .nil)))))) 157 (g157) (.node (.node (.node (.node (.node (.node (.node .nil 158 (g158) .nil) 159 (g159) .nil) 160 (g160) (.node .nil 161 (g161) .nil)) 162 (g162) (.node (.node .nil 163 (g163) .nil) 164 (g164) (.node .nil 165 (g165) .nil))) 166 (g166) (.node (.node (.node .nil 167 (g167) .nil) 168 (g168) (.node .nil 172 (g172) .nil)) 173 (g173) (.node (.node .nil 174 (g174) .nil) 176 (g176) (.node .nil 177 (g177) .nil)))) 178 (g178) (.node (.node (.node (.node .nil 179 (g179) .nil) 180 (g180) (.node .nil 181 (g181) .nil)) 182 (g182) (.node (.node .nil 183 (g183) .nil) 184 (g184) (.node .nil 186 (g186) .nil))) 202 (g202) (.node (.node (.node .nil 203 (g203) .nil) 204 (g204) (.node .nil 205 (g205) .nil)) 206 (g206) (.node (.node .nil 207 (g207) .nil) 208 (g208) (.node .nil 209 (g209) .nil))))) 210 (g210) (.node (.node (.node (.node (.node .nil 211 (g211) .nil) 213 (g213) (.node .nil 214 (g214) .nil)) 217 (g217) (.node (.node .nil 219 (g219) .nil) 220 (g220) (.node .nil 221 (g221) .nil))) 225 (g225) (.node (.node (.node .nil 226 (g226) .nil) 230 (g230) (.node .nil 235 (g235) .nil)) 236 (g236) (.node (.node .nil 240 (g240) .nil) 241 (g241) (.node .nil 243 (g243) .nil)))) 245 (g245) (.node (.node (.node (.node .nil 246 (g246) .nil) 247 (g247) (.node .nil 249 (g249) .nil)) 250 (g250) (.node (.node .nil 252 (g252) .nil) 256 (g256) (.node .nil 261 (g261) .nil))) 263 (g263) (.node (.node (.node .nil 271 (g271) .nil) 276 (g276) (.node .nil 281 (g281) .nil)) 290 (g290) (.node (.node .nil 291 (g291) .nil) 293 (g293) (.node .nil 294 (g294) .nil)))))))
theorem qsAll : qs.All fun f g => QuickOk Tryz.prog cx f g := (.node (.node (.node (.node (.node (.node (.node (.node .nil g5_ok .nil) g9_ok .nil) g12_ok (.node .nil g13_ok .nil)) g26_ok (.node (.node .nil g29_ok .nil) g30_ok (.node .nil g32_ok .nil))) g33_ok (.node (.node (.node .nil g37_ok .nil) g38_ok (.node .nil g39_ok .nil)) g40_ok (.node (.node .nil g52_ok .nil) g57_ok (.node .nil g58_ok .nil)))) g60_ok (.node (.node (.node (.node .nil g61_ok .nil) g62_ok (.node .nil g63_ok .nil)) g64_ok (.node (.node .nil g65_ok .nil) g66_ok (.node .nil g69_ok .nil))) g70_ok (.node (.node (.node .nil g71_ok .nil) g72_ok (.node .nil g73_ok .nil)) g74_ok (.node (.node .nil g75_ok .nil) g76_ok (.node .nil g78_ok .nil))))) g79_ok (.node (.node (.node (.node (.node .nil g80_ok .nil) g81_ok (.node .nil g87_ok .nil)) g90_ok (.node (.node .nil g92_ok .nil) g93_ok (.node .nil g94_ok .nil))) g95_ok (.node (.node (.node .nil g96_ok .nil) g97_ok (.node .nil g98_ok .nil)) g99_ok (.node (.node .nil g100_ok .nil) g101_ok (.node .nil g102_ok .nil)))) g104_ok (.node (.node (.node (.node .nil g105_ok .nil) g106_ok (.node .nil g108_ok .nil)) g109_ok (.node (.node .nil g110_ok .nil) g111_ok (.node .nil g112_ok .nil))) g113_ok (.node (.node (.node .nil g123_ok .nil) g151_ok (.node .nil g152_ok .nil)) g153_ok (.node (.node .nil g154_ok .nil) g155_ok (.node .nil g156_ok .nil)))))) g157_ok (.node (.node (.node (.node (.node (.node (.node .nil g158_ok .nil) g159_ok .nil) g160_ok (.node .nil g161_ok .nil)) g162_ok (.node (.node .nil g163_ok .nil) g164_ok (.node .nil g165_ok .nil))) g166_ok (.node (.node (.node .nil g167_ok .nil) g168_ok (.node .nil g172_ok .nil)) g173_ok (.node (.node .nil g174_ok .nil) g176_ok (.node .nil g177_ok .nil)))) g178_ok (.node (.node (.node (.node .nil g179_ok .nil) g180_ok (.node .nil g181_ok .nil)) g182_ok (.node (.node .nil g183_ok .nil) g184_ok (.node .nil g186_ok .nil))) g202_ok (.node (.node (.node .nil g203_ok .nil) g204_ok (.node .nil g205_ok .nil)) g206_ok (.node (.node .nil g207_ok .nil) g208_ok (.node .nil g209_ok .nil))))) g210_ok (.node (.node (.node (.node (.node .nil g211_ok .nil) g213_ok (.node .nil g214_ok .nil)) g217_ok (.node (.node .nil g219_ok .nil) g220_ok (.node .nil g221_ok .nil))) g225_ok (.node (.node (.node .nil g226_ok .nil) g230_ok (.node .nil g235_ok .nil)) g236_ok (.node (.node .nil g240_ok .nil) g241_ok (.node .nil g243_ok .nil)))) g245_ok (.node (.node (.node (.node .nil g246_ok .nil) g247_ok (.node .nil g249_ok .nil)) g250_ok (.node (.node .nil g252_ok .nil) g256_ok (.node .nil g261_ok .nil))) g263_ok (.node (.node (.node .nil g271_ok .nil) g276_ok (.node .nil g281_ok .nil)) g290_ok (.node (.node .nil g291_ok .nil) g293_ok (.node .nil g294_ok .nil)))))))
theorem qsOk : ∀ f g, (fun f => qs.find f) f = some g → QuickOk Tryz.prog cx f g := fun f g h => qsAll.find h
noncomputable def callQ (n : Nat) : CallF := callF (fun f => qs.find f) n
theorem callOk (n : Nat) : CallOk Tryz.prog cx (callQ n) := callF_sound qsOk n
end Go.Proofs.YtddpfdjgppabhaaGreatDoor
