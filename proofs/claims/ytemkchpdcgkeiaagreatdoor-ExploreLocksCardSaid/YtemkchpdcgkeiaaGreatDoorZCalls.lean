/- The table of calls. By program (mkquick.py). -/
import Derived.Test.YtemkchpdcgkeiaaGreatDoorZQ0
import Derived.Test.YtemkchpdcgkeiaaGreatDoorZQ1
import Derived.Test.YtemkchpdcgkeiaaGreatDoorZQ2
set_option linter.unusedSimpArgs false
set_option linter.unusedVariables false
namespace Go.Proofs.YtemkchpdcgkeiaaGreatDoor
open Go Go.TI
set_option linter.unusedVariables false
set_option maxRecDepth 100000
noncomputable def g7 : Quick := fun cf n args h => bodyT cx cf n fun7.fn fun7.mask fun7.keep args h
theorem g7_k : okFun fun7 = true := by kernel_rfl
theorem g7_ok : QuickOk Tryz.prog cx 7 g7 := quick_deep (F := fun7) mixed tysOk Tryz.func7 g7_k
noncomputable def g12 : Quick := fun cf n args h => bodyT cx cf n fun12.fn fun12.mask fun12.keep args h
theorem g12_k : okFun fun12 = true := by kernel_rfl
theorem g12_ok : QuickOk Tryz.prog cx 12 g12 := quick_deep (F := fun12) mixed tysOk Tryz.func12 g12_k
noncomputable def g14 : Quick := fun cf n args h => bodyT cx cf n fun14.fn fun14.mask fun14.keep args h
theorem g14_k : okFun fun14 = true := by kernel_rfl
theorem g14_ok : QuickOk Tryz.prog cx 14 g14 := quick_deep (F := fun14) mixed tysOk Tryz.func14 g14_k
noncomputable def g15 : Quick := fun cf n args h => bodyT cx cf n fun15.fn fun15.mask fun15.keep args h
theorem g15_k : okFun fun15 = true := by kernel_rfl
theorem g15_ok : QuickOk Tryz.prog cx 15 g15 := quick_deep (F := fun15) mixed tysOk Tryz.func15 g15_k
noncomputable def g23 : Quick := fun cf n args h => bodyT cx cf n fun23.fn fun23.mask fun23.keep args h
theorem g23_k : okFun fun23 = true := by kernel_rfl
theorem g23_ok : QuickOk Tryz.prog cx 23 g23 := quick_deep (F := fun23) mixed tysOk Tryz.func23 g23_k
noncomputable def g25 : Quick := fun cf n args h => bodyT cx cf n fun25.fn fun25.mask fun25.keep args h
theorem g25_k : okFun fun25 = true := by kernel_rfl
theorem g25_ok : QuickOk Tryz.prog cx 25 g25 := quick_deep (F := fun25) mixed tysOk Tryz.func25 g25_k
noncomputable def g26 : Quick := fun cf n args h => bodyT cx cf n fun26.fn fun26.mask fun26.keep args h
theorem g26_k : okFun fun26 = true := by kernel_rfl
theorem g26_ok : QuickOk Tryz.prog cx 26 g26 := quick_deep (F := fun26) mixed tysOk Tryz.func26 g26_k
noncomputable def g29 : Quick := fun cf n args h => bodyT cx cf n fun29.fn fun29.mask fun29.keep args h
theorem g29_k : okFun fun29 = true := by kernel_rfl
theorem g29_ok : QuickOk Tryz.prog cx 29 g29 := quick_deep (F := fun29) mixed tysOk Tryz.func29 g29_k
noncomputable def g33 : Quick := fun cf n args h => bodyT cx cf n fun33.fn fun33.mask fun33.keep args h
theorem g33_k : okFun fun33 = true := by kernel_rfl
theorem g33_ok : QuickOk Tryz.prog cx 33 g33 := quick_deep (F := fun33) mixed tysOk Tryz.func33 g33_k
noncomputable def g37 : Quick := fun cf n args h => bodyT cx cf n fun37.fn fun37.mask fun37.keep args h
theorem g37_k : okFun fun37 = true := by kernel_rfl
theorem g37_ok : QuickOk Tryz.prog cx 37 g37 := quick_deep (F := fun37) mixed tysOk Tryz.func37 g37_k
noncomputable def g57 : Quick := fun cf n args h => bodyT cx cf n fun57.fn fun57.mask fun57.keep args h
theorem g57_k : okFun fun57 = true := by kernel_rfl
theorem g57_ok : QuickOk Tryz.prog cx 57 g57 := quick_deep (F := fun57) mixed tysOk Tryz.func57 g57_k
noncomputable def g58 : Quick := fun cf n args h => bodyT cx cf n fun58.fn fun58.mask fun58.keep args h
theorem g58_k : okFun fun58 = true := by kernel_rfl
theorem g58_ok : QuickOk Tryz.prog cx 58 g58 := quick_deep (F := fun58) mixed tysOk Tryz.func58 g58_k
noncomputable def g60 : Quick := fun cf n args h => bodyT cx cf n fun60.fn fun60.mask fun60.keep args h
theorem g60_k : okFun fun60 = true := by kernel_rfl
theorem g60_ok : QuickOk Tryz.prog cx 60 g60 := quick_deep (F := fun60) mixed tysOk Tryz.func60 g60_k
noncomputable def g61 : Quick := fun cf n args h => bodyT cx cf n fun61.fn fun61.mask fun61.keep args h
theorem g61_k : okFun fun61 = true := by kernel_rfl
theorem g61_ok : QuickOk Tryz.prog cx 61 g61 := quick_deep (F := fun61) mixed tysOk Tryz.func61 g61_k
noncomputable def g62 : Quick := fun cf n args h => bodyT cx cf n fun62.fn fun62.mask fun62.keep args h
theorem g62_k : okFun fun62 = true := by kernel_rfl
theorem g62_ok : QuickOk Tryz.prog cx 62 g62 := quick_deep (F := fun62) mixed tysOk Tryz.func62 g62_k
noncomputable def g66 : Quick := fun cf n args h => bodyT cx cf n fun66.fn fun66.mask fun66.keep args h
theorem g66_k : okFun fun66 = true := by kernel_rfl
theorem g66_ok : QuickOk Tryz.prog cx 66 g66 := quick_deep (F := fun66) mixed tysOk Tryz.func66 g66_k
noncomputable def g68 : Quick := fun cf n args h => bodyT cx cf n fun68.fn fun68.mask fun68.keep args h
theorem g68_k : okFun fun68 = true := by kernel_rfl
theorem g68_ok : QuickOk Tryz.prog cx 68 g68 := quick_deep (F := fun68) mixed tysOk Tryz.func68 g68_k
noncomputable def g69 : Quick := fun cf n args h => bodyT cx cf n fun69.fn fun69.mask fun69.keep args h
theorem g69_k : okFun fun69 = true := by kernel_rfl
theorem g69_ok : QuickOk Tryz.prog cx 69 g69 := quick_deep (F := fun69) mixed tysOk Tryz.func69 g69_k
noncomputable def g74 : Quick := fun cf n args h => bodyT cx cf n fun74.fn fun74.mask fun74.keep args h
theorem g74_k : okFun fun74 = true := by kernel_rfl
theorem g74_ok : QuickOk Tryz.prog cx 74 g74 := quick_deep (F := fun74) mixed tysOk Tryz.func74 g74_k
noncomputable def g75 : Quick := fun cf n args h => bodyT cx cf n fun75.fn fun75.mask fun75.keep args h
theorem g75_k : okFun fun75 = true := by kernel_rfl
theorem g75_ok : QuickOk Tryz.prog cx 75 g75 := quick_deep (F := fun75) mixed tysOk Tryz.func75 g75_k
noncomputable def g78 : Quick := fun cf n args h => bodyT cx cf n fun78.fn fun78.mask fun78.keep args h
theorem g78_k : okFun fun78 = true := by kernel_rfl
theorem g78_ok : QuickOk Tryz.prog cx 78 g78 := quick_deep (F := fun78) mixed tysOk Tryz.func78 g78_k
noncomputable def g116 : Quick := fun cf n args h => bodyT cx cf n fun116.fn fun116.mask fun116.keep args h
theorem g116_k : okFun fun116 = true := by kernel_rfl
theorem g116_ok : QuickOk Tryz.prog cx 116 g116 := quick_deep (F := fun116) mixed tysOk Tryz.func116 g116_k
noncomputable def g119 : Quick := fun cf n args h => bodyT cx cf n fun119.fn fun119.mask fun119.keep args h
theorem g119_k : okFun fun119 = true := by kernel_rfl
theorem g119_ok : QuickOk Tryz.prog cx 119 g119 := quick_deep (F := fun119) mixed tysOk Tryz.func119 g119_k
noncomputable def g120 : Quick := fun cf n args h => bodyT cx cf n fun120.fn fun120.mask fun120.keep args h
theorem g120_k : okFun fun120 = true := by kernel_rfl
theorem g120_ok : QuickOk Tryz.prog cx 120 g120 := quick_deep (F := fun120) mixed tysOk Tryz.func120 g120_k
noncomputable def g122 : Quick := fun cf n args h => bodyT cx cf n fun122.fn fun122.mask fun122.keep args h
theorem g122_k : okFun fun122 = true := by kernel_rfl
theorem g122_ok : QuickOk Tryz.prog cx 122 g122 := quick_deep (F := fun122) mixed tysOk Tryz.func122 g122_k
noncomputable def g123 : Quick := fun cf n args h => bodyT cx cf n fun123.fn fun123.mask fun123.keep args h
theorem g123_k : okFun fun123 = true := by kernel_rfl
theorem g123_ok : QuickOk Tryz.prog cx 123 g123 := quick_deep (F := fun123) mixed tysOk Tryz.func123 g123_k
noncomputable def g129 : Quick := fun cf n args h => bodyT cx cf n fun129.fn fun129.mask fun129.keep args h
theorem g129_k : okFun fun129 = true := by kernel_rfl
theorem g129_ok : QuickOk Tryz.prog cx 129 g129 := quick_deep (F := fun129) mixed tysOk Tryz.func129 g129_k
noncomputable def g130 : Quick := fun cf n args h => bodyT cx cf n fun130.fn fun130.mask fun130.keep args h
theorem g130_k : okFun fun130 = true := by kernel_rfl
theorem g130_ok : QuickOk Tryz.prog cx 130 g130 := quick_deep (F := fun130) mixed tysOk Tryz.func130 g130_k
noncomputable def g132 : Quick := fun cf n args h => bodyT cx cf n fun132.fn fun132.mask fun132.keep args h
theorem g132_k : okFun fun132 = true := by kernel_rfl
theorem g132_ok : QuickOk Tryz.prog cx 132 g132 := quick_deep (F := fun132) mixed tysOk Tryz.func132 g132_k
noncomputable def g134 : Quick := fun cf n args h => bodyT cx cf n fun134.fn fun134.mask fun134.keep args h
theorem g134_k : okFun fun134 = true := by kernel_rfl
theorem g134_ok : QuickOk Tryz.prog cx 134 g134 := quick_deep (F := fun134) mixed tysOk Tryz.func134 g134_k
noncomputable def g136 : Quick := fun cf n args h => bodyT cx cf n fun136.fn fun136.mask fun136.keep args h
theorem g136_k : okFun fun136 = true := by kernel_rfl
theorem g136_ok : QuickOk Tryz.prog cx 136 g136 := quick_deep (F := fun136) mixed tysOk Tryz.func136 g136_k
noncomputable def g144 : Quick := fun cf n args h => bodyT cx cf n fun144.fn fun144.mask fun144.keep args h
theorem g144_k : okFun fun144 = true := by kernel_rfl
theorem g144_ok : QuickOk Tryz.prog cx 144 g144 := quick_deep (F := fun144) mixed tysOk Tryz.func144 g144_k
noncomputable def g145 : Quick := fun cf n args h => bodyT cx cf n fun145.fn fun145.mask fun145.keep args h
theorem g145_k : okFun fun145 = true := by kernel_rfl
theorem g145_ok : QuickOk Tryz.prog cx 145 g145 := quick_deep (F := fun145) mixed tysOk Tryz.func145 g145_k
noncomputable def g184 : Quick := fun _ _ args h => primT ((.clone 1 8)) args h
theorem g184_ok : QuickOk Tryz.prog cx 184 g184 := quick_prim (clone_ok (fn := Tryz.f184) (t := 35) (tb := 4) (te := ty3) tysOk Tryz.func184 (by kernel_rfl) (by kernel_rfl) (by kernel_rfl) (by kernel_rfl) (by kernel_rfl) (by kernel_rfl) (by kernel_rfl))
noncomputable def g193 : Quick := fun _ _ args h => primT ((.clone 1 1)) args h
theorem g193_ok : QuickOk Tryz.prog cx 193 g193 := quick_prim (clone_ok (fn := Tryz.f193) (t := 30) (tb := 4) (te := ty4) tysOk Tryz.func193 (by kernel_rfl) (by kernel_rfl) (by kernel_rfl) (by kernel_rfl) (by kernel_rfl) (by kernel_rfl) (by kernel_rfl))
noncomputable def g203 : Quick := fun cf n args h => bodyT cx cf n fun203.fn fun203.mask fun203.keep args h
theorem g203_k : okFun fun203 = true := by kernel_rfl
theorem g203_ok : QuickOk Tryz.prog cx 203 g203 := quick_deep (F := fun203) mixed tysOk Tryz.func203 g203_k
noncomputable def g204 : Quick := fun cf n args h => bodyT cx cf n fun204.fn fun204.mask fun204.keep args h
theorem g204_k : okFun fun204 = true := by kernel_rfl
theorem g204_ok : QuickOk Tryz.prog cx 204 g204 := quick_deep (F := fun204) mixed tysOk Tryz.func204 g204_k
noncomputable def g205 : Quick := fun cf n args h => bodyT cx cf n fun205.fn fun205.mask fun205.keep args h
theorem g205_k : okFun fun205 = true := by kernel_rfl
theorem g205_ok : QuickOk Tryz.prog cx 205 g205 := quick_deep (F := fun205) mixed tysOk Tryz.func205 g205_k
noncomputable def g211 : Quick := fun cf n args h => bodyT cx cf n fun211.fn fun211.mask fun211.keep args h
theorem g211_k : okFun fun211 = true := by kernel_rfl
theorem g211_ok : QuickOk Tryz.prog cx 211 g211 := quick_deep (F := fun211) mixed tysOk Tryz.func211 g211_k
noncomputable def g214 : Quick := fun cf n args h => bodyT cx cf n fun214.fn fun214.mask fun214.keep args h
theorem g214_k : okFun fun214 = true := by kernel_rfl
theorem g214_ok : QuickOk Tryz.prog cx 214 g214 := quick_deep (F := fun214) mixed tysOk Tryz.func214 g214_k
noncomputable def g215 : Quick := fun cf n args h => bodyT cx cf n fun215.fn fun215.mask fun215.keep args h
theorem g215_k : okFun fun215 = true := by kernel_rfl
theorem g215_ok : QuickOk Tryz.prog cx 215 g215 := quick_deep (F := fun215) mixed tysOk Tryz.func215 g215_k
noncomputable def g218 : Quick := fun cf n args h => bodyT cx cf n fun218.fn fun218.mask fun218.keep args h
theorem g218_k : okFun fun218 = true := by kernel_rfl
theorem g218_ok : QuickOk Tryz.prog cx 218 g218 := quick_deep (F := fun218) mixed tysOk Tryz.func218 g218_k
noncomputable def g223 : Quick := fun cf n args h => bodyT cx cf n fun223.fn fun223.mask fun223.keep args h
theorem g223_k : okFun fun223 = true := by kernel_rfl
theorem g223_ok : QuickOk Tryz.prog cx 223 g223 := quick_deep (F := fun223) mixed tysOk Tryz.func223 g223_k
noncomputable def g232 : Quick := fun cf n args h => bodyT cx cf n fun232.fn fun232.mask fun232.keep args h
theorem g232_k : okFun fun232 = true := by kernel_rfl
theorem g232_ok : QuickOk Tryz.prog cx 232 g232 := quick_deep (F := fun232) mixed tysOk Tryz.func232 g232_k
noncomputable def g267 : Quick := fun _ _ args h => primT ((.clone 3 24)) args h
theorem g267_ok : QuickOk Tryz.prog cx 267 g267 := quick_prim (clone_ok (fn := Tryz.f267) (t := 31) (tb := 4) (te := ty247) tysOk Tryz.func267 (by kernel_rfl) (by kernel_rfl) (by kernel_rfl) (by kernel_rfl) (by kernel_rfl) (by kernel_rfl) (by kernel_rfl))
noncomputable def g270 : Quick := fun _ _ args h => primT (.indexByteString) args h
theorem g270_a : (Tryz.f270.name == "runtime.NumGoroutine") = false := by kernel_rfl
theorem g270_b : Tryz.f270.body.isNone = true := by kernel_rfl
theorem g270_n : Extern.findNext Tryz.f270 = none := by kernel_rfl
theorem g270_e : Extern.find Tryz.f270 = some Extern.BytealgIndexByte.indexByte := by kernel_rfl
theorem g270_p : PrimOk Tryz.prog cx 270 .indexByteString := @indexByte_ok Tryz.prog cx 270 Tryz.f270 Tryz.func270 g270_a g270_b g270_n g270_e
theorem g270_ok : QuickOk Tryz.prog cx 270 g270 := quick_prim g270_p
noncomputable def g271 : Quick := fun cf n args h => bodyT cx cf n fun271.fn fun271.mask fun271.keep args h
theorem g271_k : okFun fun271 = true := by kernel_rfl
theorem g271_ok : QuickOk Tryz.prog cx 271 g271 := quick_deep (F := fun271) mixed tysOk Tryz.func271 g271_k
noncomputable def g275 : Quick := fun cf n args h => bodyT cx cf n fun275.fn fun275.mask fun275.keep args h
theorem g275_k : okFun fun275 = true := by kernel_rfl
theorem g275_ok : QuickOk Tryz.prog cx 275 g275 := quick_deep (F := fun275) mixed tysOk Tryz.func275 g275_k
noncomputable def g276 : Quick := fun cf n args h => bodyT cx cf n fun276.fn fun276.mask fun276.keep args h
theorem g276_k : okFun fun276 = true := by kernel_rfl
theorem g276_ok : QuickOk Tryz.prog cx 276 g276 := quick_deep (F := fun276) mixed tysOk Tryz.func276 g276_k
noncomputable def g277 : Quick := fun cf n args h => bodyT cx cf n fun277.fn fun277.mask fun277.keep args h
theorem g277_k : okFun fun277 = true := by kernel_rfl
theorem g277_ok : QuickOk Tryz.prog cx 277 g277 := quick_deep (F := fun277) mixed tysOk Tryz.func277 g277_k
noncomputable def g278 : Quick := fun cf n args h => bodyT cx cf n fun278.fn fun278.mask fun278.keep args h
theorem g278_k : okFun fun278 = true := by kernel_rfl
theorem g278_ok : QuickOk Tryz.prog cx 278 g278 := quick_deep (F := fun278) mixed tysOk Tryz.func278 g278_k
noncomputable def g283 : Quick := fun cf n args h => bodyT cx cf n fun283.fn fun283.mask fun283.keep args h
theorem g283_k : okFun fun283 = true := by kernel_rfl
theorem g283_ok : QuickOk Tryz.prog cx 283 g283 := quick_deep (F := fun283) mixed tysOk Tryz.func283 g283_k
noncomputable def g284 : Quick := fun cf n args h => bodyT cx cf n fun284.fn fun284.mask fun284.keep args h
theorem g284_k : okFun fun284 = true := by kernel_rfl
theorem g284_ok : QuickOk Tryz.prog cx 284 g284 := quick_deep (F := fun284) mixed tysOk Tryz.func284 g284_k
noncomputable def g317 : Quick := fun cf n args h => bodyT cx cf n fun317.fn fun317.mask fun317.keep args h
theorem g317_k : okFun fun317 = true := by kernel_rfl
theorem g317_ok : QuickOk Tryz.prog cx 317 g317 := quick_deep (F := fun317) mixed tysOk Tryz.func317 g317_k
noncomputable def g319 : Quick := fun cf n args h => bodyT cx cf n fun319.fn fun319.mask fun319.keep args h
theorem g319_k : okFun fun319 = true := by kernel_rfl
theorem g319_ok : QuickOk Tryz.prog cx 319 g319 := quick_deep (F := fun319) mixed tysOk Tryz.func319 g319_k
noncomputable def g322 : Quick := fun cf n args h => bodyT cx cf n fun322.fn fun322.mask fun322.keep args h
theorem g322_k : okFun fun322 = true := by kernel_rfl
theorem g322_ok : QuickOk Tryz.prog cx 322 g322 := quick_deep (F := fun322) mixed tysOk Tryz.func322 g322_k
noncomputable def g323 : Quick := fun cf n args h => bodyT cx cf n fun323.fn fun323.mask fun323.keep args h
theorem g323_k : okFun fun323 = true := by kernel_rfl
theorem g323_ok : QuickOk Tryz.prog cx 323 g323 := quick_deep (F := fun323) mixed tysOk Tryz.func323 g323_k
noncomputable def g324 : Quick := fun cf n args h => bodyT cx cf n fun324.fn fun324.mask fun324.keep args h
theorem g324_k : okFun fun324 = true := by kernel_rfl
theorem g324_ok : QuickOk Tryz.prog cx 324 g324 := quick_deep (F := fun324) mixed tysOk Tryz.func324 g324_k
noncomputable def g327 : Quick := fun cf n args h => bodyT cx cf n fun327.fn fun327.mask fun327.keep args h
theorem g327_k : okFun fun327 = true := by kernel_rfl
theorem g327_ok : QuickOk Tryz.prog cx 327 g327 := quick_deep (F := fun327) mixed tysOk Tryz.func327 g327_k
noncomputable def g335 : Quick := fun _ _ args h => primT ((.clone 1 8)) args h
theorem g335_ok : QuickOk Tryz.prog cx 335 g335 := quick_prim (clone_ok (fn := Tryz.f335) (t := 34) (tb := 4) (te := ty2) tysOk Tryz.func335 (by kernel_rfl) (by kernel_rfl) (by kernel_rfl) (by kernel_rfl) (by kernel_rfl) (by kernel_rfl) (by kernel_rfl))
noncomputable def g337 : Quick := fun cf n args h => bodyT cx cf n fun337.fn fun337.mask fun337.keep args h
theorem g337_k : okFun fun337 = true := by kernel_rfl
theorem g337_ok : QuickOk Tryz.prog cx 337 g337 := quick_deep (F := fun337) mixed tysOk Tryz.func337 g337_k
noncomputable def g348 : Quick := fun cf n args h => bodyT cx cf n fun348.fn fun348.mask fun348.keep args h
theorem g348_k : okFun fun348 = true := by kernel_rfl
theorem g348_ok : QuickOk Tryz.prog cx 348 g348 := quick_deep (F := fun348) mixed tysOk Tryz.func348 g348_k
noncomputable def g369 : Quick := fun cf n args h => bodyT cx cf n fun369.fn fun369.mask fun369.keep args h
theorem g369_k : okFun fun369 = true := by kernel_rfl
theorem g369_ok : QuickOk Tryz.prog cx 369 g369 := quick_deep (F := fun369) mixed tysOk Tryz.func369 g369_k
noncomputable def g374 : Quick := fun cf n args h => bodyT cx cf n fun374.fn fun374.mask fun374.keep args h
theorem g374_k : okFun fun374 = true := by kernel_rfl
theorem g374_ok : QuickOk Tryz.prog cx 374 g374 := quick_deep (F := fun374) mixed tysOk Tryz.func374 g374_k
noncomputable def g375 : Quick := fun cf n args h => bodyT cx cf n fun375.fn fun375.mask fun375.keep args h
theorem g375_k : okFun fun375 = true := by kernel_rfl
theorem g375_ok : QuickOk Tryz.prog cx 375 g375 := quick_deep (F := fun375) mixed tysOk Tryz.func375 g375_k
noncomputable def qs : Tree Quick := (.node (.node (.node (.node (.node (.node (.node (.node .nil 7 (g7) .nil) 12 (g12) .nil) 13 (g13) (.node .nil 14 (g14) .nil)) 15 (g15) (.node (.node (.node .nil 22 (g22) .nil) 23 (g23) .nil) 25 (g25) (.node .nil 26 (g26) .nil))) 27 (g27) (.node (.node (.node (.node .nil 28 (g28) .nil) 29 (g29) .nil) 30 (g30) (.node .nil 31 (g31) .nil)) 32 (g32) (.node (.node .nil 33 (g33) .nil) 37 (g37) (.node .nil 53 (g53) .nil)))) 55 (g55) (.node (.node (.node (.node (.node .nil 56 (g56) .nil) 57 (g57) .nil) 58 (g58) (.node .nil 59 (g59) .nil)) 60 (g60) (.node (.node (.node .nil 61 (g61) .nil) 62 (g62) .nil) 63 (g63) (.node .nil 64 (g64) .nil))) 65 (g65) (.node (.node (.node (.node .nil 66 (g66) .nil) 67 (g67) .nil) 68 (g68) (.node .nil 69 (g69) .nil)) 70 (g70) (.node (.node .nil 71 (g71) .nil) 72 (g72) (.node .nil 73 (g73) .nil))))) 74 (g74) (.node (.node (.node (.node (.node (.node .nil 75 (g75) .nil) 78 (g78) .nil) 111 (g111) (.node .nil 112 (g112) .nil)) 113 (g113) (.node (.node (.node .nil 114 (g114) .nil) 115 (g115) .nil) 116 (g116) (.node .nil 117 (g117) .nil))) 118 (g118) (.node (.node (.node (.node .nil 119 (g119) .nil) 120 (g120) .nil) 121 (g121) (.node .nil 122 (g122) .nil)) 123 (g123) (.node (.node .nil 124 (g124) .nil) 125 (g125) (.node .nil 126 (g126) .nil)))) 127 (g127) (.node (.node (.node (.node (.node .nil 128 (g128) .nil) 129 (g129) .nil) 130 (g130) (.node .nil 132 (g132) .nil)) 134 (g134) (.node (.node .nil 135 (g135) .nil) 136 (g136) (.node .nil 137 (g137) .nil))) 138 (g138) (.node (.node (.node (.node .nil 139 (g139) .nil) 140 (g140) .nil) 141 (g141) (.node .nil 142 (g142) .nil)) 143 (g143) (.node (.node .nil 144 (g144) .nil) 145 (g145) (.node .nil 146 (g146) .nil)))))) 147 (g147) (.node (.node (.node (.node (.node (.node (.node .nil 148 (g148) .nil) 177 (g177) .nil) 184 (g184) (.node .nil 193 (g193) .nil)) 201 (g201) (.node (.node (.node .nil 202 (g202) .nil) 203 (g203) .nil) 204 (g204) (.node .nil 205 (g205) .nil))) 206 (g206) (.node (.node (.node (.node .nil 207 (g207) .nil) 208 (g208) .nil) 209 (g209) (.node .nil 210 (g210) .nil)) 211 (g211) (.node (.node .nil 212 (g212) .nil) 213 (g213) (.node .nil 214 (g214) .nil)))) 215 (g215) (.node (.node (.node (.node (.node .nil 216 (g216) .nil) 217 (g217) .nil) 218 (g218) (.node .nil 219 (g219) .nil)) 220 (g220) (.node (.node (.node .nil 221 (g221) .nil) 222 (g222) .nil) 223 (g223) (.node .nil 232 (g232) .nil))) 261 (g261) (.node (.node (.node (.node .nil 267 (g267) .nil) 270 (g270) .nil) 271 (g271) (.node .nil 275 (g275) .nil)) 276 (g276) (.node (.node .nil 277 (g277) .nil) 278 (g278) (.node .nil 280 (g280) .nil))))) 281 (g281) (.node (.node (.node (.node (.node (.node .nil 282 (g282) .nil) 283 (g283) .nil) 284 (g284) (.node .nil 285 (g285) .nil)) 286 (g286) (.node (.node (.node .nil 287 (g287) .nil) 288 (g288) .nil) 289 (g289) (.node .nil 290 (g290) .nil))) 291 (g291) (.node (.node (.node (.node .nil 292 (g292) .nil) 293 (g293) .nil) 294 (g294) (.node .nil 295 (g295) .nil)) 317 (g317) (.node (.node .nil 319 (g319) .nil) 322 (g322) (.node .nil 323 (g323) .nil)))) 324 (g324) (.node (.node (.node (.node (.node .nil 327 (g327) .nil) 328 (g328) .nil) 331 (g331) (.node .nil 333 (g333) .nil)) 334 (g334) (.node (.node .nil 335 (g335) .nil) 336 (g336) (.node .nil 337 (g337) .nil))) 341 (g341) (.node (.node (.node (.node .nil 348 (g348) .nil) 353 (g353) .nil) 355 (g355) (.node .nil 359 (g359) .nil)) 369 (g369) (.node (.node .nil 370 (g370) .nil) 374 (g374) (.node .nil 375 (g375) .nil)))))))
theorem qsAll : qs.All fun f g => QuickOk Tryz.prog cx f g := (.node (.node (.node (.node (.node (.node (.node (.node .nil g7_ok .nil) g12_ok .nil) g13_ok (.node .nil g14_ok .nil)) g15_ok (.node (.node (.node .nil g22_ok .nil) g23_ok .nil) g25_ok (.node .nil g26_ok .nil))) g27_ok (.node (.node (.node (.node .nil g28_ok .nil) g29_ok .nil) g30_ok (.node .nil g31_ok .nil)) g32_ok (.node (.node .nil g33_ok .nil) g37_ok (.node .nil g53_ok .nil)))) g55_ok (.node (.node (.node (.node (.node .nil g56_ok .nil) g57_ok .nil) g58_ok (.node .nil g59_ok .nil)) g60_ok (.node (.node (.node .nil g61_ok .nil) g62_ok .nil) g63_ok (.node .nil g64_ok .nil))) g65_ok (.node (.node (.node (.node .nil g66_ok .nil) g67_ok .nil) g68_ok (.node .nil g69_ok .nil)) g70_ok (.node (.node .nil g71_ok .nil) g72_ok (.node .nil g73_ok .nil))))) g74_ok (.node (.node (.node (.node (.node (.node .nil g75_ok .nil) g78_ok .nil) g111_ok (.node .nil g112_ok .nil)) g113_ok (.node (.node (.node .nil g114_ok .nil) g115_ok .nil) g116_ok (.node .nil g117_ok .nil))) g118_ok (.node (.node (.node (.node .nil g119_ok .nil) g120_ok .nil) g121_ok (.node .nil g122_ok .nil)) g123_ok (.node (.node .nil g124_ok .nil) g125_ok (.node .nil g126_ok .nil)))) g127_ok (.node (.node (.node (.node (.node .nil g128_ok .nil) g129_ok .nil) g130_ok (.node .nil g132_ok .nil)) g134_ok (.node (.node .nil g135_ok .nil) g136_ok (.node .nil g137_ok .nil))) g138_ok (.node (.node (.node (.node .nil g139_ok .nil) g140_ok .nil) g141_ok (.node .nil g142_ok .nil)) g143_ok (.node (.node .nil g144_ok .nil) g145_ok (.node .nil g146_ok .nil)))))) g147_ok (.node (.node (.node (.node (.node (.node (.node .nil g148_ok .nil) g177_ok .nil) g184_ok (.node .nil g193_ok .nil)) g201_ok (.node (.node (.node .nil g202_ok .nil) g203_ok .nil) g204_ok (.node .nil g205_ok .nil))) g206_ok (.node (.node (.node (.node .nil g207_ok .nil) g208_ok .nil) g209_ok (.node .nil g210_ok .nil)) g211_ok (.node (.node .nil g212_ok .nil) g213_ok (.node .nil g214_ok .nil)))) g215_ok (.node (.node (.node (.node (.node .nil g216_ok .nil) g217_ok .nil) g218_ok (.node .nil g219_ok .nil)) g220_ok (.node (.node (.node .nil g221_ok .nil) g222_ok .nil) g223_ok (.node .nil g232_ok .nil))) g261_ok (.node (.node (.node (.node .nil g267_ok .nil) g270_ok .nil) g271_ok (.node .nil g275_ok .nil)) g276_ok (.node (.node .nil g277_ok .nil) g278_ok (.node .nil g280_ok .nil))))) g281_ok (.node (.node (.node (.node (.node (.node .nil g282_ok .nil) g283_ok .nil) g284_ok (.node .nil g285_ok .nil)) g286_ok (.node (.node (.node .nil g287_ok .nil) g288_ok .nil) g289_ok (.node .nil g290_ok .nil))) g291_ok (.node (.node (.node (.node .nil g292_ok .nil) g293_ok .nil) g294_ok (.node .nil g295_ok .nil)) g317_ok (.node (.node .nil g319_ok .nil) g322_ok (.node .nil g323_ok .nil)))) g324_ok (.node (.node (.node (.node (.node .nil g327_ok .nil) g328_ok .nil) g331_ok (.node .nil g333_ok .nil)) g334_ok (.node (.node .nil g335_ok .nil) g336_ok (.node .nil g337_ok .nil))) g341_ok (.node (.node (.node (.node .nil g348_ok .nil) g353_ok .nil) g355_ok (.node .nil g359_ok .nil)) g369_ok (.node (.node .nil g370_ok .nil) g374_ok (.node .nil g375_ok .nil)))))))
theorem qsOk : ∀ f g, (fun f => qs.find f) f = some g → QuickOk Tryz.prog cx f g := fun f g h => qsAll.find h
noncomputable def callQ (n : Nat) : CallF := callF (fun f => qs.find f) n
theorem callOk (n : Nat) : CallOk Tryz.prog cx (callQ n) := callF_sound qsOk n
end Go.Proofs.YtemkchpdcgkeiaaGreatDoor
