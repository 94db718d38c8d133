/- The table of calls. By program (mkquick.py). -/
import Derived.Test.YtemkchpdcgkeiaaGreatDoorZQ0
import Derived.Test.YtemkchpdcgkeiaaGreatDoorZQ1
import Derived.Test.YtemkchpdcgkeiaaGreatDoorZQ2
set_option linter.unusedSimpArgs false
set_option linter.unusedVariables false
namespace Go.Proofs.YtemkchpdcgkeiaaGreatDoor
open Go Go.TI
set_option linter.unusedVariables false
set_option maxRecDepth 100000
noncomputable def g6 : Quick := fun cf n args h => bodyT cx cf n fun6.fn fun6.mask fun6.keep args h
theorem g6_k : okFun fun6 = true := by kernel_rfl
theorem g6_ok : QuickOk Tryz.prog cx 6 g6 := quick_deep (F := fun6) mixed tysOk Tryz.func6 g6_k
noncomputable def g9 : Quick := fun cf n args h => bodyT cx cf n fun9.fn fun9.mask fun9.keep args h
theorem g9_k : okFun fun9 = true := by kernel_rfl
theorem g9_ok : QuickOk Tryz.prog cx 9 g9 := quick_deep (F := fun9) mixed tysOk Tryz.func9 g9_k
noncomputable def g10 : Quick := fun cf n args h => bodyT cx cf n fun10.fn fun10.mask fun10.keep args h
theorem g10_k : okFun fun10 = true := by kernel_rfl
theorem g10_ok : QuickOk Tryz.prog cx 10 g10 := quick_deep (F := fun10) mixed tysOk Tryz.func10 g10_k
noncomputable def g11 : Quick := fun cf n args h => bodyT cx cf n fun11.fn fun11.mask fun11.keep args h
theorem g11_k : okFun fun11 = true := by kernel_rfl
theorem g11_ok : QuickOk Tryz.prog cx 11 g11 := quick_deep (F := fun11) mixed tysOk Tryz.func11 g11_k
noncomputable def g12 : Quick := fun cf n args h => bodyT cx cf n fun12.fn fun12.mask fun12.keep args h
theorem g12_k : okFun fun12 = true := by kernel_rfl
theorem g12_ok : QuickOk Tryz.prog cx 12 g12 := quick_deep (F := fun12) mixed tysOk Tryz.func12 g12_k
noncomputable def g13 : Quick := fun cf n args h => bodyT cx cf n fun13.fn fun13.mask fun13.keep args h
theorem g13_k : okFun fun13 = true := by kernel_rfl
theorem g13_ok : QuickOk Tryz.prog cx 13 g13 := quick_deep (F := fun13) mixed tysOk Tryz.func13 g13_k
noncomputable def g18 : Quick := fun cf n args h => bodyT cx cf n fun18.fn fun18.mask fun18.keep args h
theorem g18_k : okFun fun18 = true := by kernel_rfl
theorem g18_ok : QuickOk Tryz.prog cx 18 g18 := quick_deep (F := fun18) mixed tysOk Tryz.func18 g18_k
noncomputable def g19 : Quick := fun cf n args h => bodyT cx cf n fun19.fn fun19.mask fun19.keep args h
theorem g19_k : okFun fun19 = true := by kernel_rfl
theorem g19_ok : QuickOk Tryz.prog cx 19 g19 := quick_deep (F := fun19) mixed tysOk Tryz.func19 g19_k
noncomputable def g21 : Quick := fun cf n args h => bodyT cx cf n fun21.fn fun21.mask fun21.keep args h
theorem g21_k : okFun fun21 = true := by kernel_rfl
theorem g21_ok : QuickOk Tryz.prog cx 21 g21 := quick_deep (F := fun21) mixed tysOk Tryz.func21 g21_k
noncomputable def g23 : Quick := fun cf n args h => bodyT cx cf n fun23.fn fun23.mask fun23.keep args h
theorem g23_k : okFun fun23 = true := by kernel_rfl
theorem g23_ok : QuickOk Tryz.prog cx 23 g23 := quick_deep (F := fun23) mixed tysOk Tryz.func23 g23_k
noncomputable def g25 : Quick := fun cf n args h => bodyT cx cf n fun25.fn fun25.mask fun25.keep args h
theorem g25_k : okFun fun25 = true := by kernel_rfl
theorem g25_ok : QuickOk Tryz.prog cx 25 g25 := quick_deep (F := fun25) mixed tysOk Tryz.func25 g25_k
noncomputable def g26 : Quick := fun cf n args h => bodyT cx cf n fun26.fn fun26.mask fun26.keep args h
theorem g26_k : okFun fun26 = true := by kernel_rfl
theorem g26_ok : QuickOk Tryz.prog cx 26 g26 := quick_deep (F := fun26) mixed tysOk Tryz.func26 g26_k
noncomputable def g27 : Quick := fun cf n args h => bodyT cx cf n fun27.fn fun27.mask fun27.keep args h
theorem g27_k : okFun fun27 = true := by kernel_rfl
theorem g27_ok : QuickOk Tryz.prog cx 27 g27 := quick_deep (F := fun27) mixed tysOk Tryz.func27 g27_k
noncomputable def g28 : Quick := fun cf n args h => bodyT cx cf n fun28.fn fun28.mask fun28.keep args h
theorem g28_k : okFun fun28 = true := by kernel_rfl
theorem g28_ok : QuickOk Tryz.prog cx 28 g28 := quick_deep (F := fun28) mixed tysOk Tryz.func28 g28_k
noncomputable def g43 : Quick := fun cf n args h => bodyT cx cf n fun43.fn fun43.mask fun43.keep args h
theorem g43_k : okFun fun43 = true := by kernel_rfl
theorem g43_ok : QuickOk Tryz.prog cx 43 g43 := quick_deep (F := fun43) mixed tysOk Tryz.func43 g43_k
noncomputable def g44 : Quick := fun cf n args h => bodyT cx cf n fun44.fn fun44.mask fun44.keep args h
theorem g44_k : okFun fun44 = true := by kernel_rfl
theorem g44_ok : QuickOk Tryz.prog cx 44 g44 := quick_deep (F := fun44) mixed tysOk Tryz.func44 g44_k
noncomputable def g45 : Quick := fun cf n args h => bodyT cx cf n fun45.fn fun45.mask fun45.keep args h
theorem g45_k : okFun fun45 = true := by kernel_rfl
theorem g45_ok : QuickOk Tryz.prog cx 45 g45 := quick_deep (F := fun45) mixed tysOk Tryz.func45 g45_k
noncomputable def g46 : Quick := fun cf n args h => bodyT cx cf n fun46.fn fun46.mask fun46.keep args h
theorem g46_k : okFun fun46 = true := by kernel_rfl
theorem g46_ok : QuickOk Tryz.prog cx 46 g46 := quick_deep (F := fun46) mixed tysOk Tryz.func46 g46_k
noncomputable def g47 : Quick := fun cf n args h => bodyT cx cf n fun47.fn fun47.mask fun47.keep args h
theorem g47_k : okFun fun47 = true := by kernel_rfl
theorem g47_ok : QuickOk Tryz.prog cx 47 g47 := quick_deep (F := fun47) mixed tysOk Tryz.func47 g47_k
noncomputable def g52 : Quick := fun cf n args h => bodyT cx cf n fun52.fn fun52.mask fun52.keep args h
theorem g52_k : okFun fun52 = true := by kernel_rfl
theorem g52_ok : QuickOk Tryz.prog cx 52 g52 := quick_deep (F := fun52) mixed tysOk Tryz.func52 g52_k
noncomputable def g53 : Quick := fun cf n args h => bodyT cx cf n fun53.fn fun53.mask fun53.keep args h
theorem g53_k : okFun fun53 = true := by kernel_rfl
theorem g53_ok : QuickOk Tryz.prog cx 53 g53 := quick_deep (F := fun53) mixed tysOk Tryz.func53 g53_k
noncomputable def g55 : Quick := fun cf n args h => bodyT cx cf n fun55.fn fun55.mask fun55.keep args h
theorem g55_k : okFun fun55 = true := by kernel_rfl
theorem g55_ok : QuickOk Tryz.prog cx 55 g55 := quick_deep (F := fun55) mixed tysOk Tryz.func55 g55_k
noncomputable def g57 : Quick := fun cf n args h => bodyT cx cf n fun57.fn fun57.mask fun57.keep args h
theorem g57_k : okFun fun57 = true := by kernel_rfl
theorem g57_ok : QuickOk Tryz.prog cx 57 g57 := quick_deep (F := fun57) mixed tysOk Tryz.func57 g57_k
noncomputable def g58 : Quick := fun cf n args h => bodyT cx cf n fun58.fn fun58.mask fun58.keep args h
theorem g58_k : okFun fun58 = true := by kernel_rfl
theorem g58_ok : QuickOk Tryz.prog cx 58 g58 := quick_deep (F := fun58) mixed tysOk Tryz.func58 g58_k
noncomputable def g60 : Quick := fun cf n args h => bodyT cx cf n fun60.fn fun60.mask fun60.keep args h
theorem g60_k : okFun fun60 = true := by kernel_rfl
theorem g60_ok : QuickOk Tryz.prog cx 60 g60 := quick_deep (F := fun60) mixed tysOk Tryz.func60 g60_k
noncomputable def g61 : Quick := fun cf n args h => bodyT cx cf n fun61.fn fun61.mask fun61.keep args h
theorem g61_k : okFun fun61 = true := by kernel_rfl
theorem g61_ok : QuickOk Tryz.prog cx 61 g61 := quick_deep (F := fun61) mixed tysOk Tryz.func61 g61_k
noncomputable def g62 : Quick := fun cf n args h => bodyT cx cf n fun62.fn fun62.mask fun62.keep args h
theorem g62_k : okFun fun62 = true := by kernel_rfl
theorem g62_ok : QuickOk Tryz.prog cx 62 g62 := quick_deep (F := fun62) mixed tysOk Tryz.func62 g62_k
noncomputable def g63 : Quick := fun cf n args h => bodyT cx cf n fun63.fn fun63.mask fun63.keep args h
theorem g63_k : okFun fun63 = true := by kernel_rfl
theorem g63_ok : QuickOk Tryz.prog cx 63 g63 := quick_deep (F := fun63) mixed tysOk Tryz.func63 g63_k
noncomputable def g64 : Quick := fun cf n args h => bodyT cx cf n fun64.fn fun64.mask fun64.keep args h
theorem g64_k : okFun fun64 = true := by kernel_rfl
theorem g64_ok : QuickOk Tryz.prog cx 64 g64 := quick_deep (F := fun64) mixed tysOk Tryz.func64 g64_k
noncomputable def g65 : Quick := fun cf n args h => bodyT cx cf n fun65.fn fun65.mask fun65.keep args h
theorem g65_k : okFun fun65 = true := by kernel_rfl
theorem g65_ok : QuickOk Tryz.prog cx 65 g65 := quick_deep (F := fun65) mixed tysOk Tryz.func65 g65_k
noncomputable def g66 : Quick := fun cf n args h => bodyT cx cf n fun66.fn fun66.mask fun66.keep args h
theorem g66_k : okFun fun66 = true := by kernel_rfl
theorem g66_ok : QuickOk Tryz.prog cx 66 g66 := quick_deep (F := fun66) mixed tysOk Tryz.func66 g66_k
noncomputable def g67 : Quick := fun cf n args h => bodyT cx cf n fun67.fn fun67.mask fun67.keep args h
theorem g67_k : okFun fun67 = true := by kernel_rfl
theorem g67_ok : QuickOk Tryz.prog cx 67 g67 := quick_deep (F := fun67) mixed tysOk Tryz.func67 g67_k
noncomputable def g68 : Quick := fun cf n args h => bodyT cx cf n fun68.fn fun68.mask fun68.keep args h
theorem g68_k : okFun fun68 = true := by kernel_rfl
theorem g68_ok : QuickOk Tryz.prog cx 68 g68 := quick_deep (F := fun68) mixed tysOk Tryz.func68 g68_k
noncomputable def g87 : Quick := fun cf n args h => bodyT cx cf n fun87.fn fun87.mask fun87.keep args h
theorem g87_k : okFun fun87 = true := by kernel_rfl
theorem g87_ok : QuickOk Tryz.prog cx 87 g87 := quick_deep (F := fun87) mixed tysOk Tryz.func87 g87_k
noncomputable def g88 : Quick := fun cf n args h => bodyT cx cf n fun88.fn fun88.mask fun88.keep args h
theorem g88_k : okFun fun88 = true := by kernel_rfl
theorem g88_ok : QuickOk Tryz.prog cx 88 g88 := quick_deep (F := fun88) mixed tysOk Tryz.func88 g88_k
noncomputable def g89 : Quick := fun cf n args h => bodyT cx cf n fun89.fn fun89.mask fun89.keep args h
theorem g89_k : okFun fun89 = true := by kernel_rfl
theorem g89_ok : QuickOk Tryz.prog cx 89 g89 := quick_deep (F := fun89) mixed tysOk Tryz.func89 g89_k
noncomputable def g91 : Quick := fun cf n args h => bodyT cx cf n fun91.fn fun91.mask fun91.keep args h
theorem g91_k : okFun fun91 = true := by kernel_rfl
theorem g91_ok : QuickOk Tryz.prog cx 91 g91 := quick_deep (F := fun91) mixed tysOk Tryz.func91 g91_k
noncomputable def g93 : Quick := fun cf n args h => bodyT cx cf n fun93.fn fun93.mask fun93.keep args h
theorem g93_k : okFun fun93 = true := by kernel_rfl
theorem g93_ok : QuickOk Tryz.prog cx 93 g93 := quick_deep (F := fun93) mixed tysOk Tryz.func93 g93_k
noncomputable def g96 : Quick := fun cf n args h => bodyT cx cf n fun96.fn fun96.mask fun96.keep args h
theorem g96_k : okFun fun96 = true := by kernel_rfl
theorem g96_ok : QuickOk Tryz.prog cx 96 g96 := quick_deep (F := fun96) mixed tysOk Tryz.func96 g96_k
noncomputable def g97 : Quick := fun cf n args h => bodyT cx cf n fun97.fn fun97.mask fun97.keep args h
theorem g97_k : okFun fun97 = true := by kernel_rfl
theorem g97_ok : QuickOk Tryz.prog cx 97 g97 := quick_deep (F := fun97) mixed tysOk Tryz.func97 g97_k
noncomputable def g100 : Quick := fun cf n args h => bodyT cx cf n fun100.fn fun100.mask fun100.keep args h
theorem g100_k : okFun fun100 = true := by kernel_rfl
theorem g100_ok : QuickOk Tryz.prog cx 100 g100 := quick_deep (F := fun100) mixed tysOk Tryz.func100 g100_k
noncomputable def g102 : Quick := fun cf n args h => bodyT cx cf n fun102.fn fun102.mask fun102.keep args h
theorem g102_k : okFun fun102 = true := by kernel_rfl
theorem g102_ok : QuickOk Tryz.prog cx 102 g102 := quick_deep (F := fun102) mixed tysOk Tryz.func102 g102_k
noncomputable def g103 : Quick := fun cf n args h => bodyT cx cf n fun103.fn fun103.mask fun103.keep args h
theorem g103_k : okFun fun103 = true := by kernel_rfl
theorem g103_ok : QuickOk Tryz.prog cx 103 g103 := quick_deep (F := fun103) mixed tysOk Tryz.func103 g103_k
noncomputable def g104 : Quick := fun cf n args h => bodyT cx cf n fun104.fn fun104.mask fun104.keep args h
theorem g104_k : okFun fun104 = true := by kernel_rfl
theorem g104_ok : QuickOk Tryz.prog cx 104 g104 := quick_deep (F := fun104) mixed tysOk Tryz.func104 g104_k
noncomputable def g107 : Quick := fun cf n args h => bodyT cx cf n fun107.fn fun107.mask fun107.keep args h
theorem g107_k : okFun fun107 = true := by kernel_rfl
theorem g107_ok : QuickOk Tryz.prog cx 107 g107 := quick_deep (F := fun107) mixed tysOk Tryz.func107 g107_k
noncomputable def g108 : Quick := fun cf n args h => bodyT cx cf n fun108.fn fun108.mask fun108.keep args h
theorem g108_k : okFun fun108 = true := by kernel_rfl
theorem g108_ok : QuickOk Tryz.prog cx 108 g108 := quick_deep (F := fun108) mixed tysOk Tryz.func108 g108_k
noncomputable def g112 : Quick := fun cf n args h => bodyT cx cf n fun112.fn fun112.mask fun112.keep args h
theorem g112_k : okFun fun112 = true := by kernel_rfl
theorem g112_ok : QuickOk Tryz.prog cx 112 g112 := quick_deep (F := fun112) mixed tysOk Tryz.func112 g112_k
noncomputable def g116 : Quick := fun cf n args h => bodyT cx cf n fun116.fn fun116.mask fun116.keep args h
theorem g116_k : okFun fun116 = true := by kernel_rfl
theorem g116_ok : QuickOk Tryz.prog cx 116 g116 := quick_deep (F := fun116) mixed tysOk Tryz.func116 g116_k
noncomputable def g117 : Quick := fun cf n args h => bodyT cx cf n fun117.fn fun117.mask fun117.keep args h
theorem g117_k : okFun fun117 = true := by kernel_rfl
theorem g117_ok : QuickOk Tryz.prog cx 117 g117 := quick_deep (F := fun117) mixed tysOk Tryz.func117 g117_k
noncomputable def g118 : Quick := fun cf n args h => bodyT cx cf n fun118.fn fun118.mask fun118.keep args h
theorem g118_k : okFun fun118 = true := by kernel_rfl
theorem g118_ok : QuickOk Tryz.prog cx 118 g118 := quick_deep (F := fun118) mixed tysOk Tryz.func118 g118_k
noncomputable def g119 : Quick := fun cf n args h => bodyT cx cf n fun119.fn fun119.mask fun119.keep args h
theorem g119_k : okFun fun119 = true := by kernel_rfl
theorem g119_ok : QuickOk Tryz.prog cx 119 g119 := quick_deep (F := fun119) mixed tysOk Tryz.func119 g119_k
noncomputable def g120 : Quick := fun cf n args h => bodyT cx cf n fun120.fn fun120.mask fun120.keep args h
theorem g120_k : okFun fun120 = true := by kernel_rfl
theorem g120_ok : QuickOk Tryz.prog cx 120 g120 := quick_deep (F := fun120) mixed tysOk Tryz.func120 g120_k
noncomputable def g121 : Quick := fun cf n args h => bodyT cx cf n fun121.fn fun121.mask fun121.keep args h
theorem g121_k : okFun fun121 = true := by kernel_rfl
theorem g121_ok : QuickOk Tryz.prog cx 121 g121 := quick_deep (F := fun121) mixed tysOk Tryz.func121 g121_k
noncomputable def g122 : Quick := fun cf n args h => bodyT cx cf n fun122.fn fun122.mask fun122.keep args h
theorem g122_k : okFun fun122 = true := by kernel_rfl
theorem g122_ok : QuickOk Tryz.prog cx 122 g122 := quick_deep (F := fun122) mixed tysOk Tryz.func122 g122_k
noncomputable def g123 : Quick := fun cf n args h => bodyT cx cf n fun123.fn fun123.mask fun123.keep args h
theorem g123_k : okFun fun123 = true := by kernel_rfl
theorem g123_ok : QuickOk Tryz.prog cx 123 g123 := quick_deep (F := fun123) mixed tysOk Tryz.func123 g123_k
noncomputable def g125 : Quick := fun cf n args h => bodyT cx cf n fun125.fn fun125.mask fun125.keep args h
theorem g125_k : okFun fun125 = true := by kernel_rfl
theorem g125_ok : QuickOk Tryz.prog cx 125 g125 := quick_deep (F := fun125) mixed tysOk Tryz.func125 g125_k
noncomputable def g126 : Quick := fun cf n args h => bodyT cx cf n fun126.fn fun126.mask fun126.keep args h
theorem g126_k : okFun fun126 = true := by kernel_rfl
theorem g126_ok : QuickOk Tryz.prog cx 126 g126 := quick_deep (F := fun126) mixed tysOk Tryz.func126 g126_k
noncomputable def g127 : Quick := fun cf n args h => bodyT cx cf n fun127.fn fun127.mask fun127.keep args h
theorem g127_k : okFun fun127 = true := by kernel_rfl
theorem g127_ok : QuickOk Tryz.prog cx 127 g127 := quick_deep (F := fun127) mixed tysOk Tryz.func127 g127_k
noncomputable def g129 : Quick := fun cf n args h => bodyT cx cf n fun129.fn fun129.mask fun129.keep args h
theorem g129_k : okFun fun129 = true := by kernel_rfl
theorem g129_ok : QuickOk Tryz.prog cx 129 g129 := quick_deep (F := fun129) mixed tysOk Tryz.func129 g129_k
noncomputable def g130 : Quick := fun cf n args h => bodyT cx cf n fun130.fn fun130.mask fun130.keep args h
theorem g130_k : okFun fun130 = true := by kernel_rfl
theorem g130_ok : QuickOk Tryz.prog cx 130 g130 := quick_deep (F := fun130) mixed tysOk Tryz.func130 g130_k
noncomputable def g132 : Quick := fun cf n args h => bodyT cx cf n fun132.fn fun132.mask fun132.keep args h
theorem g132_k : okFun fun132 = true := by kernel_rfl
theorem g132_ok : QuickOk Tryz.prog cx 132 g132 := quick_deep (F := fun132) mixed tysOk Tryz.func132 g132_k
noncomputable def g134 : Quick := fun cf n args h => bodyT cx cf n fun134.fn fun134.mask fun134.keep args h
theorem g134_k : okFun fun134 = true := by kernel_rfl
theorem g134_ok : QuickOk Tryz.prog cx 134 g134 := quick_deep (F := fun134) mixed tysOk Tryz.func134 g134_k
noncomputable def g148 : Quick := fun cf n args h => bodyT cx cf n fun148.fn fun148.mask fun148.keep args h
theorem g148_k : okFun fun148 = true := by kernel_rfl
theorem g148_ok : QuickOk Tryz.prog cx 148 g148 := quick_deep (F := fun148) mixed tysOk Tryz.func148 g148_k
noncomputable def g154 : Quick := fun cf n args h => bodyT cx cf n fun154.fn fun154.mask fun154.keep args h
theorem g154_k : okFun fun154 = true := by kernel_rfl
theorem g154_ok : QuickOk Tryz.prog cx 154 g154 := quick_deep (F := fun154) mixed tysOk Tryz.func154 g154_k
noncomputable def g160 : Quick := fun cf n args h => bodyT cx cf n fun160.fn fun160.mask fun160.keep args h
theorem g160_k : okFun fun160 = true := by kernel_rfl
theorem g160_ok : QuickOk Tryz.prog cx 160 g160 := quick_deep (F := fun160) mixed tysOk Tryz.func160 g160_k
noncomputable def g162 : Quick := fun cf n args h => bodyT cx cf n fun162.fn fun162.mask fun162.keep args h
theorem g162_k : okFun fun162 = true := by kernel_rfl
theorem g162_ok : QuickOk Tryz.prog cx 162 g162 := quick_deep (F := fun162) mixed tysOk Tryz.func162 g162_k
noncomputable def g163 : Quick := fun cf n args h => bodyT cx cf n fun163.fn fun163.mask fun163.keep args h
theorem g163_k : okFun fun163 = true := by kernel_rfl
theorem g163_ok : QuickOk Tryz.prog cx 163 g163 := quick_deep (F := fun163) mixed tysOk Tryz.func163 g163_k
noncomputable def g171 : Quick := fun cf n args h => bodyT cx cf n fun171.fn fun171.mask fun171.keep args h
theorem g171_k : okFun fun171 = true := by kernel_rfl
theorem g171_ok : QuickOk Tryz.prog cx 171 g171 := quick_deep (F := fun171) mixed tysOk Tryz.func171 g171_k
noncomputable def g177 : Quick := fun cf n args h => bodyT cx cf n fun177.fn fun177.mask fun177.keep args h
theorem g177_k : okFun fun177 = true := by kernel_rfl
theorem g177_ok : QuickOk Tryz.prog cx 177 g177 := quick_deep (F := fun177) mixed tysOk Tryz.func177 g177_k
noncomputable def g184 : Quick := fun _ _ args h => primT ((.clone 1 8)) args h
theorem g184_ok : QuickOk Tryz.prog cx 184 g184 := quick_prim (clone_ok (fn := Tryz.f184) (t := 35) (tb := 4) (te := ty3) tysOk Tryz.func184 (by kernel_rfl) (by kernel_rfl) (by kernel_rfl) (by kernel_rfl) (by kernel_rfl) (by kernel_rfl) (by kernel_rfl))
noncomputable def g185 : Quick := fun cf n args h => bodyT cx cf n fun185.fn fun185.mask fun185.keep args h
theorem g185_k : okFun fun185 = true := by kernel_rfl
theorem g185_ok : QuickOk Tryz.prog cx 185 g185 := quick_deep (F := fun185) mixed tysOk Tryz.func185 g185_k
noncomputable def g186 : Quick := fun cf n args h => bodyT cx cf n fun186.fn fun186.mask fun186.keep args h
theorem g186_k : okFun fun186 = true := by kernel_rfl
theorem g186_ok : QuickOk Tryz.prog cx 186 g186 := quick_deep (F := fun186) mixed tysOk Tryz.func186 g186_k
noncomputable def g187 : Quick := fun cf n args h => bodyT cx cf n fun187.fn fun187.mask fun187.keep args h
theorem g187_k : okFun fun187 = true := by kernel_rfl
theorem g187_ok : QuickOk Tryz.prog cx 187 g187 := quick_deep (F := fun187) mixed tysOk Tryz.func187 g187_k
noncomputable def g188 : Quick := fun cf n args h => bodyT cx cf n fun188.fn fun188.mask fun188.keep args h
theorem g188_k : okFun fun188 = true := by kernel_rfl
theorem g188_ok : QuickOk Tryz.prog cx 188 g188 := quick_deep (F := fun188) mixed tysOk Tryz.func188 g188_k
noncomputable def g192 : Quick := fun _ _ args h => primT ((.clone 2 16)) args h
theorem g192_ok : QuickOk Tryz.prog cx 192 g192 := quick_prim (clone_ok (fn := Tryz.f192) (t := 208) (tb := 4) (te := ty283) tysOk Tryz.func192 (by kernel_rfl) (by kernel_rfl) (by kernel_rfl) (by kernel_rfl) (by kernel_rfl) (by kernel_rfl) (by kernel_rfl))
noncomputable def g193 : Quick := fun _ _ args h => primT ((.clone 1 1)) args h
theorem g193_ok : QuickOk Tryz.prog cx 193 g193 := quick_prim (clone_ok (fn := Tryz.f193) (t := 30) (tb := 4) (te := ty4) tysOk Tryz.func193 (by kernel_rfl) (by kernel_rfl) (by kernel_rfl) (by kernel_rfl) (by kernel_rfl) (by kernel_rfl) (by kernel_rfl))
noncomputable def g194 : Quick := fun cf n args h => bodyT cx cf n fun194.fn fun194.mask fun194.keep args h
theorem g194_k : okFun fun194 = true := by kernel_rfl
theorem g194_ok : QuickOk Tryz.prog cx 194 g194 := quick_deep (F := fun194) mixed tysOk Tryz.func194 g194_k
noncomputable def g201 : Quick := fun cf n args h => bodyT cx cf n fun201.fn fun201.mask fun201.keep args h
theorem g201_k : okFun fun201 = true := by kernel_rfl
theorem g201_ok : QuickOk Tryz.prog cx 201 g201 := quick_deep (F := fun201) mixed tysOk Tryz.func201 g201_k
noncomputable def g203 : Quick := fun cf n args h => bodyT cx cf n fun203.fn fun203.mask fun203.keep args h
theorem g203_k : okFun fun203 = true := by kernel_rfl
theorem g203_ok : QuickOk Tryz.prog cx 203 g203 := quick_deep (F := fun203) mixed tysOk Tryz.func203 g203_k
noncomputable def g204 : Quick := fun cf n args h => bodyT cx cf n fun204.fn fun204.mask fun204.keep args h
theorem g204_k : okFun fun204 = true := by kernel_rfl
theorem g204_ok : QuickOk Tryz.prog cx 204 g204 := quick_deep (F := fun204) mixed tysOk Tryz.func204 g204_k
noncomputable def g205 : Quick := fun cf n args h => bodyT cx cf n fun205.fn fun205.mask fun205.keep args h
theorem g205_k : okFun fun205 = true := by kernel_rfl
theorem g205_ok : QuickOk Tryz.prog cx 205 g205 := quick_deep (F := fun205) mixed tysOk Tryz.func205 g205_k
noncomputable def g209 : Quick := fun cf n args h => bodyT cx cf n fun209.fn fun209.mask fun209.keep args h
theorem g209_k : okFun fun209 = true := by kernel_rfl
theorem g209_ok : QuickOk Tryz.prog cx 209 g209 := quick_deep (F := fun209) mixed tysOk Tryz.func209 g209_k
noncomputable def g210 : Quick := fun cf n args h => bodyT cx cf n fun210.fn fun210.mask fun210.keep args h
theorem g210_k : okFun fun210 = true := by kernel_rfl
theorem g210_ok : QuickOk Tryz.prog cx 210 g210 := quick_deep (F := fun210) mixed tysOk Tryz.func210 g210_k
noncomputable def g211 : Quick := fun cf n args h => bodyT cx cf n fun211.fn fun211.mask fun211.keep args h
theorem g211_k : okFun fun211 = true := by kernel_rfl
theorem g211_ok : QuickOk Tryz.prog cx 211 g211 := quick_deep (F := fun211) mixed tysOk Tryz.func211 g211_k
noncomputable def g212 : Quick := fun cf n args h => bodyT cx cf n fun212.fn fun212.mask fun212.keep args h
theorem g212_k : okFun fun212 = true := by kernel_rfl
theorem g212_ok : QuickOk Tryz.prog cx 212 g212 := quick_deep (F := fun212) mixed tysOk Tryz.func212 g212_k
noncomputable def g213 : Quick := fun cf n args h => bodyT cx cf n fun213.fn fun213.mask fun213.keep args h
theorem g213_k : okFun fun213 = true := by kernel_rfl
theorem g213_ok : QuickOk Tryz.prog cx 213 g213 := quick_deep (F := fun213) mixed tysOk Tryz.func213 g213_k
noncomputable def g214 : Quick := fun cf n args h => bodyT cx cf n fun214.fn fun214.mask fun214.keep args h
theorem g214_k : okFun fun214 = true := by kernel_rfl
theorem g214_ok : QuickOk Tryz.prog cx 214 g214 := quick_deep (F := fun214) mixed tysOk Tryz.func214 g214_k
noncomputable def g215 : Quick := fun cf n args h => bodyT cx cf n fun215.fn fun215.mask fun215.keep args h
theorem g215_k : okFun fun215 = true := by kernel_rfl
theorem g215_ok : QuickOk Tryz.prog cx 215 g215 := quick_deep (F := fun215) mixed tysOk Tryz.func215 g215_k
noncomputable def g222 : Quick := fun cf n args h => bodyT cx cf n fun222.fn fun222.mask fun222.keep args h
theorem g222_k : okFun fun222 = true := by kernel_rfl
theorem g222_ok : QuickOk Tryz.prog cx 222 g222 := quick_deep (F := fun222) mixed tysOk Tryz.func222 g222_k
noncomputable def g254 : Quick := fun cf n args h => bodyT cx cf n fun254.fn fun254.mask fun254.keep args h
theorem g254_k : okFun fun254 = true := by kernel_rfl
theorem g254_ok : QuickOk Tryz.prog cx 254 g254 := quick_deep (F := fun254) mixed tysOk Tryz.func254 g254_k
noncomputable def g258 : Quick := fun cf n args h => bodyT cx cf n fun258.fn fun258.mask fun258.keep args h
theorem g258_k : okFun fun258 = true := by kernel_rfl
theorem g258_ok : QuickOk Tryz.prog cx 258 g258 := quick_deep (F := fun258) mixed tysOk Tryz.func258 g258_k
noncomputable def g266 : Quick := fun cf n args h => bodyT cx cf n fun266.fn fun266.mask fun266.keep args h
theorem g266_k : okFun fun266 = true := by kernel_rfl
theorem g266_ok : QuickOk Tryz.prog cx 266 g266 := quick_deep (F := fun266) mixed tysOk Tryz.func266 g266_k
noncomputable def g267 : Quick := fun _ _ args h => primT ((.clone 3 24)) args h
theorem g267_ok : QuickOk Tryz.prog cx 267 g267 := quick_prim (clone_ok (fn := Tryz.f267) (t := 31) (tb := 4) (te := ty247) tysOk Tryz.func267 (by kernel_rfl) (by kernel_rfl) (by kernel_rfl) (by kernel_rfl) (by kernel_rfl) (by kernel_rfl) (by kernel_rfl))
noncomputable def g269 : Quick := fun cf n args h => bodyT cx cf n fun269.fn fun269.mask fun269.keep args h
theorem g269_k : okFun fun269 = true := by kernel_rfl
theorem g269_ok : QuickOk Tryz.prog cx 269 g269 := quick_deep (F := fun269) mixed tysOk Tryz.func269 g269_k
noncomputable def g270 : Quick := fun _ _ args h => primT (.indexByteString) args h
theorem g270_a : (Tryz.f270.name == "runtime.NumGoroutine") = false := by kernel_rfl
theorem g270_b : Tryz.f270.body.isNone = true := by kernel_rfl
theorem g270_n : Extern.findNext Tryz.f270 = none := by kernel_rfl
theorem g270_e : Extern.find Tryz.f270 = some Extern.BytealgIndexByte.indexByte := by kernel_rfl
theorem g270_p : PrimOk Tryz.prog cx 270 .indexByteString := @indexByte_ok Tryz.prog cx 270 Tryz.f270 Tryz.func270 g270_a g270_b g270_n g270_e
theorem g270_ok : QuickOk Tryz.prog cx 270 g270 := quick_prim g270_p
noncomputable def g271 : Quick := fun cf n args h => bodyT cx cf n fun271.fn fun271.mask fun271.keep args h
theorem g271_k : okFun fun271 = true := by kernel_rfl
theorem g271_ok : QuickOk Tryz.prog cx 271 g271 := quick_deep (F := fun271) mixed tysOk Tryz.func271 g271_k
noncomputable def g275 : Quick := fun cf n args h => bodyT cx cf n fun275.fn fun275.mask fun275.keep args h
theorem g275_k : okFun fun275 = true := by kernel_rfl
theorem g275_ok : QuickOk Tryz.prog cx 275 g275 := quick_deep (F := fun275) mixed tysOk Tryz.func275 g275_k
noncomputable def g276 : Quick := fun cf n args h => bodyT cx cf n fun276.fn fun276.mask fun276.keep args h
theorem g276_k : okFun fun276 = true := by kernel_rfl
theorem g276_ok : QuickOk Tryz.prog cx 276 g276 := quick_deep (F := fun276) mixed tysOk Tryz.func276 g276_k
noncomputable def g277 : Quick := fun cf n args h => bodyT cx cf n fun277.fn fun277.mask fun277.keep args h
theorem g277_k : okFun fun277 = true := by kernel_rfl
theorem g277_ok : QuickOk Tryz.prog cx 277 g277 := quick_deep (F := fun277) mixed tysOk Tryz.func277 g277_k
noncomputable def g280 : Quick := fun cf n args h => bodyT cx cf n fun280.fn fun280.mask fun280.keep args h
theorem g280_k : okFun fun280 = true := by kernel_rfl
theorem g280_ok : QuickOk Tryz.prog cx 280 g280 := quick_deep (F := fun280) mixed tysOk Tryz.func280 g280_k
noncomputable def g281 : Quick := fun cf n args h => bodyT cx cf n fun281.fn fun281.mask fun281.keep args h
theorem g281_k : okFun fun281 = true := by kernel_rfl
theorem g281_ok : QuickOk Tryz.prog cx 281 g281 := quick_deep (F := fun281) mixed tysOk Tryz.func281 g281_k
noncomputable def g282 : Quick := fun cf n args h => bodyT cx cf n fun282.fn fun282.mask fun282.keep args h
theorem g282_k : okFun fun282 = true := by kernel_rfl
theorem g282_ok : QuickOk Tryz.prog cx 282 g282 := quick_deep (F := fun282) mixed tysOk Tryz.func282 g282_k
noncomputable def g283 : Quick := fun cf n args h => bodyT cx cf n fun283.fn fun283.mask fun283.keep args h
theorem g283_k : okFun fun283 = true := by kernel_rfl
theorem g283_ok : QuickOk Tryz.prog cx 283 g283 := quick_deep (F := fun283) mixed tysOk Tryz.func283 g283_k
noncomputable def g284 : Quick := fun cf n args h => bodyT cx cf n fun284.fn fun284.mask fun284.keep args h
theorem g284_k : okFun fun284 = true := by kernel_rfl
theorem g284_ok : QuickOk Tryz.prog cx 284 g284 := quick_deep (F := fun284) mixed tysOk Tryz.func284 g284_k
noncomputable def g308 : Quick := fun cf n args h => bodyT cx cf n fun308.fn fun308.mask fun308.keep args h
theorem g308_k : okFun fun308 = true := by kernel_rfl
theorem g308_ok : QuickOk Tryz.prog cx 308 g308 := quick_deep (F := fun308) mixed tysOk Tryz.func308 g308_k
noncomputable def g310 : Quick := fun cf n args h => bodyT cx cf n fun310.fn fun310.mask fun310.keep args h
theorem g310_k : okFun fun310 = true := by kernel_rfl
theorem g310_ok : QuickOk Tryz.prog cx 310 g310 := quick_deep (F := fun310) mixed tysOk Tryz.func310 g310_k
noncomputable def g311 : Quick := fun cf n args h => bodyT cx cf n fun311.fn fun311.mask fun311.keep args h
theorem g311_k : okFun fun311 = true := by kernel_rfl
theorem g311_ok : QuickOk Tryz.prog cx 311 g311 := quick_deep (F := fun311) mixed tysOk Tryz.func311 g311_k
noncomputable def g317 : Quick := fun cf n args h => bodyT cx cf n fun317.fn fun317.mask fun317.keep args h
theorem g317_k : okFun fun317 = true := by kernel_rfl
theorem g317_ok : QuickOk Tryz.prog cx 317 g317 := quick_deep (F := fun317) mixed tysOk Tryz.func317 g317_k
noncomputable def g319 : Quick := fun cf n args h => bodyT cx cf n fun319.fn fun319.mask fun319.keep args h
theorem g319_k : okFun fun319 = true := by kernel_rfl
theorem g319_ok : QuickOk Tryz.prog cx 319 g319 := quick_deep (F := fun319) mixed tysOk Tryz.func319 g319_k
noncomputable def g322 : Quick := fun cf n args h => bodyT cx cf n fun322.fn fun322.mask fun322.keep args h
theorem g322_k : okFun fun322 = true := by kernel_rfl
theorem g322_ok : QuickOk Tryz.prog cx 322 g322 := quick_deep (F := fun322) mixed tysOk Tryz.func322 g322_k
noncomputable def g323 : Quick := fun cf n args h => bodyT cx cf n fun323.fn fun323.mask fun323.keep args h
theorem g323_k : okFun fun323 = true := by kernel_rfl
theorem g323_ok : QuickOk Tryz.prog cx 323 g323 := quick_deep (F := fun323) mixed tysOk Tryz.func323 g323_k
noncomputable def g324 : Quick := fun cf n args h => bodyT cx cf n fun324.fn fun324.mask fun324.keep args h
theorem g324_k : okFun fun324 = true := by kernel_rfl
theorem g324_ok : QuickOk Tryz.prog cx 324 g324 := quick_deep (F := fun324) mixed tysOk Tryz.func324 g324_k
noncomputable def g327 : Quick := fun cf n args h => bodyT cx cf n fun327.fn fun327.mask fun327.keep args h
theorem g327_k : okFun fun327 = true := by kernel_rfl
theorem g327_ok : QuickOk Tryz.prog cx 327 g327 := quick_deep (F := fun327) mixed tysOk Tryz.func327 g327_k
noncomputable def g348 : Quick := fun cf n args h => bodyT cx cf n fun348.fn fun348.mask fun348.keep args h
theorem g348_k : okFun fun348 = true := by kernel_rfl
theorem g348_ok : QuickOk Tryz.prog cx 348 g348 := quick_deep (F := fun348) mixed tysOk Tryz.func348 g348_k
noncomputable def g353 : Quick := fun cf n args h => bodyT cx cf n fun353.fn fun353.mask fun353.keep args h
theorem g353_k : okFun fun353 = true := by kernel_rfl
theorem g353_ok : QuickOk Tryz.prog cx 353 g353 := quick_deep (F := fun353) mixed tysOk Tryz.func353 g353_k
noncomputable def g369 : Quick := fun cf n args h => bodyT cx cf n fun369.fn fun369.mask fun369.keep args h
theorem g369_k : okFun fun369 = true := by kernel_rfl
theorem g369_ok : QuickOk Tryz.prog cx 369 g369 := quick_deep (F := fun369) mixed tysOk Tryz.func369 g369_k
noncomputable def g370 : Quick := fun cf n args h => bodyT cx cf n fun370.fn fun370.mask fun370.keep args h
theorem g370_k : okFun fun370 = true := by kernel_rfl
theorem g370_ok : QuickOk Tryz.prog cx 370 g370 := quick_deep (F := fun370) mixed tysOk Tryz.func370 g370_k
noncomputable def g374 : Quick := fun cf n args h => bodyT cx cf n fun374.fn fun374.mask fun374.keep args h
theorem g374_k : okFun fun374 = true := by kernel_rfl
theorem g374_ok : QuickOk Tryz.prog cx 374 g374 := quick_deep (F := fun374) mixed tysOk Tryz.func374 g374_k
noncomputable def g375 : Quick := fun cf n args h => bodyT cx cf n fun375.fn fun375.mask fun375.keep args h
theorem g375_k : okFun fun375 = true := by kernel_rfl
theorem g375_ok : QuickOk Tryz.prog cx 375 g375 := quick_deep (F := fun375) mixed tysOk Tryz.func375 g375_k
noncomputable def qs : Tree Quick := (.node (.node (.node (.node (.node (.node (.node (.node .nil 6 (g6) .nil) 9 (g9) (.node .nil 10 (g10) .nil)) 11 (g11) (.node (.node .nil 12 (g12) .nil) 13 (g13) .nil)) 18 (g18) (.node (.node (.node .nil 19 (g19) .nil) 20 (g20) .nil) 21 (g21) (.node (.node .nil 22 (g22) .nil) 23 (g23) .nil))) 25 (g25) (.node (.node (.node (.node .nil 26 (g26) .nil) 27 (g27) .nil) 28 (g28) (.node (.node .nil 29 (g29) .nil) 42 (g42) .nil)) 43 (g43) (.node (.node (.node .nil 44 (g44) .nil) 45 (g45) .nil) 46 (g46) (.node (.node .nil 47 (g47) .nil) 48 (g48) .nil)))) 49 (g49) (.node (.node (.node (.node (.node .nil 50 (g50) .nil) 51 (g51) (.node .nil 52 (g52) .nil)) 53 (g53) (.node (.node .nil 55 (g55) .nil) 56 (g56) .nil)) 57 (g57) (.node (.node (.node .nil 58 (g58) .nil) 59 (g59) .nil) 60 (g60) (.node (.node .nil 61 (g61) .nil) 62 (g62) .nil))) 63 (g63) (.node (.node (.node (.node .nil 64 (g64) .nil) 65 (g65) .nil) 66 (g66) (.node (.node .nil 67 (g67) .nil) 68 (g68) .nil)) 85 (g85) (.node (.node (.node .nil 86 (g86) .nil) 87 (g87) .nil) 88 (g88) (.node (.node .nil 89 (g89) .nil) 90 (g90) .nil))))) 91 (g91) (.node (.node (.node (.node (.node (.node .nil 92 (g92) .nil) 93 (g93) (.node .nil 94 (g94) .nil)) 95 (g95) (.node (.node .nil 96 (g96) .nil) 97 (g97) .nil)) 98 (g98) (.node (.node (.node .nil 99 (g99) .nil) 100 (g100) .nil) 101 (g101) (.node (.node .nil 102 (g102) .nil) 103 (g103) .nil))) 104 (g104) (.node (.node (.node (.node .nil 105 (g105) .nil) 106 (g106) .nil) 107 (g107) (.node (.node .nil 108 (g108) .nil) 109 (g109) .nil)) 110 (g110) (.node (.node (.node .nil 111 (g111) .nil) 112 (g112) .nil) 113 (g113) (.node (.node .nil 114 (g114) .nil) 115 (g115) .nil)))) 116 (g116) (.node (.node (.node (.node (.node .nil 117 (g117) .nil) 118 (g118) (.node .nil 119 (g119) .nil)) 120 (g120) (.node (.node .nil 121 (g121) .nil) 122 (g122) .nil)) 123 (g123) (.node (.node (.node .nil 124 (g124) .nil) 125 (g125) .nil) 126 (g126) (.node (.node .nil 127 (g127) .nil) 128 (g128) .nil))) 129 (g129) (.node (.node (.node (.node .nil 130 (g130) .nil) 132 (g132) .nil) 134 (g134) (.node (.node .nil 139 (g139) .nil) 143 (g143) .nil)) 146 (g146) (.node (.node (.node .nil 147 (g147) .nil) 148 (g148) .nil) 154 (g154) (.node (.node .nil 155 (g155) .nil) 156 (g156) .nil)))))) 157 (g157) (.node (.node (.node (.node (.node (.node (.node .nil 158 (g158) .nil) 159 (g159) (.node .nil 160 (g160) .nil)) 161 (g161) (.node (.node .nil 162 (g162) .nil) 163 (g163) .nil)) 164 (g164) (.node (.node (.node .nil 165 (g165) .nil) 166 (g166) .nil) 167 (g167) (.node (.node .nil 168 (g168) .nil) 169 (g169) .nil))) 170 (g170) (.node (.node (.node (.node .nil 171 (g171) .nil) 172 (g172) .nil) 173 (g173) (.node (.node .nil 174 (g174) .nil) 175 (g175) .nil)) 176 (g176) (.node (.node (.node .nil 177 (g177) .nil) 178 (g178) .nil) 180 (g180) (.node (.node .nil 181 (g181) .nil) 182 (g182) .nil)))) 183 (g183) (.node (.node (.node (.node (.node .nil 184 (g184) .nil) 185 (g185) (.node .nil 186 (g186) .nil)) 187 (g187) (.node (.node .nil 188 (g188) .nil) 189 (g189) .nil)) 190 (g190) (.node (.node (.node .nil 191 (g191) .nil) 192 (g192) .nil) 193 (g193) (.node (.node .nil 194 (g194) .nil) 195 (g195) .nil))) 198 (g198) (.node (.node (.node (.node .nil 199 (g199) .nil) 200 (g200) .nil) 201 (g201) (.node (.node .nil 202 (g202) .nil) 203 (g203) .nil)) 204 (g204) (.node (.node (.node .nil 205 (g205) .nil) 206 (g206) .nil) 207 (g207) (.node (.node .nil 208 (g208) .nil) 209 (g209) .nil))))) 210 (g210) (.node (.node (.node (.node (.node (.node .nil 211 (g211) .nil) 212 (g212) (.node .nil 213 (g213) .nil)) 214 (g214) (.node (.node .nil 215 (g215) .nil) 220 (g220) .nil)) 222 (g222) (.node (.node (.node .nil 252 (g252) .nil) 253 (g253) .nil) 254 (g254) (.node (.node .nil 257 (g257) .nil) 258 (g258) .nil))) 260 (g260) (.node (.node (.node (.node .nil 261 (g261) .nil) 265 (g265) .nil) 266 (g266) (.node (.node .nil 267 (g267) .nil) 268 (g268) .nil)) 269 (g269) (.node (.node (.node .nil 270 (g270) .nil) 271 (g271) .nil) 275 (g275) (.node (.node .nil 276 (g276) .nil) 277 (g277) .nil)))) 278 (g278) (.node (.node (.node (.node (.node .nil 280 (g280) .nil) 281 (g281) (.node .nil 282 (g282) .nil)) 283 (g283) (.node (.node .nil 284 (g284) .nil) 295 (g295) .nil)) 308 (g308) (.node (.node (.node .nil 310 (g310) .nil) 311 (g311) .nil) 313 (g313) (.node (.node .nil 317 (g317) .nil) 319 (g319) .nil))) 322 (g322) (.node (.node (.node (.node .nil 323 (g323) .nil) 324 (g324) .nil) 327 (g327) (.node (.node .nil 341 (g341) .nil) 348 (g348) .nil)) 353 (g353) (.node (.node (.node .nil 359 (g359) .nil) 369 (g369) .nil) 370 (g370) (.node (.node .nil 374 (g374) .nil) 375 (g375) .nil)))))))
theorem qsAll : qs.All fun f g => QuickOk Tryz.prog cx f g := (.node (.node (.node (.node (.node (.node (.node (.node .nil g6_ok .nil) g9_ok (.node .nil g10_ok .nil)) g11_ok (.node (.node .nil g12_ok .nil) g13_ok .nil)) g18_ok (.node (.node (.node .nil g19_ok .nil) g20_ok .nil) g21_ok (.node (.node .nil g22_ok .nil) g23_ok .nil))) g25_ok (.node (.node (.node (.node .nil g26_ok .nil) g27_ok .nil) g28_ok (.node (.node .nil g29_ok .nil) g42_ok .nil)) g43_ok (.node (.node (.node .nil g44_ok .nil) g45_ok .nil) g46_ok (.node (.node .nil g47_ok .nil) g48_ok .nil)))) g49_ok (.node (.node (.node (.node (.node .nil g50_ok .nil) g51_ok (.node .nil g52_ok .nil)) g53_ok (.node (.node .nil g55_ok .nil) g56_ok .nil)) g57_ok (.node (.node (.node .nil g58_ok .nil) g59_ok .nil) g60_ok (.node (.node .nil g61_ok .nil) g62_ok .nil))) g63_ok (.node (.node (.node (.node .nil g64_ok .nil) g65_ok .nil) g66_ok (.node (.node .nil g67_ok .nil) g68_ok .nil)) g85_ok (.node (.node (.node .nil g86_ok .nil) g87_ok .nil) g88_ok (.node (.node .nil g89_ok .nil) g90_ok .nil))))) g91_ok (.node (.node (.node (.node (.node (.node .nil g92_ok .nil) g93_ok (.node .nil g94_ok .nil)) g95_ok (.node (.node .nil g96_ok .nil) g97_ok .nil)) g98_ok (.node (.node (.node .nil g99_ok .nil) g100_ok .nil) g101_ok (.node (.node .nil g102_ok .nil) g103_ok .nil))) g104_ok (.node (.node (.node (.node .nil g105_ok .nil) g106_ok .nil) g107_ok (.node (.node .nil g108_ok .nil) g109_ok .nil)) g110_ok (.node (.node (.node .nil g111_ok .nil) g112_ok .nil) g113_ok (.node (.node .nil g114_ok .nil) g115_ok .nil)))) g116_ok (.node (.node (.node (.node (.node .nil g117_ok .nil) g118_ok (.node .nil g119_ok .nil)) g120_ok (.node (.node .nil g121_ok .nil) g122_ok .nil)) g123_ok (.node (.node (.node .nil g124_ok .nil) g125_ok .nil) g126_ok (.node (.node .nil g127_ok .nil) g128_ok .nil))) g129_ok (.node (.node (.node (.node .nil g130_ok .nil) g132_ok .nil) g134_ok (.node (.node .nil g139_ok .nil) g143_ok .nil)) g146_ok (.node (.node (.node .nil g147_ok .nil) g148_ok .nil) g154_ok (.node (.node .nil g155_ok .nil) g156_ok .nil)))))) g157_ok (.node (.node (.node (.node (.node (.node (.node .nil g158_ok .nil) g159_ok (.node .nil g160_ok .nil)) g161_ok (.node (.node .nil g162_ok .nil) g163_ok .nil)) g164_ok (.node (.node (.node .nil g165_ok .nil) g166_ok .nil) g167_ok (.node (.node .nil g168_ok .nil) g169_ok .nil))) g170_ok (.node (.node (.node (.node .nil g171_ok .nil) g172_ok .nil) g173_ok (.node (.node .nil g174_ok .nil) g175_ok .nil)) g176_ok (.node (.node (.node .nil g177_ok .nil) g178_ok .nil) g180_ok (.node (.node .nil g181_ok .nil) g182_ok .nil)))) g183_ok (.node (.node (.node (.node (.node .nil g184_ok .nil) g185_ok (.node .nil g186_ok .nil)) g187_ok (.node (.node .nil g188_ok .nil) g189_ok .nil)) g190_ok (.node (.node (.node .nil g191_ok .nil) g192_ok .nil) g193_ok (.node (.node .nil g194_ok .nil) g195_ok .nil))) g198_ok (.node (.node (.node (.node .nil g199_ok .nil) g200_ok .nil) g201_ok (.node (.node .nil g202_ok .nil) g203_ok .nil)) g204_ok (.node (.node (.node .nil g205_ok .nil) g206_ok .nil) g207_ok (.node (.node .nil g208_ok .nil) g209_ok .nil))))) g210_ok (.node (.node (.node (.node (.node (.node .nil g211_ok .nil) g212_ok (.node .nil g213_ok .nil)) g214_ok (.node (.node .nil g215_ok .nil) g220_ok .nil)) g222_ok (.node (.node (.node .nil g252_ok .nil) g253_ok .nil) g254_ok (.node (.node .nil g257_ok .nil) g258_ok .nil))) g260_ok (.node (.node (.node (.node .nil g261_ok .nil) g265_ok .nil) g266_ok (.node (.node .nil g267_ok .nil) g268_ok .nil)) g269_ok (.node (.node (.node .nil g270_ok .nil) g271_ok .nil) g275_ok (.node (.node .nil g276_ok .nil) g277_ok .nil)))) g278_ok (.node (.node (.node (.node (.node .nil g280_ok .nil) g281_ok (.node .nil g282_ok .nil)) g283_ok (.node (.node .nil g284_ok .nil) g295_ok .nil)) g308_ok (.node (.node (.node .nil g310_ok .nil) g311_ok .nil) g313_ok (.node (.node .nil g317_ok .nil) g319_ok .nil))) g322_ok (.node (.node (.node (.node .nil g323_ok .nil) g324_ok .nil) g327_ok (.node (.node .nil g341_ok .nil) g348_ok .nil)) g353_ok (.node (.node (.node .nil g359_ok .nil) g369_ok .nil) g370_ok (.node (.node .nil g374_ok .nil) g375_ok .nil)))))))
theorem qsOk : ∀ f g, (fun f => qs.find f) f = some g → QuickOk Tryz.prog cx f g := fun f g h => qsAll.find h
noncomputable def callQ (n : Nat) : CallF := callF (fun f => qs.find f) n
theorem callOk (n : Nat) : CallOk Tryz.prog cx (callQ n) := callF_sound qsOk n
end Go.Proofs.YtemkchpdcgkeiaaGreatDoor
