/- Tables: 82 types, 149 functions. By program (mkquick.py). -/
import Derived.Test.YtemkchpdcgkeiaaGreatDoorTiJ5
import Derived.Test.YtemkchpdcgkeiaaGreatDoorProg
set_option linter.unusedSimpArgs false
set_option linter.unusedVariables false
namespace Go.Proofs.YtemkchpdcgkeiaaGreatDoor
open Go Go.TI
set_option linter.unusedVariables false
set_option maxRecDepth 100000
def ty2 : Ty := { u := .int .i64, size := 1, bytes := 8, cmp := false, zero := [.int .i64 0] }
def ty3 : Ty := { u := .int .i64, size := 1, bytes := 8, cmp := false, zero := [.int .i64 0] }
def ty4 : Ty := { u := .bool, size := 1, bytes := 1, cmp := false, zero := [.bool false] }
def ty5 : Ty := { u := .int .u8, size := 1, bytes := 1, cmp := false, zero := [.int .u8 0] }
def ty9 : Ty := { u := .str, size := 1, bytes := 16, cmp := false, zero := [.str []] }
def ty21 : Ty := { u := .int .i32, size := 1, bytes := 4, cmp := false, zero := [.int .i32 0] }
def ty22 : Ty := { u := .slice 155, size := 1, bytes := 24, cmp := false, zero := [.tree [] false] }
def ty23 : Ty := { u := .slice 157, size := 1, bytes := 24, cmp := false, zero := [.tree [] false] }
def ty24 : Ty := { u := .slice 160, size := 1, bytes := 24, cmp := false, zero := [.tree [] false] }
def ty25 : Ty := { u := .slice 9, size := 1, bytes := 24, cmp := false, zero := [.tree [] false] }
def ty26 : Ty := { u := .slice 237, size := 1, bytes := 24, cmp := false, zero := [.tree [] false] }
def ty28 : Ty := { u := .struct [(0, 22), (1, 23), (2, 24), (3, 25), (4, 25), (5, 26)], size := 6, bytes := 144, cmp := false, zero := [.tree [] false, .tree [] false, .tree [] false, .tree [] false, .tree [] false, .tree [] false] }
def ty29 : Ty := { u := .slice 245, size := 1, bytes := 24, cmp := false, zero := [.tree [] false] }
def ty30 : Ty := { u := .slice 4, size := 1, bytes := 24, cmp := false, zero := [.tree [] false] }
def ty31 : Ty := { u := .slice 247, size := 1, bytes := 24, cmp := false, zero := [.tree [] false] }
def ty33 : Ty := { u := .struct [(0, 29), (1, 3), (2, 30), (3, 31)], size := 4, bytes := 80, cmp := false, zero := [.tree [] false, .int .i64 0, .tree [] false, .tree [] false] }
def ty34 : Ty := { u := .slice 2, size := 1, bytes := 24, cmp := false, zero := [.tree [] false] }
def ty35 : Ty := { u := .slice 3, size := 1, bytes := 24, cmp := false, zero := [.tree [] false] }
def ty38 : Ty := { u := .slice 107, size := 1, bytes := 24, cmp := false, zero := [.tree [] false] }
def ty42 : Ty := { u := .array 2 3, size := 2, bytes := 16, cmp := true, zero := [.int .i64 0, .int .i64 0] }
def ty46 : Ty := { u := .slice 141, size := 1, bytes := 24, cmp := false, zero := [.tree [] false] }
def ty47 : Ty := { u := .slice 92, size := 1, bytes := 24, cmp := false, zero := [.tree [] false] }
def ty49 : Ty := { u := .struct [(0, 46), (1, 47)], size := 2, bytes := 48, cmp := false, zero := [.tree [] false, .tree [] false] }
def ty50 : Ty := { u := .int .i64, size := 1, bytes := 8, cmp := false, zero := [.int .i64 0] }
def ty53 : Ty := { u := .slice 101, size := 1, bytes := 24, cmp := false, zero := [.tree [] false] }
def ty55 : Ty := { u := .struct [(0, 28), (6, 53)], size := 7, bytes := 168, cmp := false, zero := [.tree [] false, .tree [] false, .tree [] false, .tree [] false, .tree [] false, .tree [] false, .tree [] false] }
def ty58 : Ty := { u := .slice 42, size := 1, bytes := 24, cmp := false, zero := [.tree [] false] }
def ty60 : Ty := { u := .slice 35, size := 1, bytes := 24, cmp := false, zero := [.tree [] false] }
def ty65 : Ty := { u := .slice 189, size := 1, bytes := 24, cmp := false, zero := [.tree [] false] }
def ty67 : Ty := { u := .struct [(0, 33), (4, 34), (5, 34), (6, 65)], size := 7, bytes := 152, cmp := false, zero := [.tree [] false, .int .i64 0, .tree [] false, .tree [] false, .tree [] false, .tree [] false, .tree [] false] }
def ty77 : Ty := { u := .slice 136, size := 1, bytes := 24, cmp := false, zero := [.tree [] false] }
def ty80 : Ty := { u := .ptr 82, size := 1, bytes := 8, cmp := false, zero := [.nilp] }
def ty82 : Ty := { u := .struct [(0, 77), (1, 3)], size := 2, bytes := 32, cmp := false, zero := [.tree [] false, .int .i64 0] }
def ty89 : Ty := { u := .ptr 95, size := 1, bytes := 8, cmp := false, zero := [.nilp] }
def ty90 : Ty := { u := .slice 168, size := 1, bytes := 24, cmp := false, zero := [.tree [] false] }
def ty92 : Ty := { u := .struct [(0, 9), (1, 3), (2, 25), (3, 90)], size := 4, bytes := 72, cmp := false, zero := [.str [], .int .i64 0, .tree [] false, .tree [] false] }
def ty93 : Ty := { u := .slice 99, size := 1, bytes := 24, cmp := false, zero := [.tree [] false] }
def ty95 : Ty := { u := .struct [(0, 28), (6, 25), (7, 93), (8, 3), (9, 3)], size := 10, bytes := 208, cmp := false, zero := [.tree [] false, .tree [] false, .tree [] false, .tree [] false, .tree [] false, .tree [] false, .tree [] false, .tree [] false, .int .i64 0, .int .i64 0] }
def ty99 : Ty := { u := .struct [(0, 3), (1, 3), (2, 3), (3, 3), (4, 2), (5, 3)], size := 6, bytes := 48, cmp := false, zero := [.int .i64 0, .int .i64 0, .int .i64 0, .int .i64 0, .int .i64 0, .int .i64 0] }
def ty101 : Ty := { u := .struct [(0, 3), (1, 93)], size := 2, bytes := 32, cmp := false, zero := [.int .i64 0, .tree [] false] }
def ty103 : Ty := { u := .map 42 4, size := 1, bytes := 8, cmp := false, zero := [.nilm] }
def ty107 : Ty := { u := .struct [(0, 3), (1, 3), (2, 3), (3, 2), (4, 3), (5, 35), (6, 35)], size := 7, bytes := 88, cmp := false, zero := [.int .i64 0, .int .i64 0, .int .i64 0, .int .i64 0, .int .i64 0, .tree [] false, .tree [] false] }
def ty108 : Ty := { u := .func, size := 1, bytes := 8, cmp := false, zero := [.nilf] }
def ty112 : Ty := { u := .func, size := 1, bytes := 8, cmp := false, zero := [.nilf] }
def ty124 : Ty := { u := .struct [(0, 3), (1, 3)], size := 2, bytes := 16, cmp := false, zero := [.int .i64 0, .int .i64 0] }
def ty136 : Ty := { u := .struct [(0, 3), (1, 9), (2, 3)], size := 3, bytes := 32, cmp := false, zero := [.int .i64 0, .str [], .int .i64 0] }
def ty141 : Ty := { u := .struct [(0, 3), (1, 3), (2, 9), (3, 3), (4, 2), (5, 9)], size := 6, bytes := 64, cmp := false, zero := [.int .i64 0, .int .i64 0, .str [], .int .i64 0, .int .i64 0, .str []] }
def ty150 : Ty := { u := .ptr 152, size := 1, bytes := 8, cmp := false, zero := [.nilp] }
def ty152 : Ty := { u := .struct [(0, 49), (2, 3), (3, 90), (4, 25), (5, 25)], size := 6, bytes := 128, cmp := false, zero := [.tree [] false, .tree [] false, .int .i64 0, .tree [] false, .tree [] false, .tree [] false] }
def ty155 : Ty := { u := .struct [(0, 9), (1, 3), (2, 3), (3, 4), (4, 2)], size := 5, bytes := 48, cmp := true, zero := [.str [], .int .i64 0, .int .i64 0, .bool false, .int .i64 0] }
def ty157 : Ty := { u := .struct [(0, 9), (1, 4)], size := 2, bytes := 24, cmp := false, zero := [.str [], .bool false] }
def ty160 : Ty := { u := .struct [(0, 9), (1, 3)], size := 2, bytes := 24, cmp := false, zero := [.str [], .int .i64 0] }
def ty164 : Ty := { u := .slice 166, size := 1, bytes := 24, cmp := false, zero := [.tree [] false] }
def ty166 : Ty := { u := .struct [(0, 3), (1, 2), (2, 9), (3, 164)], size := 4, bytes := 56, cmp := false, zero := [.int .i64 0, .int .i64 0, .str [], .tree [] false] }
def ty168 : Ty := { u := .struct [(0, 3), (1, 3), (2, 9), (3, 9), (4, 164), (5, 166), (9, 90), (10, 90)], size := 11, bytes := 176, cmp := false, zero := [.int .i64 0, .int .i64 0, .str [], .str [], .tree [] false, .int .i64 0, .int .i64 0, .str [], .tree [] false, .tree [] false, .tree [] false] }
def ty169 : Ty := { u := .slice 67, size := 1, bytes := 24, cmp := false, zero := [.tree [] false] }
def ty170 : Ty := { u := .map 9 4, size := 1, bytes := 8, cmp := false, zero := [.nilm] }
def ty177 : Ty := { u := .func, size := 1, bytes := 8, cmp := false, zero := [.nilf] }
def ty178 : Ty := { u := .func, size := 1, bytes := 8, cmp := false, zero := [.nilf] }
def ty189 : Ty := { u := .struct [(0, 3), (1, 34), (2, 60), (3, 3)], size := 4, bytes := 64, cmp := false, zero := [.int .i64 0, .tree [] false, .tree [] false, .int .i64 0] }
def ty227 : Ty := { u := .ptr 141, size := 1, bytes := 8, cmp := false, zero := [.nilp] }
def ty237 : Ty := { u := .struct [(0, 3), (1, 3), (2, 3)], size := 3, bytes := 24, cmp := false, zero := [.int .i64 0, .int .i64 0, .int .i64 0] }
def ty240 : Ty := { u := .slice 5, size := 1, bytes := 24, cmp := false, zero := [.tree [] false] }
def ty242 : Ty := { u := .func, size := 1, bytes := 8, cmp := false, zero := [.nilf] }
def ty245 : Ty := { u := .struct [(0, 3), (1, 35)], size := 2, bytes := 32, cmp := false, zero := [.int .i64 0, .tree [] false] }
def ty247 : Ty := { u := .struct [(0, 3), (1, 3), (2, 4)], size := 3, bytes := 24, cmp := false, zero := [.int .i64 0, .int .i64 0, .bool false] }
def ty248 : Ty := { u := .array 2 34, size := 2, bytes := 48, cmp := false, zero := [.tree [] false, .tree [] false] }
def ty251 : Ty := { u := .int .u64, size := 1, bytes := 8, cmp := false, zero := [.int .u64 0] }
def ty301 : Ty := { u := .array 29 3, size := 29, bytes := 232, cmp := false, zero := [.int .i64 0, .int .i64 0, .int .i64 0, .int .i64 0, .int .i64 0, .int .i64 0, .int .i64 0, .int .i64 0, .int .i64 0, .int .i64 0, .int .i64 0, .int .i64 0, .int .i64 0, .int .i64 0, .int .i64 0, .int .i64 0, .int .i64 0, .int .i64 0, .int .i64 0, .int .i64 0, .int .i64 0, .int .i64 0, .int .i64 0, .int .i64 0, .int .i64 0, .int .i64 0, .int .i64 0, .int .i64 0, .int .i64 0] }
def ty304 : Ty := { u := .int .i64, size := 1, bytes := 8, cmp := false, zero := [.int .i64 0] }
def ty312 : Ty := { u := .int .u32, size := 1, bytes := 4, cmp := false, zero := [.int .u32 0] }
def ty314 : Ty := { u := .int .u64, size := 1, bytes := 8, cmp := false, zero := [.int .u64 0] }
def ty337 : Ty := { u := .array 22 9, size := 22, bytes := 352, cmp := false, zero := [.str [], .str [], .str [], .str [], .str [], .str [], .str [], .str [], .str [], .str [], .str [], .str [], .str [], .str [], .str [], .str [], .str [], .str [], .str [], .str [], .str [], .str []] }
def ty340 : Ty := { u := .array 256 4, size := 256, bytes := 256, cmp := false, zero := [.bool false, .bool false, .bool false, .bool false, .bool false, .bool false, .bool false, .bool false, .bool false, .bool false, .bool false, .bool false, .bool false, .bool false, .bool false, .bool false, .bool false, .bool false, .bool false, .bool false, .bool false, .bool false, .bool false, .bool false, .bool false, .bool false, .bool false, .bool false, .bool false, .bool false, .bool false, .bool false, .bool false, .bool false, .bool false, .bool false, .bool false, .bool false, .bool false, .bool false, .bool false, .bool false, .bool false, .bool false, .bool false, .bool false, .bool false, .bool false, .bool false, .bool false, .bool false, .bool false, .bool false, .bool false, .bool false, .bool false, .bool false, .bool false, .bool false, .bool false, .bool false, .bool false, .bool false, .bool false, .bool false, .bool false, .bool false, .bool false, .bool false, .bool false, .bool false, .bool false, .bool false, .bool false, .bool false, .bool false, .bool false, .bool false, .bool false, .bool false, .bool false, .bool false, .bool false, .bool false, .bool false, .bool false, .bool false, .bool false, .bool false, .bool false, .bool false, .bool false, .bool false, .bool false, .bool false, .bool false, .bool false, .bool false, .bool false, .bool false, .bool false, .bool false, .bool false, .bool false, .bool false, .bool false, .bool false, .bool false, .bool false, .bool false, .bool false, .bool false, .bool false, .bool false, .bool false, .bool false, .bool false, .bool false, .bool false, .bool false, .bool false, .bool false, .bool false, .bool false, .bool false, .bool false, .bool false, .bool false, .bool false, .bool false, .bool false, .bool false, .bool false, .bool false, .bool false, .bool false, .bool false, .bool false, .bool false, .bool false, .bool false, .bool false, .bool false, .bool false, .bool false, .bool false, .bool false, .bool false, .bool false, .bool false, .bool false, .bool false, .bool false, .bool false, .bool false, .bool false, .bool false, .bool false, .bool false, .bool false, .bool false, .bool false, .bool false, .bool false, .bool false, .bool false, .bool false, .bool false, .bool false, .bool false, .bool false, .bool false, .bool false, .bool false, .bool false, .bool false, .bool false, .bool false, .bool false, .bool false, .bool false, .bool false, .bool false, .bool false, .bool false, .bool false, .bool false, .bool false, .bool false, .bool false, .bool false, .bool false, .bool false, .bool false, .bool false, .bool false, .bool false, .bool false, .bool false, .bool false, .bool false, .bool false, .bool false, .bool false, .bool false, .bool false, .bool false, .bool false, .bool false, .bool false, .bool false, .bool false, .bool false, .bool false, .bool false, .bool false, .bool false, .bool false, .bool false, .bool false, .bool false, .bool false, .bool false, .bool false, .bool false, .bool false, .bool false, .bool false, .bool false, .bool false, .bool false, .bool false, .bool false, .bool false, .bool false, .bool false, .bool false, .bool false, .bool false, .bool false, .bool false, .bool false, .bool false, .bool false, .bool false, .bool false, .bool false, .bool false, .bool false, .bool false, .bool false, .bool false, .bool false, .bool false, .bool false, .bool false] }
def ty344 : Ty := { u := .ptr 340, size := 1, bytes := 8, cmp := false, zero := [.nilp] }
def ty346 : Ty := { u := .iface, size := 1, bytes := 16, cmp := false, zero := [.nili] }
def ty350 : Ty := { u := .ptr 168, size := 1, bytes := 8, cmp := false, zero := [.nilp] }
def ty351 : Ty := { u := .func, size := 1, bytes := 8, cmp := false, zero := [.nilf] }
def ty364 : Ty := { u := .ptr 189, size := 1, bytes := 8, cmp := false, zero := [.nilp] }
def ty391 : Ty := { u := .array 24 5, size := 24, bytes := 24, cmp := false, zero := [.int .u8 0, .int .u8 0, .int .u8 0, .int .u8 0, .int .u8 0, .int .u8 0, .int .u8 0, .int .u8 0, .int .u8 0, .int .u8 0, .int .u8 0, .int .u8 0, .int .u8 0, .int .u8 0, .int .u8 0, .int .u8 0, .int .u8 0, .int .u8 0, .int .u8 0, .int .u8 0, .int .u8 0, .int .u8 0, .int .u8 0, .int .u8 0] }
def ty401 : Ty := { u := .int .i64, size := 1, bytes := 8, cmp := false, zero := [.int .i64 0] }
def ty410 : Ty := { u := .array 65 5, size := 65, bytes := 65, cmp := false, zero := [.int .u8 0, .int .u8 0, .int .u8 0, .int .u8 0, .int .u8 0, .int .u8 0, .int .u8 0, .int .u8 0, .int .u8 0, .int .u8 0, .int .u8 0, .int .u8 0, .int .u8 0, .int .u8 0, .int .u8 0, .int .u8 0, .int .u8 0, .int .u8 0, .int .u8 0, .int .u8 0, .int .u8 0, .int .u8 0, .int .u8 0, .int .u8 0, .int .u8 0, .int .u8 0, .int .u8 0, .int .u8 0, .int .u8 0, .int .u8 0, .int .u8 0, .int .u8 0, .int .u8 0, .int .u8 0, .int .u8 0, .int .u8 0, .int .u8 0, .int .u8 0, .int .u8 0, .int .u8 0, .int .u8 0, .int .u8 0, .int .u8 0, .int .u8 0, .int .u8 0, .int .u8 0, .int .u8 0, .int .u8 0, .int .u8 0, .int .u8 0, .int .u8 0, .int .u8 0, .int .u8 0, .int .u8 0, .int .u8 0, .int .u8 0, .int .u8 0, .int .u8 0, .int .u8 0, .int .u8 0, .int .u8 0, .int .u8 0, .int .u8 0, .int .u8 0, .int .u8 0] }
def tys : Tree Ty := (.node (.node (.node (.node (.node (.node (.node .nil 2 (ty2) .nil) 3 (ty3) .nil) 4 (ty4) (.node (.node .nil 5 (ty5) .nil) 9 (ty9) .nil)) 21 (ty21) (.node (.node (.node .nil 22 (ty22) .nil) 23 (ty23) .nil) 24 (ty24) (.node .nil 25 (ty25) .nil))) 26 (ty26) (.node (.node (.node (.node .nil 28 (ty28) .nil) 29 (ty29) .nil) 30 (ty30) (.node .nil 31 (ty31) .nil)) 33 (ty33) (.node (.node (.node .nil 34 (ty34) .nil) 35 (ty35) .nil) 38 (ty38) (.node .nil 42 (ty42) .nil)))) 46 (ty46) (.node (.node (.node (.node (.node .nil 47 (ty47) .nil) 49 (ty49) .nil) 50 (ty50) (.node (.node .nil 53 (ty53) .nil) 55 (ty55) .nil)) 58 (ty58) (.node (.node (.node .nil 60 (ty60) .nil) 65 (ty65) .nil) 67 (ty67) (.node .nil 77 (ty77) .nil))) 80 (ty80) (.node (.node (.node (.node .nil 82 (ty82) .nil) 89 (ty89) .nil) 90 (ty90) (.node .nil 92 (ty92) .nil)) 93 (ty93) (.node (.node (.node .nil 95 (ty95) .nil) 99 (ty99) .nil) 101 (ty101) (.node .nil 103 (ty103) .nil))))) 107 (ty107) (.node (.node (.node (.node (.node (.node .nil 108 (ty108) .nil) 112 (ty112) .nil) 124 (ty124) (.node (.node .nil 136 (ty136) .nil) 141 (ty141) .nil)) 150 (ty150) (.node (.node (.node .nil 152 (ty152) .nil) 155 (ty155) .nil) 157 (ty157) (.node .nil 160 (ty160) .nil))) 164 (ty164) (.node (.node (.node (.node .nil 166 (ty166) .nil) 168 (ty168) .nil) 169 (ty169) (.node .nil 170 (ty170) .nil)) 177 (ty177) (.node (.node (.node .nil 178 (ty178) .nil) 189 (ty189) .nil) 227 (ty227) (.node .nil 237 (ty237) .nil)))) 240 (ty240) (.node (.node (.node (.node (.node .nil 242 (ty242) .nil) 245 (ty245) .nil) 247 (ty247) (.node .nil 248 (ty248) .nil)) 251 (ty251) (.node (.node (.node .nil 301 (ty301) .nil) 304 (ty304) .nil) 312 (ty312) (.node .nil 314 (ty314) .nil))) 337 (ty337) (.node (.node (.node (.node .nil 340 (ty340) .nil) 344 (ty344) .nil) 346 (ty346) (.node .nil 350 (ty350) .nil)) 351 (ty351) (.node (.node (.node .nil 364 (ty364) .nil) 391 (ty391) .nil) 401 (ty401) (.node .nil 410 (ty410) .nil))))))
noncomputable def fun7 : Fun := { fn := Tryz.f7, mask := 9363, keep := false, prim := none }
noncomputable def fun12 : Fun := { fn := Tryz.f12, mask := 8796093286397, keep := false, prim := none }
noncomputable def fun13 : Fun := { fn := Tryz.f13, mask := 19808249554385699031857790975, keep := false, prim := none }
noncomputable def fun14 : Fun := { fn := Tryz.f14, mask := 82167, keep := false, prim := none }
noncomputable def fun15 : Fun := { fn := Tryz.f15, mask := 19, keep := false, prim := none }
noncomputable def fun22 : Fun := { fn := Tryz.f22, mask := 9224506733391652861, keep := false, prim := none }
noncomputable def fun23 : Fun := { fn := Tryz.f23, mask := 4432473883133, keep := false, prim := none }
noncomputable def fun25 : Fun := { fn := Tryz.f25, mask := 19342850151455133005856767, keep := false, prim := none }
noncomputable def fun26 : Fun := { fn := Tryz.f26, mask := 316913254556860716756833993695, keep := false, prim := none }
noncomputable def fun27 : Fun := { fn := Tryz.f27, mask := 275, keep := false, prim := none }
noncomputable def fun28 : Fun := { fn := Tryz.f28, mask := 11, keep := false, prim := none }
noncomputable def fun29 : Fun := { fn := Tryz.f29, mask := 8934607822903, keep := false, prim := none }
noncomputable def fun30 : Fun := { fn := Tryz.f30, mask := 18279342225255375, keep := false, prim := none }
noncomputable def fun31 : Fun := { fn := Tryz.f31, mask := 4398109487487, keep := false, prim := none }
noncomputable def fun32 : Fun := { fn := Tryz.f32, mask := 149533581392383, keep := false, prim := none }
noncomputable def fun33 : Fun := { fn := Tryz.f33, mask := 27, keep := false, prim := none }
noncomputable def fun37 : Fun := { fn := Tryz.f37, mask := 55, keep := false, prim := none }
noncomputable def fun53 : Fun := { fn := Tryz.f53, mask := 19, keep := false, prim := none }
noncomputable def fun55 : Fun := { fn := Tryz.f55, mask := 33587517, keep := false, prim := none }
noncomputable def fun56 : Fun := { fn := Tryz.f56, mask := 4101, keep := false, prim := none }
noncomputable def fun57 : Fun := { fn := Tryz.f57, mask := 21853, keep := false, prim := none }
noncomputable def fun58 : Fun := { fn := Tryz.f58, mask := 37396817117309, keep := false, prim := none }
noncomputable def fun59 : Fun := { fn := Tryz.f59, mask := 51, keep := false, prim := none }
noncomputable def fun60 : Fun := { fn := Tryz.f60, mask := 40536831200067837, keep := false, prim := none }
noncomputable def fun61 : Fun := { fn := Tryz.f61, mask := 72128100255664255, keep := false, prim := none }
noncomputable def fun62 : Fun := { fn := Tryz.f62, mask := 1242795222330225588904675325, keep := false, prim := none }
noncomputable def fun63 : Fun := { fn := Tryz.f63, mask := 1237940043933112819970491391, keep := false, prim := none }
noncomputable def fun64 : Fun := { fn := Tryz.f64, mask := 1053, keep := false, prim := none }
noncomputable def fun65 : Fun := { fn := Tryz.f65, mask := 151115745466229840684019, keep := false, prim := none }
noncomputable def fun66 : Fun := { fn := Tryz.f66, mask := 262707, keep := false, prim := none }
noncomputable def fun67 : Fun := { fn := Tryz.f67, mask := 18191, keep := true, prim := none }
noncomputable def fun68 : Fun := { fn := Tryz.f68, mask := 365376106316094180278949616271352870286206697499, keep := false, prim := none }
noncomputable def fun69 : Fun := { fn := Tryz.f69, mask := 39, keep := false, prim := none }
noncomputable def fun70 : Fun := { fn := Tryz.f70, mask := 36893738837144453119, keep := false, prim := none }
noncomputable def fun71 : Fun := { fn := Tryz.f71, mask := 311547321280428806288892949008569727, keep := false, prim := none }
noncomputable def fun72 : Fun := { fn := Tryz.f72, mask := 1247, keep := false, prim := none }
noncomputable def fun73 : Fun := { fn := Tryz.f73, mask := 479, keep := false, prim := none }
noncomputable def fun74 : Fun := { fn := Tryz.f74, mask := 19, keep := false, prim := none }
noncomputable def fun75 : Fun := { fn := Tryz.f75, mask := 562984581629171, keep := true, prim := none }
noncomputable def fun78 : Fun := { fn := Tryz.f78, mask := 3, keep := false, prim := none }
noncomputable def fun111 : Fun := { fn := Tryz.f111, mask := 19, keep := false, prim := none }
noncomputable def fun112 : Fun := { fn := Tryz.f112, mask := 19, keep := false, prim := none }
noncomputable def fun113 : Fun := { fn := Tryz.f113, mask := 5, keep := false, prim := none }
noncomputable def fun114 : Fun := { fn := Tryz.f114, mask := 35500589085, keep := false, prim := none }
noncomputable def fun115 : Fun := { fn := Tryz.f115, mask := 5, keep := false, prim := none }
noncomputable def fun116 : Fun := { fn := Tryz.f116, mask := 1125908496810045, keep := false, prim := none }
noncomputable def fun117 : Fun := { fn := Tryz.f117, mask := 262565, keep := false, prim := none }
noncomputable def fun118 : Fun := { fn := Tryz.f118, mask := 541, keep := false, prim := none }
noncomputable def fun119 : Fun := { fn := Tryz.f119, mask := 328307, keep := false, prim := none }
noncomputable def fun120 : Fun := { fn := Tryz.f120, mask := 1574131, keep := false, prim := none }
noncomputable def fun121 : Fun := { fn := Tryz.f121, mask := 275, keep := false, prim := none }
noncomputable def fun122 : Fun := { fn := Tryz.f122, mask := 529021, keep := false, prim := none }
noncomputable def fun123 : Fun := { fn := Tryz.f123, mask := 1125902054326279, keep := false, prim := none }
noncomputable def fun124 : Fun := { fn := Tryz.f124, mask := 4330618893, keep := false, prim := none }
noncomputable def fun125 : Fun := { fn := Tryz.f125, mask := 32909, keep := false, prim := none }
noncomputable def fun126 : Fun := { fn := Tryz.f126, mask := 262707, keep := false, prim := none }
noncomputable def fun127 : Fun := { fn := Tryz.f127, mask := 262707, keep := false, prim := none }
noncomputable def fun128 : Fun := { fn := Tryz.f128, mask := 131635, keep := false, prim := none }
noncomputable def fun129 : Fun := { fn := Tryz.f129, mask := 14474012017383023515249485065460760621927424225494418519668988771800801378299, keep := false, prim := none }
noncomputable def fun130 : Fun := { fn := Tryz.f130, mask := 36893488147419136123, keep := false, prim := none }
noncomputable def fun132 : Fun := { fn := Tryz.f132, mask := 1119, keep := false, prim := none }
noncomputable def fun134 : Fun := { fn := Tryz.f134, mask := 20282409606012871684182924853463, keep := false, prim := none }
noncomputable def fun135 : Fun := { fn := Tryz.f135, mask := 4310958111, keep := false, prim := none }
noncomputable def fun136 : Fun := { fn := Tryz.f136, mask := 131945421865135, keep := true, prim := none }
noncomputable def fun137 : Fun := { fn := Tryz.f137, mask := 2559, keep := false, prim := none }
noncomputable def fun138 : Fun := { fn := Tryz.f138, mask := 3, keep := false, prim := none }
noncomputable def fun139 : Fun := { fn := Tryz.f139, mask := 71, keep := true, prim := none }
noncomputable def fun140 : Fun := { fn := Tryz.f140, mask := 7699, keep := false, prim := none }
noncomputable def fun141 : Fun := { fn := Tryz.f141, mask := 11, keep := false, prim := none }
noncomputable def fun142 : Fun := { fn := Tryz.f142, mask := 164805410609476479079325731131359, keep := false, prim := none }
noncomputable def fun143 : Fun := { fn := Tryz.f143, mask := 4605278686335, keep := false, prim := none }
noncomputable def fun144 : Fun := { fn := Tryz.f144, mask := 42535296023574879666274036850519702559, keep := false, prim := none }
noncomputable def fun145 : Fun := { fn := Tryz.f145, mask := 5, keep := false, prim := none }
noncomputable def fun146 : Fun := { fn := Tryz.f146, mask := 35315368591455, keep := false, prim := none }
noncomputable def fun147 : Fun := { fn := Tryz.f147, mask := 19, keep := false, prim := none }
noncomputable def fun148 : Fun := { fn := Tryz.f148, mask := 606826398900554784047567, keep := false, prim := none }
noncomputable def fun177 : Fun := { fn := Tryz.f177, mask := 772424076352653274097095092108232752774234854811365887, keep := false, prim := none }
noncomputable def fun184 : Fun := { fn := Tryz.f184, mask := 21, keep := true, prim := some (.clone 1 8) }
noncomputable def fun193 : Fun := { fn := Tryz.f193, mask := 21, keep := true, prim := some (.clone 1 1) }
noncomputable def fun201 : Fun := { fn := Tryz.f201, mask := 19, keep := false, prim := none }
noncomputable def fun202 : Fun := { fn := Tryz.f202, mask := 2293, keep := false, prim := none }
noncomputable def fun203 : Fun := { fn := Tryz.f203, mask := 2149585011, keep := false, prim := none }
noncomputable def fun204 : Fun := { fn := Tryz.f204, mask := 526461, keep := false, prim := none }
noncomputable def fun205 : Fun := { fn := Tryz.f205, mask := 8606909437, keep := false, prim := none }
noncomputable def fun206 : Fun := { fn := Tryz.f206, mask := 5, keep := false, prim := none }
noncomputable def fun207 : Fun := { fn := Tryz.f207, mask := 131613, keep := false, prim := none }
noncomputable def fun208 : Fun := { fn := Tryz.f208, mask := 5, keep := false, prim := none }
noncomputable def fun209 : Fun := { fn := Tryz.f209, mask := 182687706027492332498828539273953093013162958911, keep := false, prim := none }
noncomputable def fun210 : Fun := { fn := Tryz.f210, mask := 70368744310543, keep := false, prim := none }
noncomputable def fun211 : Fun := { fn := Tryz.f211, mask := 83, keep := false, prim := none }
noncomputable def fun212 : Fun := { fn := Tryz.f212, mask := 33688639, keep := false, prim := none }
noncomputable def fun213 : Fun := { fn := Tryz.f213, mask := 4196847, keep := false, prim := none }
noncomputable def fun214 : Fun := { fn := Tryz.f214, mask := 13, keep := false, prim := none }
noncomputable def fun215 : Fun := { fn := Tryz.f215, mask := 1049655, keep := false, prim := none }
noncomputable def fun216 : Fun := { fn := Tryz.f216, mask := 1198173691272031633503, keep := false, prim := none }
noncomputable def fun217 : Fun := { fn := Tryz.f217, mask := 79542256554101726209818756591, keep := false, prim := none }
noncomputable def fun218 : Fun := { fn := Tryz.f218, mask := 8597274655, keep := false, prim := none }
noncomputable def fun219 : Fun := { fn := Tryz.f219, mask := 115795622931500156787090594869991752700707101173952930503499814435576165171199, keep := false, prim := none }
noncomputable def fun220 : Fun := { fn := Tryz.f220, mask := 2247, keep := true, prim := none }
noncomputable def fun221 : Fun := { fn := Tryz.f221, mask := 5073078280992641850991240020191, keep := false, prim := none }
noncomputable def fun222 : Fun := { fn := Tryz.f222, mask := 5868843906288553182383292937158044313155908148351, keep := false, prim := none }
noncomputable def fun223 : Fun := { fn := Tryz.f223, mask := 17179886351, keep := false, prim := none }
noncomputable def fun232 : Fun := { fn := Tryz.f232, mask := 16661, keep := false, prim := none }
noncomputable def fun261 : Fun := { fn := Tryz.f261, mask := 30783, keep := true, prim := none }
noncomputable def fun267 : Fun := { fn := Tryz.f267, mask := 21, keep := true, prim := some (.clone 3 24) }
noncomputable def fun270 : Fun := { fn := Tryz.f270, mask := 0, keep := false, prim := some .indexByteString }
noncomputable def fun271 : Fun := { fn := Tryz.f271, mask := 8211, keep := false, prim := none }
noncomputable def fun275 : Fun := { fn := Tryz.f275, mask := 131527, keep := false, prim := none }
noncomputable def fun276 : Fun := { fn := Tryz.f276, mask := 563501857374451, keep := false, prim := none }
noncomputable def fun277 : Fun := { fn := Tryz.f277, mask := 2863311549, keep := false, prim := none }
noncomputable def fun278 : Fun := { fn := Tryz.f278, mask := 1, keep := false, prim := none }
noncomputable def fun280 : Fun := { fn := Tryz.f280, mask := 18483898770635358239, keep := false, prim := none }
noncomputable def fun281 : Fun := { fn := Tryz.f281, mask := 7, keep := false, prim := none }
noncomputable def fun282 : Fun := { fn := Tryz.f282, mask := 99132251962343631, keep := false, prim := none }
noncomputable def fun283 : Fun := { fn := Tryz.f283, mask := 8703, keep := false, prim := none }
noncomputable def fun284 : Fun := { fn := Tryz.f284, mask := 8590200303, keep := false, prim := none }
noncomputable def fun285 : Fun := { fn := Tryz.f285, mask := 18463069622434269437, keep := false, prim := none }
noncomputable def fun286 : Fun := { fn := Tryz.f286, mask := 18480521087022929591, keep := false, prim := none }
noncomputable def fun287 : Fun := { fn := Tryz.f287, mask := 79, keep := false, prim := none }
noncomputable def fun288 : Fun := { fn := Tryz.f288, mask := 34930167647, keep := false, prim := none }
noncomputable def fun289 : Fun := { fn := Tryz.f289, mask := 19, keep := false, prim := none }
noncomputable def fun290 : Fun := { fn := Tryz.f290, mask := 8934607822903, keep := false, prim := none }
noncomputable def fun291 : Fun := { fn := Tryz.f291, mask := 20850475683926052533283307399427439, keep := false, prim := none }
noncomputable def fun292 : Fun := { fn := Tryz.f292, mask := 36028833526300797, keep := false, prim := none }
noncomputable def fun293 : Fun := { fn := Tryz.f293, mask := 32985380290927, keep := true, prim := none }
noncomputable def fun294 : Fun := { fn := Tryz.f294, mask := 9227875773923197183, keep := false, prim := none }
noncomputable def fun295 : Fun := { fn := Tryz.f295, mask := 5575, keep := true, prim := none }
noncomputable def fun317 : Fun := { fn := Tryz.f317, mask := 594912002450663878599, keep := false, prim := none }
noncomputable def fun319 : Fun := { fn := Tryz.f319, mask := 13, keep := false, prim := none }
noncomputable def fun322 : Fun := { fn := Tryz.f322, mask := 32819, keep := false, prim := none }
noncomputable def fun323 : Fun := { fn := Tryz.f323, mask := 51, keep := false, prim := none }
noncomputable def fun324 : Fun := { fn := Tryz.f324, mask := 32819, keep := false, prim := none }
noncomputable def fun327 : Fun := { fn := Tryz.f327, mask := 132109, keep := false, prim := none }
noncomputable def fun328 : Fun := { fn := Tryz.f328, mask := 274888196125, keep := false, prim := none }
noncomputable def fun331 : Fun := { fn := Tryz.f331, mask := 23, keep := false, prim := none }
noncomputable def fun333 : Fun := { fn := Tryz.f333, mask := 5, keep := false, prim := none }
noncomputable def fun334 : Fun := { fn := Tryz.f334, mask := 1043, keep := false, prim := none }
noncomputable def fun335 : Fun := { fn := Tryz.f335, mask := 21, keep := true, prim := some (.clone 1 8) }
noncomputable def fun336 : Fun := { fn := Tryz.f336, mask := 491583, keep := true, prim := none }
noncomputable def fun337 : Fun := { fn := Tryz.f337, mask := 12855504354071922917960223656443085702429845449959358836311679, keep := false, prim := none }
noncomputable def fun341 : Fun := { fn := Tryz.f341, mask := 20426010943356750102455122975, keep := true, prim := none }
noncomputable def fun348 : Fun := { fn := Tryz.f348, mask := 749019592093908130998168547243562859198691857383367, keep := false, prim := none }
noncomputable def fun353 : Fun := { fn := Tryz.f353, mask := 72339071195682803, keep := false, prim := none }
noncomputable def fun355 : Fun := { fn := Tryz.f355, mask := 11, keep := false, prim := none }
noncomputable def fun359 : Fun := { fn := Tryz.f359, mask := 5, keep := false, prim := none }
noncomputable def fun369 : Fun := { fn := Tryz.f369, mask := 8407165, keep := false, prim := none }
noncomputable def fun370 : Fun := { fn := Tryz.f370, mask := 2101491, keep := false, prim := none }
noncomputable def fun374 : Fun := { fn := Tryz.f374, mask := 9224502335110254589, keep := false, prim := none }
noncomputable def fun375 : Fun := { fn := Tryz.f375, mask := 715827901, keep := false, prim := none }
def gl0 : List T := [T.int .i64 0, T.int .i64 0, T.int .i64 0, T.int .i64 0, T.int .i64 0, T.int .i64 0, T.int .i64 3, T.int .i64 3, T.int .i64 4, T.int .i64 4, T.int .i64 5, T.int .i64 6, T.int .i64 7, T.int .i64 8, T.int .i64 9, T.int .i64 10, T.int .i64 11, T.int .i64 12, T.int .i64 13, T.int .i64 14, T.int .i64 15, T.int .i64 16, T.int .i64 18, T.int .i64 19, T.int .i64 20, T.int .i64 21, T.int .i64 22, T.int .i64 23, T.int .i64 2]
def gl1 : List T := [T.str [118, 97, 114], T.str [118, 111, 108, 97, 116, 105, 108, 101], T.str [109, 117, 116, 101, 120], T.str [114, 119, 108, 111, 99, 107], T.str [99, 111, 110, 100], T.str [102, 117, 116, 117, 114, 101], T.str [116, 104, 114, 101, 97, 100], T.str [105, 102], T.str [101, 108, 115, 101], T.str [119, 104, 105, 108, 101], T.str [108, 111, 99, 107], T.str [114, 101, 97, 100], T.str [119, 114, 105, 116, 101], T.str [116, 114, 97, 110, 115, 97, 99, 116, 105, 111, 110], T.str [97, 116, 111, 109, 105, 99], T.str [119, 97, 105, 116], T.str [110, 111, 116, 105, 102, 121], T.str [110, 111, 116, 105, 102, 121, 97, 108, 108], T.str [115, 112, 97, 119, 110], T.str [106, 111, 105, 110], T.str [115, 101, 116], T.str [103, 101, 116]]
def gls : Tree (List T) := (.node (.node .nil 0 (gl0) .nil) 1 (gl1) .nil)
noncomputable def cx : Ctx := { ty := fun t => tys.find t, fn := fun _ => none, gl := fun g => gls.find g }
theorem mixed : Tryz.prog.follows .mixedOrders = true := by kernel_rfl
theorem tyOk2 : tyOf Tryz.prog 2 ty2.cmp = some ty2 := by kernel_rfl
theorem tyOk3 : tyOf Tryz.prog 3 ty3.cmp = some ty3 := by kernel_rfl
theorem tyOk4 : tyOf Tryz.prog 4 ty4.cmp = some ty4 := by kernel_rfl
theorem tyOk5 : tyOf Tryz.prog 5 ty5.cmp = some ty5 := by kernel_rfl
theorem tyOk9 : tyOf Tryz.prog 9 ty9.cmp = some ty9 := by kernel_rfl
theorem tyOk21 : tyOf Tryz.prog 21 ty21.cmp = some ty21 := by kernel_rfl
theorem tyOk22 : tyOf Tryz.prog 22 ty22.cmp = some ty22 := by kernel_rfl
theorem tyOk23 : tyOf Tryz.prog 23 ty23.cmp = some ty23 := by kernel_rfl
theorem tyOk24 : tyOf Tryz.prog 24 ty24.cmp = some ty24 := by kernel_rfl
theorem tyOk25 : tyOf Tryz.prog 25 ty25.cmp = some ty25 := by kernel_rfl
theorem tyOk26 : tyOf Tryz.prog 26 ty26.cmp = some ty26 := by kernel_rfl
theorem tyOk28 : tyOf Tryz.prog 28 ty28.cmp = some ty28 := by kernel_rfl
theorem tyOk29 : tyOf Tryz.prog 29 ty29.cmp = some ty29 := by kernel_rfl
theorem tyOk30 : tyOf Tryz.prog 30 ty30.cmp = some ty30 := by kernel_rfl
theorem tyOk31 : tyOf Tryz.prog 31 ty31.cmp = some ty31 := by kernel_rfl
theorem tyOk33 : tyOf Tryz.prog 33 ty33.cmp = some ty33 := by kernel_rfl
theorem tyOk34 : tyOf Tryz.prog 34 ty34.cmp = some ty34 := by kernel_rfl
theorem tyOk35 : tyOf Tryz.prog 35 ty35.cmp = some ty35 := by kernel_rfl
theorem tyOk38 : tyOf Tryz.prog 38 ty38.cmp = some ty38 := by kernel_rfl
theorem tyOk42 : tyOf Tryz.prog 42 ty42.cmp = some ty42 := by kernel_rfl
theorem tyOk46 : tyOf Tryz.prog 46 ty46.cmp = some ty46 := by kernel_rfl
theorem tyOk47 : tyOf Tryz.prog 47 ty47.cmp = some ty47 := by kernel_rfl
theorem tyOk49 : tyOf Tryz.prog 49 ty49.cmp = some ty49 := by kernel_rfl
theorem tyOk50 : tyOf Tryz.prog 50 ty50.cmp = some ty50 := by kernel_rfl
theorem tyOk53 : tyOf Tryz.prog 53 ty53.cmp = some ty53 := by kernel_rfl
theorem tyOk55 : tyOf Tryz.prog 55 ty55.cmp = some ty55 := by kernel_rfl
theorem tyOk58 : tyOf Tryz.prog 58 ty58.cmp = some ty58 := by kernel_rfl
theorem tyOk60 : tyOf Tryz.prog 60 ty60.cmp = some ty60 := by kernel_rfl
theorem tyOk65 : tyOf Tryz.prog 65 ty65.cmp = some ty65 := by kernel_rfl
theorem tyOk67 : tyOf Tryz.prog 67 ty67.cmp = some ty67 := by kernel_rfl
theorem tyOk77 : tyOf Tryz.prog 77 ty77.cmp = some ty77 := by kernel_rfl
theorem tyOk80 : tyOf Tryz.prog 80 ty80.cmp = some ty80 := by kernel_rfl
theorem tyOk82 : tyOf Tryz.prog 82 ty82.cmp = some ty82 := by kernel_rfl
theorem tyOk89 : tyOf Tryz.prog 89 ty89.cmp = some ty89 := by kernel_rfl
theorem tyOk90 : tyOf Tryz.prog 90 ty90.cmp = some ty90 := by kernel_rfl
theorem tyOk92 : tyOf Tryz.prog 92 ty92.cmp = some ty92 := by kernel_rfl
theorem tyOk93 : tyOf Tryz.prog 93 ty93.cmp = some ty93 := by kernel_rfl
theorem tyOk95 : tyOf Tryz.prog 95 ty95.cmp = some ty95 := by kernel_rfl
theorem tyOk99 : tyOf Tryz.prog 99 ty99.cmp = some ty99 := by kernel_rfl
theorem tyOk101 : tyOf Tryz.prog 101 ty101.cmp = some ty101 := by kernel_rfl
theorem tyOk103 : tyOf Tryz.prog 103 ty103.cmp = some ty103 := by kernel_rfl
theorem tyOk107 : tyOf Tryz.prog 107 ty107.cmp = some ty107 := by kernel_rfl
theorem tyOk108 : tyOf Tryz.prog 108 ty108.cmp = some ty108 := by kernel_rfl
theorem tyOk112 : tyOf Tryz.prog 112 ty112.cmp = some ty112 := by kernel_rfl
theorem tyOk124 : tyOf Tryz.prog 124 ty124.cmp = some ty124 := by kernel_rfl
theorem tyOk136 : tyOf Tryz.prog 136 ty136.cmp = some ty136 := by kernel_rfl
theorem tyOk141 : tyOf Tryz.prog 141 ty141.cmp = some ty141 := by kernel_rfl
theorem tyOk150 : tyOf Tryz.prog 150 ty150.cmp = some ty150 := by kernel_rfl
theorem tyOk152 : tyOf Tryz.prog 152 ty152.cmp = some ty152 := by kernel_rfl
theorem tyOk155 : tyOf Tryz.prog 155 ty155.cmp = some ty155 := by kernel_rfl
theorem tyOk157 : tyOf Tryz.prog 157 ty157.cmp = some ty157 := by kernel_rfl
theorem tyOk160 : tyOf Tryz.prog 160 ty160.cmp = some ty160 := by kernel_rfl
theorem tyOk164 : tyOf Tryz.prog 164 ty164.cmp = some ty164 := by kernel_rfl
theorem tyOk166 : tyOf Tryz.prog 166 ty166.cmp = some ty166 := by kernel_rfl
theorem tyOk168 : tyOf Tryz.prog 168 ty168.cmp = some ty168 := by kernel_rfl
theorem tyOk169 : tyOf Tryz.prog 169 ty169.cmp = some ty169 := by kernel_rfl
theorem tyOk170 : tyOf Tryz.prog 170 ty170.cmp = some ty170 := by kernel_rfl
theorem tyOk177 : tyOf Tryz.prog 177 ty177.cmp = some ty177 := by kernel_rfl
theorem tyOk178 : tyOf Tryz.prog 178 ty178.cmp = some ty178 := by kernel_rfl
theorem tyOk189 : tyOf Tryz.prog 189 ty189.cmp = some ty189 := by kernel_rfl
theorem tyOk227 : tyOf Tryz.prog 227 ty227.cmp = some ty227 := by kernel_rfl
theorem tyOk237 : tyOf Tryz.prog 237 ty237.cmp = some ty237 := by kernel_rfl
theorem tyOk240 : tyOf Tryz.prog 240 ty240.cmp = some ty240 := by kernel_rfl
theorem tyOk242 : tyOf Tryz.prog 242 ty242.cmp = some ty242 := by kernel_rfl
theorem tyOk245 : tyOf Tryz.prog 245 ty245.cmp = some ty245 := by kernel_rfl
theorem tyOk247 : tyOf Tryz.prog 247 ty247.cmp = some ty247 := by kernel_rfl
theorem tyOk248 : tyOf Tryz.prog 248 ty248.cmp = some ty248 := by kernel_rfl
theorem tyOk251 : tyOf Tryz.prog 251 ty251.cmp = some ty251 := by kernel_rfl
theorem tyOk301 : tyOf Tryz.prog 301 ty301.cmp = some ty301 := by kernel_rfl
theorem tyOk304 : tyOf Tryz.prog 304 ty304.cmp = some ty304 := by kernel_rfl
theorem tyOk312 : tyOf Tryz.prog 312 ty312.cmp = some ty312 := by kernel_rfl
theorem tyOk314 : tyOf Tryz.prog 314 ty314.cmp = some ty314 := by kernel_rfl
theorem tyOk337 : tyOf Tryz.prog 337 ty337.cmp = some ty337 := by kernel_rfl
theorem tyOk340 : tyOf Tryz.prog 340 ty340.cmp = some ty340 := by kernel_rfl
theorem tyOk344 : tyOf Tryz.prog 344 ty344.cmp = some ty344 := by kernel_rfl
theorem tyOk346 : tyOf Tryz.prog 346 ty346.cmp = some ty346 := by kernel_rfl
theorem tyOk350 : tyOf Tryz.prog 350 ty350.cmp = some ty350 := by kernel_rfl
theorem tyOk351 : tyOf Tryz.prog 351 ty351.cmp = some ty351 := by kernel_rfl
theorem tyOk364 : tyOf Tryz.prog 364 ty364.cmp = some ty364 := by kernel_rfl
theorem tyOk391 : tyOf Tryz.prog 391 ty391.cmp = some ty391 := by kernel_rfl
theorem tyOk401 : tyOf Tryz.prog 401 ty401.cmp = some ty401 := by kernel_rfl
theorem tyOk410 : tyOf Tryz.prog 410 ty410.cmp = some ty410 := by kernel_rfl
theorem tysAll : tys.All fun t ty => tyOf Tryz.prog t ty.cmp = some ty := (.node (.node (.node (.node (.node (.node (.node .nil tyOk2 .nil) tyOk3 .nil) tyOk4 (.node (.node .nil tyOk5 .nil) tyOk9 .nil)) tyOk21 (.node (.node (.node .nil tyOk22 .nil) tyOk23 .nil) tyOk24 (.node .nil tyOk25 .nil))) tyOk26 (.node (.node (.node (.node .nil tyOk28 .nil) tyOk29 .nil) tyOk30 (.node .nil tyOk31 .nil)) tyOk33 (.node (.node (.node .nil tyOk34 .nil) tyOk35 .nil) tyOk38 (.node .nil tyOk42 .nil)))) tyOk46 (.node (.node (.node (.node (.node .nil tyOk47 .nil) tyOk49 .nil) tyOk50 (.node (.node .nil tyOk53 .nil) tyOk55 .nil)) tyOk58 (.node (.node (.node .nil tyOk60 .nil) tyOk65 .nil) tyOk67 (.node .nil tyOk77 .nil))) tyOk80 (.node (.node (.node (.node .nil tyOk82 .nil) tyOk89 .nil) tyOk90 (.node .nil tyOk92 .nil)) tyOk93 (.node (.node (.node .nil tyOk95 .nil) tyOk99 .nil) tyOk101 (.node .nil tyOk103 .nil))))) tyOk107 (.node (.node (.node (.node (.node (.node .nil tyOk108 .nil) tyOk112 .nil) tyOk124 (.node (.node .nil tyOk136 .nil) tyOk141 .nil)) tyOk150 (.node (.node (.node .nil tyOk152 .nil) tyOk155 .nil) tyOk157 (.node .nil tyOk160 .nil))) tyOk164 (.node (.node (.node (.node .nil tyOk166 .nil) tyOk168 .nil) tyOk169 (.node .nil tyOk170 .nil)) tyOk177 (.node (.node (.node .nil tyOk178 .nil) tyOk189 .nil) tyOk227 (.node .nil tyOk237 .nil)))) tyOk240 (.node (.node (.node (.node (.node .nil tyOk242 .nil) tyOk245 .nil) tyOk247 (.node .nil tyOk248 .nil)) tyOk251 (.node (.node (.node .nil tyOk301 .nil) tyOk304 .nil) tyOk312 (.node .nil tyOk314 .nil))) tyOk337 (.node (.node (.node (.node .nil tyOk340 .nil) tyOk344 .nil) tyOk346 (.node .nil tyOk350 .nil)) tyOk351 (.node (.node (.node .nil tyOk364 .nil) tyOk391 .nil) tyOk401 (.node .nil tyOk410 .nil))))))
theorem tysOk : TysOk Tryz.prog cx := ⟨fun t ty h => ⟨_, tysAll.find h⟩⟩
end Go.Proofs.YtemkchpdcgkeiaaGreatDoor
