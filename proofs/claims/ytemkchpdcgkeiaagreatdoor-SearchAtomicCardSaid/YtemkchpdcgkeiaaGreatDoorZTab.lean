/- Tables: 89 types, 199 functions. By program (mkquick.py). -/
import Derived.Test.YtemkchpdcgkeiaaGreatDoorTiJ5
import Derived.Test.YtemkchpdcgkeiaaGreatDoorProg
set_option linter.unusedSimpArgs false
set_option linter.unusedVariables false
namespace Go.Proofs.YtemkchpdcgkeiaaGreatDoor
open Go Go.TI
set_option linter.unusedVariables false
set_option maxRecDepth 100000
def ty2 : Ty := { u := .int .i64, size := 1, bytes := 8, cmp := false, zero := [.int .i64 0] }
def ty3 : Ty := { u := .int .i64, size := 1, bytes := 8, cmp := false, zero := [.int .i64 0] }
def ty4 : Ty := { u := .bool, size := 1, bytes := 1, cmp := false, zero := [.bool false] }
def ty5 : Ty := { u := .int .u8, size := 1, bytes := 1, cmp := false, zero := [.int .u8 0] }
def ty9 : Ty := { u := .str, size := 1, bytes := 16, cmp := false, zero := [.str []] }
def ty22 : Ty := { u := .slice 155, size := 1, bytes := 24, cmp := false, zero := [.tree [] false] }
def ty23 : Ty := { u := .slice 157, size := 1, bytes := 24, cmp := false, zero := [.tree [] false] }
def ty24 : Ty := { u := .slice 160, size := 1, bytes := 24, cmp := false, zero := [.tree [] false] }
def ty25 : Ty := { u := .slice 9, size := 1, bytes := 24, cmp := false, zero := [.tree [] false] }
def ty26 : Ty := { u := .slice 237, size := 1, bytes := 24, cmp := false, zero := [.tree [] false] }
def ty28 : Ty := { u := .struct [(0, 22), (1, 23), (2, 24), (3, 25), (4, 25), (5, 26)], size := 6, bytes := 144, cmp := false, zero := [.tree [] false, .tree [] false, .tree [] false, .tree [] false, .tree [] false, .tree [] false] }
def ty29 : Ty := { u := .slice 245, size := 1, bytes := 24, cmp := false, zero := [.tree [] false] }
def ty30 : Ty := { u := .slice 4, size := 1, bytes := 24, cmp := false, zero := [.tree [] false] }
def ty31 : Ty := { u := .slice 247, size := 1, bytes := 24, cmp := false, zero := [.tree [] false] }
def ty33 : Ty := { u := .struct [(0, 29), (1, 3), (2, 30), (3, 31)], size := 4, bytes := 80, cmp := false, zero := [.tree [] false, .int .i64 0, .tree [] false, .tree [] false] }
def ty34 : Ty := { u := .slice 2, size := 1, bytes := 24, cmp := false, zero := [.tree [] false] }
def ty35 : Ty := { u := .slice 3, size := 1, bytes := 24, cmp := false, zero := [.tree [] false] }
def ty37 : Ty := { u := .struct [(0, 33), (4, 34), (5, 34), (6, 35)], size := 7, bytes := 152, cmp := false, zero := [.tree [] false, .int .i64 0, .tree [] false, .tree [] false, .tree [] false, .tree [] false, .tree [] false] }
def ty38 : Ty := { u := .slice 107, size := 1, bytes := 24, cmp := false, zero := [.tree [] false] }
def ty40 : Ty := { u := .struct [(0, 28), (6, 3), (7, 37), (14, 38)], size := 15, bytes := 328, cmp := false, zero := [.tree [] false, .tree [] false, .tree [] false, .tree [] false, .tree [] false, .tree [] false, .int .i64 0, .tree [] false, .int .i64 0, .tree [] false, .tree [] false, .tree [] false, .tree [] false, .tree [] false, .tree [] false] }
def ty42 : Ty := { u := .array 2 3, size := 2, bytes := 16, cmp := true, zero := [.int .i64 0, .int .i64 0] }
def ty43 : Ty := { u := .array 5 42, size := 10, bytes := 80, cmp := false, zero := [.int .i64 0, .int .i64 0, .int .i64 0, .int .i64 0, .int .i64 0, .int .i64 0, .int .i64 0, .int .i64 0, .int .i64 0, .int .i64 0] }
def ty46 : Ty := { u := .slice 141, size := 1, bytes := 24, cmp := false, zero := [.tree [] false] }
def ty47 : Ty := { u := .slice 92, size := 1, bytes := 24, cmp := false, zero := [.tree [] false] }
def ty49 : Ty := { u := .struct [(0, 46), (1, 47)], size := 2, bytes := 48, cmp := false, zero := [.tree [] false, .tree [] false] }
def ty50 : Ty := { u := .int .i64, size := 1, bytes := 8, cmp := false, zero := [.int .i64 0] }
def ty53 : Ty := { u := .slice 101, size := 1, bytes := 24, cmp := false, zero := [.tree [] false] }
def ty55 : Ty := { u := .struct [(0, 28), (6, 53)], size := 7, bytes := 168, cmp := false, zero := [.tree [] false, .tree [] false, .tree [] false, .tree [] false, .tree [] false, .tree [] false, .tree [] false] }
def ty60 : Ty := { u := .slice 35, size := 1, bytes := 24, cmp := false, zero := [.tree [] false] }
def ty64 : Ty := { u := .struct [(0, 28), (6, 38)], size := 7, bytes := 168, cmp := false, zero := [.tree [] false, .tree [] false, .tree [] false, .tree [] false, .tree [] false, .tree [] false, .tree [] false] }
def ty65 : Ty := { u := .slice 189, size := 1, bytes := 24, cmp := false, zero := [.tree [] false] }
def ty67 : Ty := { u := .struct [(0, 33), (4, 34), (5, 34), (6, 65)], size := 7, bytes := 152, cmp := false, zero := [.tree [] false, .int .i64 0, .tree [] false, .tree [] false, .tree [] false, .tree [] false, .tree [] false] }
def ty70 : Ty := { u := .slice 40, size := 1, bytes := 24, cmp := false, zero := [.tree [] false] }
def ty73 : Ty := { u := .slice 76, size := 1, bytes := 24, cmp := false, zero := [.tree [] false] }
def ty76 : Ty := { u := .struct [(0, 3), (1, 3), (2, 3), (3, 3), (4, 3), (5, 35)], size := 6, bytes := 64, cmp := false, zero := [.int .i64 0, .int .i64 0, .int .i64 0, .int .i64 0, .int .i64 0, .tree [] false] }
def ty77 : Ty := { u := .slice 136, size := 1, bytes := 24, cmp := false, zero := [.tree [] false] }
def ty80 : Ty := { u := .ptr 82, size := 1, bytes := 8, cmp := false, zero := [.nilp] }
def ty82 : Ty := { u := .struct [(0, 77), (1, 3)], size := 2, bytes := 32, cmp := false, zero := [.tree [] false, .int .i64 0] }
def ty89 : Ty := { u := .ptr 95, size := 1, bytes := 8, cmp := false, zero := [.nilp] }
def ty90 : Ty := { u := .slice 168, size := 1, bytes := 24, cmp := false, zero := [.tree [] false] }
def ty92 : Ty := { u := .struct [(0, 9), (1, 3), (2, 25), (3, 90)], size := 4, bytes := 72, cmp := false, zero := [.str [], .int .i64 0, .tree [] false, .tree [] false] }
def ty93 : Ty := { u := .slice 99, size := 1, bytes := 24, cmp := false, zero := [.tree [] false] }
def ty95 : Ty := { u := .struct [(0, 28), (6, 25), (7, 93), (8, 3), (9, 3)], size := 10, bytes := 208, cmp := false, zero := [.tree [] false, .tree [] false, .tree [] false, .tree [] false, .tree [] false, .tree [] false, .tree [] false, .tree [] false, .int .i64 0, .int .i64 0] }
def ty99 : Ty := { u := .struct [(0, 3), (1, 3), (2, 3), (3, 3), (4, 2), (5, 3)], size := 6, bytes := 48, cmp := false, zero := [.int .i64 0, .int .i64 0, .int .i64 0, .int .i64 0, .int .i64 0, .int .i64 0] }
def ty101 : Ty := { u := .struct [(0, 3), (1, 93)], size := 2, bytes := 32, cmp := false, zero := [.int .i64 0, .tree [] false] }
def ty107 : Ty := { u := .struct [(0, 3), (1, 3), (2, 3), (3, 2), (4, 3), (5, 35), (6, 35)], size := 7, bytes := 88, cmp := false, zero := [.int .i64 0, .int .i64 0, .int .i64 0, .int .i64 0, .int .i64 0, .tree [] false, .tree [] false] }
def ty117 : Ty := { u := .slice 124, size := 1, bytes := 24, cmp := false, zero := [.tree [] false] }
def ty124 : Ty := { u := .struct [(0, 3), (1, 3)], size := 2, bytes := 16, cmp := false, zero := [.int .i64 0, .int .i64 0] }
def ty136 : Ty := { u := .struct [(0, 3), (1, 9), (2, 3)], size := 3, bytes := 32, cmp := false, zero := [.int .i64 0, .str [], .int .i64 0] }
def ty141 : Ty := { u := .struct [(0, 3), (1, 3), (2, 9), (3, 3), (4, 2), (5, 9)], size := 6, bytes := 64, cmp := false, zero := [.int .i64 0, .int .i64 0, .str [], .int .i64 0, .int .i64 0, .str []] }
def ty150 : Ty := { u := .ptr 152, size := 1, bytes := 8, cmp := false, zero := [.nilp] }
def ty152 : Ty := { u := .struct [(0, 49), (2, 3), (3, 90), (4, 25), (5, 25)], size := 6, bytes := 128, cmp := false, zero := [.tree [] false, .tree [] false, .int .i64 0, .tree [] false, .tree [] false, .tree [] false] }
def ty155 : Ty := { u := .struct [(0, 9), (1, 3), (2, 3), (3, 4), (4, 2)], size := 5, bytes := 48, cmp := false, zero := [.str [], .int .i64 0, .int .i64 0, .bool false, .int .i64 0] }
def ty157 : Ty := { u := .struct [(0, 9), (1, 4)], size := 2, bytes := 24, cmp := false, zero := [.str [], .bool false] }
def ty160 : Ty := { u := .struct [(0, 9), (1, 3)], size := 2, bytes := 24, cmp := false, zero := [.str [], .int .i64 0] }
def ty164 : Ty := { u := .slice 166, size := 1, bytes := 24, cmp := false, zero := [.tree [] false] }
def ty166 : Ty := { u := .struct [(0, 3), (1, 2), (2, 9), (3, 164)], size := 4, bytes := 56, cmp := false, zero := [.int .i64 0, .int .i64 0, .str [], .tree [] false] }
def ty168 : Ty := { u := .struct [(0, 3), (1, 3), (2, 9), (3, 9), (4, 164), (5, 166), (9, 90), (10, 90)], size := 11, bytes := 176, cmp := false, zero := [.int .i64 0, .int .i64 0, .str [], .str [], .tree [] false, .int .i64 0, .int .i64 0, .str [], .tree [] false, .tree [] false, .tree [] false] }
def ty170 : Ty := { u := .map 9 4, size := 1, bytes := 8, cmp := false, zero := [.nilm] }
def ty178 : Ty := { u := .func, size := 1, bytes := 8, cmp := false, zero := [.nilf] }
def ty180 : Ty := { u := .func, size := 1, bytes := 8, cmp := false, zero := [.nilf] }
def ty189 : Ty := { u := .struct [(0, 3), (1, 34), (2, 60), (3, 3)], size := 4, bytes := 64, cmp := false, zero := [.int .i64 0, .tree [] false, .tree [] false, .int .i64 0] }
def ty198 : Ty := { u := .slice 33, size := 1, bytes := 24, cmp := false, zero := [.tree [] false] }
def ty200 : Ty := { u := .struct [(0, 40), (15, 198)], size := 16, bytes := 352, cmp := false, zero := [.tree [] false, .tree [] false, .tree [] false, .tree [] false, .tree [] false, .tree [] false, .int .i64 0, .tree [] false, .int .i64 0, .tree [] false, .tree [] false, .tree [] false, .tree [] false, .tree [] false, .tree [] false, .tree [] false] }
def ty204 : Ty := { u := .func, size := 1, bytes := 8, cmp := false, zero := [.nilf] }
def ty208 : Ty := { u := .slice 283, size := 1, bytes := 24, cmp := false, zero := [.tree [] false] }
def ty210 : Ty := { u := .struct [(0, 33), (4, 208), (5, 208), (6, 35), (7, 30), (8, 35)], size := 9, bytes := 200, cmp := false, zero := [.tree [] false, .int .i64 0, .tree [] false, .tree [] false, .tree [] false, .tree [] false, .tree [] false, .tree [] false, .tree [] false] }
def ty214 : Ty := { u := .struct [(0, 210), (9, 117)], size := 10, bytes := 224, cmp := false, zero := [.tree [] false, .int .i64 0, .tree [] false, .tree [] false, .tree [] false, .tree [] false, .tree [] false, .tree [] false, .tree [] false, .tree [] false] }
def ty215 : Ty := { u := .slice 214, size := 1, bytes := 24, cmp := false, zero := [.tree [] false] }
def ty227 : Ty := { u := .ptr 141, size := 1, bytes := 8, cmp := false, zero := [.nilp] }
def ty237 : Ty := { u := .struct [(0, 3), (1, 3), (2, 3)], size := 3, bytes := 24, cmp := false, zero := [.int .i64 0, .int .i64 0, .int .i64 0] }
def ty240 : Ty := { u := .slice 5, size := 1, bytes := 24, cmp := false, zero := [.tree [] false] }
def ty242 : Ty := { u := .func, size := 1, bytes := 8, cmp := false, zero := [.nilf] }
def ty245 : Ty := { u := .struct [(0, 3), (1, 35)], size := 2, bytes := 32, cmp := false, zero := [.int .i64 0, .tree [] false] }
def ty247 : Ty := { u := .struct [(0, 3), (1, 3), (2, 4)], size := 3, bytes := 24, cmp := false, zero := [.int .i64 0, .int .i64 0, .bool false] }
def ty251 : Ty := { u := .int .u64, size := 1, bytes := 8, cmp := false, zero := [.int .u64 0] }
def ty275 : Ty := { u := .array 2 35, size := 2, bytes := 48, cmp := false, zero := [.tree [] false, .tree [] false] }
def ty283 : Ty := { u := .struct [(0, 2), (1, 4)], size := 2, bytes := 16, cmp := true, zero := [.int .i64 0, .bool false] }
def ty288 : Ty := { u := .array 2 208, size := 2, bytes := 48, cmp := false, zero := [.tree [] false, .tree [] false] }
def ty314 : Ty := { u := .int .u64, size := 1, bytes := 8, cmp := false, zero := [.int .u64 0] }
def ty337 : Ty := { u := .array 22 9, size := 22, bytes := 352, cmp := false, zero := [.str [], .str [], .str [], .str [], .str [], .str [], .str [], .str [], .str [], .str [], .str [], .str [], .str [], .str [], .str [], .str [], .str [], .str [], .str [], .str [], .str [], .str []] }
def ty340 : Ty := { u := .array 256 4, size := 256, bytes := 256, cmp := false, zero := [.bool false, .bool false, .bool false, .bool false, .bool false, .bool false, .bool false, .bool false, .bool false, .bool false, .bool false, .bool false, .bool false, .bool false, .bool false, .bool false, .bool false, .bool false, .bool false, .bool false, .bool false, .bool false, .bool false, .bool false, .bool false, .bool false, .bool false, .bool false, .bool false, .bool false, .bool false, .bool false, .bool false, .bool false, .bool false, .bool false, .bool false, .bool false, .bool false, .bool false, .bool false, .bool false, .bool false, .bool false, .bool false, .bool false, .bool false, .bool false, .bool false, .bool false, .bool false, .bool false, .bool false, .bool false, .bool false, .bool false, .bool false, .bool false, .bool false, .bool false, .bool false, .bool false, .bool false, .bool false, .bool false, .bool false, .bool false, .bool false, .bool false, .bool false, .bool false, .bool false, .bool false, .bool false, .bool false, .bool false, .bool false, .bool false, .bool false, .bool false, .bool false, .bool false, .bool false, .bool false, .bool false, .bool false, .bool false, .bool false, .bool false, .bool false, .bool false, .bool false, .bool false, .bool false, .bool false, .bool false, .bool false, .bool false, .bool false, .bool false, .bool false, .bool false, .bool false, .bool false, .bool false, .bool false, .bool false, .bool false, .bool false, .bool false, .bool false, .bool false, .bool false, .bool false, .bool false, .bool false, .bool false, .bool false, .bool false, .bool false, .bool false, .bool false, .bool false, .bool false, .bool false, .bool false, .bool false, .bool false, .bool false, .bool false, .bool false, .bool false, .bool false, .bool false, .bool false, .bool false, .bool false, .bool false, .bool false, .bool false, .bool false, .bool false, .bool false, .bool false, .bool false, .bool false, .bool false, .bool false, .bool false, .bool false, .bool false, .bool false, .bool false, .bool false, .bool false, .bool false, .bool false, .bool false, .bool false, .bool false, .bool false, .bool false, .bool false, .bool false, .bool false, .bool false, .bool false, .bool false, .bool false, .bool false, .bool false, .bool false, .bool false, .bool false, .bool false, .bool false, .bool false, .bool false, .bool false, .bool false, .bool false, .bool false, .bool false, .bool false, .bool false, .bool false, .bool false, .bool false, .bool false, .bool false, .bool false, .bool false, .bool false, .bool false, .bool false, .bool false, .bool false, .bool false, .bool false, .bool false, .bool false, .bool false, .bool false, .bool false, .bool false, .bool false, .bool false, .bool false, .bool false, .bool false, .bool false, .bool false, .bool false, .bool false, .bool false, .bool false, .bool false, .bool false, .bool false, .bool false, .bool false, .bool false, .bool false, .bool false, .bool false, .bool false, .bool false, .bool false, .bool false, .bool false, .bool false, .bool false, .bool false, .bool false, .bool false, .bool false, .bool false, .bool false, .bool false, .bool false, .bool false, .bool false, .bool false, .bool false, .bool false, .bool false, .bool false, .bool false, .bool false, .bool false, .bool false, .bool false, .bool false, .bool false, .bool false, .bool false] }
def ty344 : Ty := { u := .ptr 340, size := 1, bytes := 8, cmp := false, zero := [.nilp] }
def ty346 : Ty := { u := .iface, size := 1, bytes := 16, cmp := false, zero := [.nili] }
def ty350 : Ty := { u := .ptr 168, size := 1, bytes := 8, cmp := false, zero := [.nilp] }
def ty351 : Ty := { u := .func, size := 1, bytes := 8, cmp := false, zero := [.nilf] }
def ty391 : Ty := { u := .array 24 5, size := 24, bytes := 24, cmp := false, zero := [.int .u8 0, .int .u8 0, .int .u8 0, .int .u8 0, .int .u8 0, .int .u8 0, .int .u8 0, .int .u8 0, .int .u8 0, .int .u8 0, .int .u8 0, .int .u8 0, .int .u8 0, .int .u8 0, .int .u8 0, .int .u8 0, .int .u8 0, .int .u8 0, .int .u8 0, .int .u8 0, .int .u8 0, .int .u8 0, .int .u8 0, .int .u8 0] }
def ty401 : Ty := { u := .int .i64, size := 1, bytes := 8, cmp := false, zero := [.int .i64 0] }
def ty410 : Ty := { u := .array 65 5, size := 65, bytes := 65, cmp := false, zero := [.int .u8 0, .int .u8 0, .int .u8 0, .int .u8 0, .int .u8 0, .int .u8 0, .int .u8 0, .int .u8 0, .int .u8 0, .int .u8 0, .int .u8 0, .int .u8 0, .int .u8 0, .int .u8 0, .int .u8 0, .int .u8 0, .int .u8 0, .int .u8 0, .int .u8 0, .int .u8 0, .int .u8 0, .int .u8 0, .int .u8 0, .int .u8 0, .int .u8 0, .int .u8 0, .int .u8 0, .int .u8 0, .int .u8 0, .int .u8 0, .int .u8 0, .int .u8 0, .int .u8 0, .int .u8 0, .int .u8 0, .int .u8 0, .int .u8 0, .int .u8 0, .int .u8 0, .int .u8 0, .int .u8 0, .int .u8 0, .int .u8 0, .int .u8 0, .int .u8 0, .int .u8 0, .int .u8 0, .int .u8 0, .int .u8 0, .int .u8 0, .int .u8 0, .int .u8 0, .int .u8 0, .int .u8 0, .int .u8 0, .int .u8 0, .int .u8 0, .int .u8 0, .int .u8 0, .int .u8 0, .int .u8 0, .int .u8 0, .int .u8 0, .int .u8 0, .int .u8 0] }
def tys : Tree Ty := (.node (.node (.node (.node (.node (.node (.node .nil 2 (ty2) .nil) 3 (ty3) .nil) 4 (ty4) (.node (.node .nil 5 (ty5) .nil) 9 (ty9) .nil)) 22 (ty22) (.node (.node (.node .nil 23 (ty23) .nil) 24 (ty24) .nil) 25 (ty25) (.node (.node .nil 26 (ty26) .nil) 28 (ty28) .nil))) 29 (ty29) (.node (.node (.node (.node .nil 30 (ty30) .nil) 31 (ty31) .nil) 33 (ty33) (.node (.node .nil 34 (ty34) .nil) 35 (ty35) .nil)) 37 (ty37) (.node (.node (.node .nil 38 (ty38) .nil) 40 (ty40) .nil) 42 (ty42) (.node .nil 43 (ty43) .nil)))) 46 (ty46) (.node (.node (.node (.node (.node .nil 47 (ty47) .nil) 49 (ty49) .nil) 50 (ty50) (.node (.node .nil 53 (ty53) .nil) 55 (ty55) .nil)) 60 (ty60) (.node (.node (.node .nil 64 (ty64) .nil) 65 (ty65) .nil) 67 (ty67) (.node .nil 70 (ty70) .nil))) 73 (ty73) (.node (.node (.node (.node .nil 76 (ty76) .nil) 77 (ty77) .nil) 80 (ty80) (.node (.node .nil 82 (ty82) .nil) 89 (ty89) .nil)) 90 (ty90) (.node (.node (.node .nil 92 (ty92) .nil) 93 (ty93) .nil) 95 (ty95) (.node .nil 99 (ty99) .nil))))) 101 (ty101) (.node (.node (.node (.node (.node (.node .nil 107 (ty107) .nil) 117 (ty117) .nil) 124 (ty124) (.node (.node .nil 136 (ty136) .nil) 141 (ty141) .nil)) 150 (ty150) (.node (.node (.node .nil 152 (ty152) .nil) 155 (ty155) .nil) 157 (ty157) (.node (.node .nil 160 (ty160) .nil) 164 (ty164) .nil))) 166 (ty166) (.node (.node (.node (.node .nil 168 (ty168) .nil) 170 (ty170) .nil) 178 (ty178) (.node (.node .nil 180 (ty180) .nil) 189 (ty189) .nil)) 198 (ty198) (.node (.node (.node .nil 200 (ty200) .nil) 204 (ty204) .nil) 208 (ty208) (.node .nil 210 (ty210) .nil)))) 214 (ty214) (.node (.node (.node (.node (.node .nil 215 (ty215) .nil) 227 (ty227) .nil) 237 (ty237) (.node (.node .nil 240 (ty240) .nil) 242 (ty242) .nil)) 245 (ty245) (.node (.node (.node .nil 247 (ty247) .nil) 251 (ty251) .nil) 275 (ty275) (.node .nil 283 (ty283) .nil))) 288 (ty288) (.node (.node (.node (.node .nil 314 (ty314) .nil) 337 (ty337) .nil) 340 (ty340) (.node (.node .nil 344 (ty344) .nil) 346 (ty346) .nil)) 350 (ty350) (.node (.node (.node .nil 351 (ty351) .nil) 391 (ty391) .nil) 401 (ty401) (.node .nil 410 (ty410) .nil))))))
noncomputable def fun6 : Fun := { fn := Tryz.f6, mask := 7, keep := false, prim := none }
noncomputable def fun9 : Fun := { fn := Tryz.f9, mask := 35184372091469, keep := false, prim := none }
noncomputable def fun10 : Fun := { fn := Tryz.f10, mask := 281479271710975, keep := false, prim := none }
noncomputable def fun11 : Fun := { fn := Tryz.f11, mask := 7, keep := false, prim := none }
noncomputable def fun12 : Fun := { fn := Tryz.f12, mask := 8796093286397, keep := false, prim := none }
noncomputable def fun13 : Fun := { fn := Tryz.f13, mask := 19808249554385699031857790975, keep := false, prim := none }
noncomputable def fun18 : Fun := { fn := Tryz.f18, mask := 8864829278711, keep := false, prim := none }
noncomputable def fun19 : Fun := { fn := Tryz.f19, mask := 138478519, keep := false, prim := none }
noncomputable def fun20 : Fun := { fn := Tryz.f20, mask := 43282986612756070113897410875122319359, keep := false, prim := none }
noncomputable def fun21 : Fun := { fn := Tryz.f21, mask := 2105007, keep := false, prim := none }
noncomputable def fun22 : Fun := { fn := Tryz.f22, mask := 9224506733391652861, keep := false, prim := none }
noncomputable def fun23 : Fun := { fn := Tryz.f23, mask := 4432473883133, keep := false, prim := none }
noncomputable def fun25 : Fun := { fn := Tryz.f25, mask := 19342850151455133005856767, keep := false, prim := none }
noncomputable def fun26 : Fun := { fn := Tryz.f26, mask := 316913254556860716756833993695, keep := false, prim := none }
noncomputable def fun27 : Fun := { fn := Tryz.f27, mask := 275, keep := false, prim := none }
noncomputable def fun28 : Fun := { fn := Tryz.f28, mask := 11, keep := false, prim := none }
noncomputable def fun29 : Fun := { fn := Tryz.f29, mask := 8934607822903, keep := false, prim := none }
noncomputable def fun42 : Fun := { fn := Tryz.f42, mask := 17184194575, keep := false, prim := none }
noncomputable def fun43 : Fun := { fn := Tryz.f43, mask := 68723687231, keep := true, prim := none }
noncomputable def fun44 : Fun := { fn := Tryz.f44, mask := 4504699140047487, keep := false, prim := none }
noncomputable def fun45 : Fun := { fn := Tryz.f45, mask := 479, keep := false, prim := none }
noncomputable def fun46 : Fun := { fn := Tryz.f46, mask := 9223372036871623167, keep := false, prim := none }
noncomputable def fun47 : Fun := { fn := Tryz.f47, mask := 4215, keep := false, prim := none }
noncomputable def fun48 : Fun := { fn := Tryz.f48, mask := 623, keep := true, prim := none }
noncomputable def fun49 : Fun := { fn := Tryz.f49, mask := 140738563147983, keep := true, prim := none }
noncomputable def fun50 : Fun := { fn := Tryz.f50, mask := 7, keep := false, prim := none }
noncomputable def fun51 : Fun := { fn := Tryz.f51, mask := 40953575029616206113996799, keep := false, prim := none }
noncomputable def fun52 : Fun := { fn := Tryz.f52, mask := 37086407215374335, keep := false, prim := none }
noncomputable def fun53 : Fun := { fn := Tryz.f53, mask := 19, keep := false, prim := none }
noncomputable def fun55 : Fun := { fn := Tryz.f55, mask := 33587517, keep := false, prim := none }
noncomputable def fun56 : Fun := { fn := Tryz.f56, mask := 4101, keep := false, prim := none }
noncomputable def fun57 : Fun := { fn := Tryz.f57, mask := 21853, keep := false, prim := none }
noncomputable def fun58 : Fun := { fn := Tryz.f58, mask := 37396817117309, keep := false, prim := none }
noncomputable def fun59 : Fun := { fn := Tryz.f59, mask := 51, keep := false, prim := none }
noncomputable def fun60 : Fun := { fn := Tryz.f60, mask := 40536831200067837, keep := false, prim := none }
noncomputable def fun61 : Fun := { fn := Tryz.f61, mask := 72128100255664255, keep := false, prim := none }
noncomputable def fun62 : Fun := { fn := Tryz.f62, mask := 1242795222330225588904675325, keep := false, prim := none }
noncomputable def fun63 : Fun := { fn := Tryz.f63, mask := 1237940043933112819970491391, keep := false, prim := none }
noncomputable def fun64 : Fun := { fn := Tryz.f64, mask := 1053, keep := false, prim := none }
noncomputable def fun65 : Fun := { fn := Tryz.f65, mask := 151115745466229840684019, keep := false, prim := none }
noncomputable def fun66 : Fun := { fn := Tryz.f66, mask := 262707, keep := false, prim := none }
noncomputable def fun67 : Fun := { fn := Tryz.f67, mask := 18191, keep := true, prim := none }
noncomputable def fun68 : Fun := { fn := Tryz.f68, mask := 365376106316094180278949616271352870286206697499, keep := false, prim := none }
noncomputable def fun85 : Fun := { fn := Tryz.f85, mask := 95827739445721067874190659254502973333984266632037375, keep := false, prim := none }
noncomputable def fun86 : Fun := { fn := Tryz.f86, mask := 348794743007212715313826391199890521722863, keep := false, prim := none }
noncomputable def fun87 : Fun := { fn := Tryz.f87, mask := 12259964349774246101165194645239424850975965214878597119, keep := false, prim := none }
noncomputable def fun88 : Fun := { fn := Tryz.f88, mask := 9071038046463, keep := false, prim := none }
noncomputable def fun89 : Fun := { fn := Tryz.f89, mask := 10633824283312870803151638865622599647, keep := false, prim := none }
noncomputable def fun90 : Fun := { fn := Tryz.f90, mask := 13215461614728367217751695970865548304603543200842114553566203007, keep := false, prim := none }
noncomputable def fun91 : Fun := { fn := Tryz.f91, mask := 1048607, keep := false, prim := none }
noncomputable def fun92 : Fun := { fn := Tryz.f92, mask := 6434029281764525972148499167221040878727244754944919609542655, keep := false, prim := none }
noncomputable def fun93 : Fun := { fn := Tryz.f93, mask := 576460753379335951, keep := false, prim := none }
noncomputable def fun94 : Fun := { fn := Tryz.f94, mask := 9302967882613055, keep := false, prim := none }
noncomputable def fun95 : Fun := { fn := Tryz.f95, mask := 131635, keep := false, prim := none }
noncomputable def fun96 : Fun := { fn := Tryz.f96, mask := 77371547675299043809952719, keep := false, prim := none }
noncomputable def fun97 : Fun := { fn := Tryz.f97, mask := 9223389645163727807, keep := false, prim := none }
noncomputable def fun98 : Fun := { fn := Tryz.f98, mask := 79, keep := false, prim := none }
noncomputable def fun99 : Fun := { fn := Tryz.f99, mask := 2417851783344448572752095, keep := false, prim := none }
noncomputable def fun100 : Fun := { fn := Tryz.f100, mask := 7231, keep := false, prim := none }
noncomputable def fun101 : Fun := { fn := Tryz.f101, mask := 18463641368405213903, keep := false, prim := none }
noncomputable def fun102 : Fun := { fn := Tryz.f102, mask := 127, keep := false, prim := none }
noncomputable def fun103 : Fun := { fn := Tryz.f103, mask := 2475880648186041451831757567, keep := false, prim := none }
noncomputable def fun104 : Fun := { fn := Tryz.f104, mask := 7, keep := false, prim := none }
noncomputable def fun105 : Fun := { fn := Tryz.f105, mask := 127, keep := false, prim := none }
noncomputable def fun106 : Fun := { fn := Tryz.f106, mask := 2270491528167423, keep := false, prim := none }
noncomputable def fun107 : Fun := { fn := Tryz.f107, mask := 2954892465099842490915138798468358981925535743, keep := false, prim := none }
noncomputable def fun108 : Fun := { fn := Tryz.f108, mask := 1125908631781503, keep := false, prim := none }
noncomputable def fun109 : Fun := { fn := Tryz.f109, mask := 5508284103923639383255319264801237402987617783, keep := false, prim := none }
noncomputable def fun110 : Fun := { fn := Tryz.f110, mask := 9241386564217587711, keep := false, prim := none }
noncomputable def fun111 : Fun := { fn := Tryz.f111, mask := 19, keep := false, prim := none }
noncomputable def fun112 : Fun := { fn := Tryz.f112, mask := 19, keep := false, prim := none }
noncomputable def fun113 : Fun := { fn := Tryz.f113, mask := 5, keep := false, prim := none }
noncomputable def fun114 : Fun := { fn := Tryz.f114, mask := 35500589085, keep := false, prim := none }
noncomputable def fun115 : Fun := { fn := Tryz.f115, mask := 5, keep := false, prim := none }
noncomputable def fun116 : Fun := { fn := Tryz.f116, mask := 1125908496810045, keep := false, prim := none }
noncomputable def fun117 : Fun := { fn := Tryz.f117, mask := 262565, keep := false, prim := none }
noncomputable def fun118 : Fun := { fn := Tryz.f118, mask := 541, keep := false, prim := none }
noncomputable def fun119 : Fun := { fn := Tryz.f119, mask := 328307, keep := false, prim := none }
noncomputable def fun120 : Fun := { fn := Tryz.f120, mask := 1574131, keep := false, prim := none }
noncomputable def fun121 : Fun := { fn := Tryz.f121, mask := 275, keep := false, prim := none }
noncomputable def fun122 : Fun := { fn := Tryz.f122, mask := 529021, keep := false, prim := none }
noncomputable def fun123 : Fun := { fn := Tryz.f123, mask := 1125902054326279, keep := false, prim := none }
noncomputable def fun124 : Fun := { fn := Tryz.f124, mask := 4330618893, keep := false, prim := none }
noncomputable def fun125 : Fun := { fn := Tryz.f125, mask := 32909, keep := false, prim := none }
noncomputable def fun126 : Fun := { fn := Tryz.f126, mask := 262707, keep := false, prim := none }
noncomputable def fun127 : Fun := { fn := Tryz.f127, mask := 262707, keep := false, prim := none }
noncomputable def fun128 : Fun := { fn := Tryz.f128, mask := 131635, keep := false, prim := none }
noncomputable def fun129 : Fun := { fn := Tryz.f129, mask := 14474012017383023515249485065460760621927424225494418519668988771800801378299, keep := false, prim := none }
noncomputable def fun130 : Fun := { fn := Tryz.f130, mask := 36893488147419136123, keep := false, prim := none }
noncomputable def fun132 : Fun := { fn := Tryz.f132, mask := 1119, keep := false, prim := none }
noncomputable def fun134 : Fun := { fn := Tryz.f134, mask := 20282409606012871684182924853463, keep := false, prim := none }
noncomputable def fun139 : Fun := { fn := Tryz.f139, mask := 71, keep := true, prim := none }
noncomputable def fun143 : Fun := { fn := Tryz.f143, mask := 4605278686335, keep := false, prim := none }
noncomputable def fun146 : Fun := { fn := Tryz.f146, mask := 35315368591455, keep := false, prim := none }
noncomputable def fun147 : Fun := { fn := Tryz.f147, mask := 19, keep := false, prim := none }
noncomputable def fun148 : Fun := { fn := Tryz.f148, mask := 606826398900554784047567, keep := false, prim := none }
noncomputable def fun154 : Fun := { fn := Tryz.f154, mask := 332312079452150195464880550324504575, keep := false, prim := none }
noncomputable def fun155 : Fun := { fn := Tryz.f155, mask := 11161304336780981658631819976322344575566047, keep := false, prim := none }
noncomputable def fun156 : Fun := { fn := Tryz.f156, mask := 4362601011, keep := false, prim := none }
noncomputable def fun157 : Fun := { fn := Tryz.f157, mask := 19, keep := false, prim := none }
noncomputable def fun158 : Fun := { fn := Tryz.f158, mask := 829180818552508142370930303613581122868418894632663968482586879, keep := false, prim := none }
noncomputable def fun159 : Fun := { fn := Tryz.f159, mask := 2097183, keep := true, prim := none }
noncomputable def fun160 : Fun := { fn := Tryz.f160, mask := 1182933510117985879039, keep := false, prim := none }
noncomputable def fun161 : Fun := { fn := Tryz.f161, mask := 158456325028530997355645763711, keep := false, prim := none }
noncomputable def fun162 : Fun := { fn := Tryz.f162, mask := 1037, keep := false, prim := none }
noncomputable def fun163 : Fun := { fn := Tryz.f163, mask := 1099578740959, keep := false, prim := none }
noncomputable def fun164 : Fun := { fn := Tryz.f164, mask := 2147484735, keep := false, prim := none }
noncomputable def fun165 : Fun := { fn := Tryz.f165, mask := 19, keep := false, prim := none }
noncomputable def fun166 : Fun := { fn := Tryz.f166, mask := 606826398900554784047567, keep := false, prim := none }
noncomputable def fun167 : Fun := { fn := Tryz.f167, mask := 31, keep := false, prim := none }
noncomputable def fun168 : Fun := { fn := Tryz.f168, mask := 19, keep := false, prim := none }
noncomputable def fun169 : Fun := { fn := Tryz.f169, mask := 1099511628339, keep := false, prim := none }
noncomputable def fun170 : Fun := { fn := Tryz.f170, mask := 18889470444974887141823, keep := false, prim := none }
noncomputable def fun171 : Fun := { fn := Tryz.f171, mask := 2596148777438049903812084076904959, keep := false, prim := none }
noncomputable def fun172 : Fun := { fn := Tryz.f172, mask := 19, keep := false, prim := none }
noncomputable def fun173 : Fun := { fn := Tryz.f173, mask := 127, keep := false, prim := none }
noncomputable def fun174 : Fun := { fn := Tryz.f174, mask := 309637306140417614782923263, keep := false, prim := none }
noncomputable def fun175 : Fun := { fn := Tryz.f175, mask := 324518867979139826586741578400767, keep := false, prim := none }
noncomputable def fun176 : Fun := { fn := Tryz.f176, mask := 262263, keep := false, prim := none }
noncomputable def fun177 : Fun := { fn := Tryz.f177, mask := 772424076352653274097095092108232752774234854811365887, keep := false, prim := none }
noncomputable def fun178 : Fun := { fn := Tryz.f178, mask := 67109327, keep := false, prim := none }
noncomputable def fun180 : Fun := { fn := Tryz.f180, mask := 1238093369775042453301102031, keep := false, prim := none }
noncomputable def fun181 : Fun := { fn := Tryz.f181, mask := 4196311, keep := false, prim := none }
noncomputable def fun182 : Fun := { fn := Tryz.f182, mask := 63, keep := false, prim := none }
noncomputable def fun183 : Fun := { fn := Tryz.f183, mask := 137506128175, keep := false, prim := none }
noncomputable def fun184 : Fun := { fn := Tryz.f184, mask := 21, keep := true, prim := some (.clone 1 8) }
noncomputable def fun185 : Fun := { fn := Tryz.f185, mask := 36051629065113551, keep := false, prim := none }
noncomputable def fun186 : Fun := { fn := Tryz.f186, mask := 983087, keep := false, prim := none }
noncomputable def fun187 : Fun := { fn := Tryz.f187, mask := 7725, keep := false, prim := none }
noncomputable def fun188 : Fun := { fn := Tryz.f188, mask := 332306998946231919705005790102318975, keep := false, prim := none }
noncomputable def fun189 : Fun := { fn := Tryz.f189, mask := 31, keep := false, prim := none }
noncomputable def fun190 : Fun := { fn := Tryz.f190, mask := 16863, keep := false, prim := none }
noncomputable def fun191 : Fun := { fn := Tryz.f191, mask := 137454944735, keep := false, prim := none }
noncomputable def fun192 : Fun := { fn := Tryz.f192, mask := 21, keep := true, prim := some (.clone 2 16) }
noncomputable def fun193 : Fun := { fn := Tryz.f193, mask := 21, keep := true, prim := some (.clone 1 1) }
noncomputable def fun194 : Fun := { fn := Tryz.f194, mask := 633825300270344703797589335871, keep := false, prim := none }
noncomputable def fun195 : Fun := { fn := Tryz.f195, mask := 66483, keep := false, prim := none }
noncomputable def fun198 : Fun := { fn := Tryz.f198, mask := 19, keep := false, prim := none }
noncomputable def fun199 : Fun := { fn := Tryz.f199, mask := 3, keep := false, prim := none }
noncomputable def fun200 : Fun := { fn := Tryz.f200, mask := 11, keep := false, prim := none }
noncomputable def fun201 : Fun := { fn := Tryz.f201, mask := 19, keep := false, prim := none }
noncomputable def fun202 : Fun := { fn := Tryz.f202, mask := 2293, keep := false, prim := none }
noncomputable def fun203 : Fun := { fn := Tryz.f203, mask := 2149585011, keep := false, prim := none }
noncomputable def fun204 : Fun := { fn := Tryz.f204, mask := 526461, keep := false, prim := none }
noncomputable def fun205 : Fun := { fn := Tryz.f205, mask := 8606909437, keep := false, prim := none }
noncomputable def fun206 : Fun := { fn := Tryz.f206, mask := 5, keep := false, prim := none }
noncomputable def fun207 : Fun := { fn := Tryz.f207, mask := 131613, keep := false, prim := none }
noncomputable def fun208 : Fun := { fn := Tryz.f208, mask := 5, keep := false, prim := none }
noncomputable def fun209 : Fun := { fn := Tryz.f209, mask := 182687706027492332498828539273953093013162958911, keep := false, prim := none }
noncomputable def fun210 : Fun := { fn := Tryz.f210, mask := 70368744310543, keep := false, prim := none }
noncomputable def fun211 : Fun := { fn := Tryz.f211, mask := 83, keep := false, prim := none }
noncomputable def fun212 : Fun := { fn := Tryz.f212, mask := 33688639, keep := false, prim := none }
noncomputable def fun213 : Fun := { fn := Tryz.f213, mask := 4196847, keep := false, prim := none }
noncomputable def fun214 : Fun := { fn := Tryz.f214, mask := 13, keep := false, prim := none }
noncomputable def fun215 : Fun := { fn := Tryz.f215, mask := 1049655, keep := false, prim := none }
noncomputable def fun220 : Fun := { fn := Tryz.f220, mask := 2247, keep := true, prim := none }
noncomputable def fun222 : Fun := { fn := Tryz.f222, mask := 5868843906288553182383292937158044313155908148351, keep := false, prim := none }
noncomputable def fun252 : Fun := { fn := Tryz.f252, mask := 5, keep := false, prim := none }
noncomputable def fun253 : Fun := { fn := Tryz.f253, mask := 1048607, keep := true, prim := none }
noncomputable def fun254 : Fun := { fn := Tryz.f254, mask := 8390899, keep := false, prim := none }
noncomputable def fun257 : Fun := { fn := Tryz.f257, mask := 262175, keep := true, prim := none }
noncomputable def fun258 : Fun := { fn := Tryz.f258, mask := 9904163146420522906957187071, keep := true, prim := none }
noncomputable def fun260 : Fun := { fn := Tryz.f260, mask := 31, keep := false, prim := none }
noncomputable def fun261 : Fun := { fn := Tryz.f261, mask := 30783, keep := true, prim := none }
noncomputable def fun265 : Fun := { fn := Tryz.f265, mask := 463, keep := false, prim := none }
noncomputable def fun266 : Fun := { fn := Tryz.f266, mask := 29, keep := false, prim := none }
noncomputable def fun267 : Fun := { fn := Tryz.f267, mask := 21, keep := true, prim := some (.clone 3 24) }
noncomputable def fun268 : Fun := { fn := Tryz.f268, mask := 95, keep := false, prim := none }
noncomputable def fun269 : Fun := { fn := Tryz.f269, mask := 95, keep := false, prim := none }
noncomputable def fun270 : Fun := { fn := Tryz.f270, mask := 0, keep := false, prim := some .indexByteString }
noncomputable def fun271 : Fun := { fn := Tryz.f271, mask := 8211, keep := false, prim := none }
noncomputable def fun275 : Fun := { fn := Tryz.f275, mask := 131527, keep := false, prim := none }
noncomputable def fun276 : Fun := { fn := Tryz.f276, mask := 563501857374451, keep := false, prim := none }
noncomputable def fun277 : Fun := { fn := Tryz.f277, mask := 2863311549, keep := false, prim := none }
noncomputable def fun278 : Fun := { fn := Tryz.f278, mask := 1, keep := false, prim := none }
noncomputable def fun280 : Fun := { fn := Tryz.f280, mask := 18483898770635358239, keep := false, prim := none }
noncomputable def fun281 : Fun := { fn := Tryz.f281, mask := 7, keep := false, prim := none }
noncomputable def fun282 : Fun := { fn := Tryz.f282, mask := 99132251962343631, keep := false, prim := none }
noncomputable def fun283 : Fun := { fn := Tryz.f283, mask := 8703, keep := false, prim := none }
noncomputable def fun284 : Fun := { fn := Tryz.f284, mask := 8590200303, keep := false, prim := none }
noncomputable def fun295 : Fun := { fn := Tryz.f295, mask := 5575, keep := true, prim := none }
noncomputable def fun308 : Fun := { fn := Tryz.f308, mask := 4295229555, keep := false, prim := none }
noncomputable def fun310 : Fun := { fn := Tryz.f310, mask := 261, keep := false, prim := none }
noncomputable def fun311 : Fun := { fn := Tryz.f311, mask := 9690595855641090246329287, keep := false, prim := none }
noncomputable def fun313 : Fun := { fn := Tryz.f313, mask := 7, keep := false, prim := none }
noncomputable def fun317 : Fun := { fn := Tryz.f317, mask := 594912002450663878599, keep := false, prim := none }
noncomputable def fun319 : Fun := { fn := Tryz.f319, mask := 13, keep := false, prim := none }
noncomputable def fun322 : Fun := { fn := Tryz.f322, mask := 32819, keep := false, prim := none }
noncomputable def fun323 : Fun := { fn := Tryz.f323, mask := 51, keep := false, prim := none }
noncomputable def fun324 : Fun := { fn := Tryz.f324, mask := 32819, keep := false, prim := none }
noncomputable def fun327 : Fun := { fn := Tryz.f327, mask := 132109, keep := false, prim := none }
noncomputable def fun341 : Fun := { fn := Tryz.f341, mask := 20426010943356750102455122975, keep := true, prim := none }
noncomputable def fun348 : Fun := { fn := Tryz.f348, mask := 749019592093908130998168547243562859198691857383367, keep := false, prim := none }
noncomputable def fun353 : Fun := { fn := Tryz.f353, mask := 72339071195682803, keep := false, prim := none }
noncomputable def fun359 : Fun := { fn := Tryz.f359, mask := 5, keep := false, prim := none }
noncomputable def fun369 : Fun := { fn := Tryz.f369, mask := 8407165, keep := false, prim := none }
noncomputable def fun370 : Fun := { fn := Tryz.f370, mask := 2101491, keep := false, prim := none }
noncomputable def fun374 : Fun := { fn := Tryz.f374, mask := 9224502335110254589, keep := false, prim := none }
noncomputable def fun375 : Fun := { fn := Tryz.f375, mask := 715827901, keep := false, prim := none }
def gl1 : List T := [T.str [118, 97, 114], T.str [118, 111, 108, 97, 116, 105, 108, 101], T.str [109, 117, 116, 101, 120], T.str [114, 119, 108, 111, 99, 107], T.str [99, 111, 110, 100], T.str [102, 117, 116, 117, 114, 101], T.str [116, 104, 114, 101, 97, 100], T.str [105, 102], T.str [101, 108, 115, 101], T.str [119, 104, 105, 108, 101], T.str [108, 111, 99, 107], T.str [114, 101, 97, 100], T.str [119, 114, 105, 116, 101], T.str [116, 114, 97, 110, 115, 97, 99, 116, 105, 111, 110], T.str [97, 116, 111, 109, 105, 99], T.str [119, 97, 105, 116], T.str [110, 111, 116, 105, 102, 121], T.str [110, 111, 116, 105, 102, 121, 97, 108, 108], T.str [115, 112, 97, 119, 110], T.str [106, 111, 105, 110], T.str [115, 101, 116], T.str [103, 101, 116]]
def gls : Tree (List T) := (.node .nil 1 (gl1) .nil)
noncomputable def cx : Ctx := { ty := fun t => tys.find t, fn := fun _ => none, gl := fun g => gls.find g }
theorem mixed : Tryz.prog.follows .mixedOrders = true := by kernel_rfl
theorem tyOk2 : tyOf Tryz.prog 2 ty2.cmp = some ty2 := by kernel_rfl
theorem tyOk3 : tyOf Tryz.prog 3 ty3.cmp = some ty3 := by kernel_rfl
theorem tyOk4 : tyOf Tryz.prog 4 ty4.cmp = some ty4 := by kernel_rfl
theorem tyOk5 : tyOf Tryz.prog 5 ty5.cmp = some ty5 := by kernel_rfl
theorem tyOk9 : tyOf Tryz.prog 9 ty9.cmp = some ty9 := by kernel_rfl
theorem tyOk22 : tyOf Tryz.prog 22 ty22.cmp = some ty22 := by kernel_rfl
theorem tyOk23 : tyOf Tryz.prog 23 ty23.cmp = some ty23 := by kernel_rfl
theorem tyOk24 : tyOf Tryz.prog 24 ty24.cmp = some ty24 := by kernel_rfl
theorem tyOk25 : tyOf Tryz.prog 25 ty25.cmp = some ty25 := by kernel_rfl
theorem tyOk26 : tyOf Tryz.prog 26 ty26.cmp = some ty26 := by kernel_rfl
theorem tyOk28 : tyOf Tryz.prog 28 ty28.cmp = some ty28 := by kernel_rfl
theorem tyOk29 : tyOf Tryz.prog 29 ty29.cmp = some ty29 := by kernel_rfl
theorem tyOk30 : tyOf Tryz.prog 30 ty30.cmp = some ty30 := by kernel_rfl
theorem tyOk31 : tyOf Tryz.prog 31 ty31.cmp = some ty31 := by kernel_rfl
theorem tyOk33 : tyOf Tryz.prog 33 ty33.cmp = some ty33 := by kernel_rfl
theorem tyOk34 : tyOf Tryz.prog 34 ty34.cmp = some ty34 := by kernel_rfl
theorem tyOk35 : tyOf Tryz.prog 35 ty35.cmp = some ty35 := by kernel_rfl
theorem tyOk37 : tyOf Tryz.prog 37 ty37.cmp = some ty37 := by kernel_rfl
theorem tyOk38 : tyOf Tryz.prog 38 ty38.cmp = some ty38 := by kernel_rfl
theorem tyOk40 : tyOf Tryz.prog 40 ty40.cmp = some ty40 := by kernel_rfl
theorem tyOk42 : tyOf Tryz.prog 42 ty42.cmp = some ty42 := by kernel_rfl
theorem tyOk43 : tyOf Tryz.prog 43 ty43.cmp = some ty43 := by kernel_rfl
theorem tyOk46 : tyOf Tryz.prog 46 ty46.cmp = some ty46 := by kernel_rfl
theorem tyOk47 : tyOf Tryz.prog 47 ty47.cmp = some ty47 := by kernel_rfl
theorem tyOk49 : tyOf Tryz.prog 49 ty49.cmp = some ty49 := by kernel_rfl
theorem tyOk50 : tyOf Tryz.prog 50 ty50.cmp = some ty50 := by kernel_rfl
theorem tyOk53 : tyOf Tryz.prog 53 ty53.cmp = some ty53 := by kernel_rfl
theorem tyOk55 : tyOf Tryz.prog 55 ty55.cmp = some ty55 := by kernel_rfl
theorem tyOk60 : tyOf Tryz.prog 60 ty60.cmp = some ty60 := by kernel_rfl
theorem tyOk64 : tyOf Tryz.prog 64 ty64.cmp = some ty64 := by kernel_rfl
theorem tyOk65 : tyOf Tryz.prog 65 ty65.cmp = some ty65 := by kernel_rfl
theorem tyOk67 : tyOf Tryz.prog 67 ty67.cmp = some ty67 := by kernel_rfl
theorem tyOk70 : tyOf Tryz.prog 70 ty70.cmp = some ty70 := by kernel_rfl
theorem tyOk73 : tyOf Tryz.prog 73 ty73.cmp = some ty73 := by kernel_rfl
theorem tyOk76 : tyOf Tryz.prog 76 ty76.cmp = some ty76 := by kernel_rfl
theorem tyOk77 : tyOf Tryz.prog 77 ty77.cmp = some ty77 := by kernel_rfl
theorem tyOk80 : tyOf Tryz.prog 80 ty80.cmp = some ty80 := by kernel_rfl
theorem tyOk82 : tyOf Tryz.prog 82 ty82.cmp = some ty82 := by kernel_rfl
theorem tyOk89 : tyOf Tryz.prog 89 ty89.cmp = some ty89 := by kernel_rfl
theorem tyOk90 : tyOf Tryz.prog 90 ty90.cmp = some ty90 := by kernel_rfl
theorem tyOk92 : tyOf Tryz.prog 92 ty92.cmp = some ty92 := by kernel_rfl
theorem tyOk93 : tyOf Tryz.prog 93 ty93.cmp = some ty93 := by kernel_rfl
theorem tyOk95 : tyOf Tryz.prog 95 ty95.cmp = some ty95 := by kernel_rfl
theorem tyOk99 : tyOf Tryz.prog 99 ty99.cmp = some ty99 := by kernel_rfl
theorem tyOk101 : tyOf Tryz.prog 101 ty101.cmp = some ty101 := by kernel_rfl
theorem tyOk107 : tyOf Tryz.prog 107 ty107.cmp = some ty107 := by kernel_rfl
theorem tyOk117 : tyOf Tryz.prog 117 ty117.cmp = some ty117 := by kernel_rfl
theorem tyOk124 : tyOf Tryz.prog 124 ty124.cmp = some ty124 := by kernel_rfl
theorem tyOk136 : tyOf Tryz.prog 136 ty136.cmp = some ty136 := by kernel_rfl
theorem tyOk141 : tyOf Tryz.prog 141 ty141.cmp = some ty141 := by kernel_rfl
theorem tyOk150 : tyOf Tryz.prog 150 ty150.cmp = some ty150 := by kernel_rfl
theorem tyOk152 : tyOf Tryz.prog 152 ty152.cmp = some ty152 := by kernel_rfl
theorem tyOk155 : tyOf Tryz.prog 155 ty155.cmp = some ty155 := by kernel_rfl
theorem tyOk157 : tyOf Tryz.prog 157 ty157.cmp = some ty157 := by kernel_rfl
theorem tyOk160 : tyOf Tryz.prog 160 ty160.cmp = some ty160 := by kernel_rfl
theorem tyOk164 : tyOf Tryz.prog 164 ty164.cmp = some ty164 := by kernel_rfl
theorem tyOk166 : tyOf Tryz.prog 166 ty166.cmp = some ty166 := by kernel_rfl
theorem tyOk168 : tyOf Tryz.prog 168 ty168.cmp = some ty168 := by kernel_rfl
theorem tyOk170 : tyOf Tryz.prog 170 ty170.cmp = some ty170 := by kernel_rfl
theorem tyOk178 : tyOf Tryz.prog 178 ty178.cmp = some ty178 := by kernel_rfl
theorem tyOk180 : tyOf Tryz.prog 180 ty180.cmp = some ty180 := by kernel_rfl
theorem tyOk189 : tyOf Tryz.prog 189 ty189.cmp = some ty189 := by kernel_rfl
theorem tyOk198 : tyOf Tryz.prog 198 ty198.cmp = some ty198 := by kernel_rfl
theorem tyOk200 : tyOf Tryz.prog 200 ty200.cmp = some ty200 := by kernel_rfl
theorem tyOk204 : tyOf Tryz.prog 204 ty204.cmp = some ty204 := by kernel_rfl
theorem tyOk208 : tyOf Tryz.prog 208 ty208.cmp = some ty208 := by kernel_rfl
theorem tyOk210 : tyOf Tryz.prog 210 ty210.cmp = some ty210 := by kernel_rfl
theorem tyOk214 : tyOf Tryz.prog 214 ty214.cmp = some ty214 := by kernel_rfl
theorem tyOk215 : tyOf Tryz.prog 215 ty215.cmp = some ty215 := by kernel_rfl
theorem tyOk227 : tyOf Tryz.prog 227 ty227.cmp = some ty227 := by kernel_rfl
theorem tyOk237 : tyOf Tryz.prog 237 ty237.cmp = some ty237 := by kernel_rfl
theorem tyOk240 : tyOf Tryz.prog 240 ty240.cmp = some ty240 := by kernel_rfl
theorem tyOk242 : tyOf Tryz.prog 242 ty242.cmp = some ty242 := by kernel_rfl
theorem tyOk245 : tyOf Tryz.prog 245 ty245.cmp = some ty245 := by kernel_rfl
theorem tyOk247 : tyOf Tryz.prog 247 ty247.cmp = some ty247 := by kernel_rfl
theorem tyOk251 : tyOf Tryz.prog 251 ty251.cmp = some ty251 := by kernel_rfl
theorem tyOk275 : tyOf Tryz.prog 275 ty275.cmp = some ty275 := by kernel_rfl
theorem tyOk283 : tyOf Tryz.prog 283 ty283.cmp = some ty283 := by kernel_rfl
theorem tyOk288 : tyOf Tryz.prog 288 ty288.cmp = some ty288 := by kernel_rfl
theorem tyOk314 : tyOf Tryz.prog 314 ty314.cmp = some ty314 := by kernel_rfl
theorem tyOk337 : tyOf Tryz.prog 337 ty337.cmp = some ty337 := by kernel_rfl
theorem tyOk340 : tyOf Tryz.prog 340 ty340.cmp = some ty340 := by kernel_rfl
theorem tyOk344 : tyOf Tryz.prog 344 ty344.cmp = some ty344 := by kernel_rfl
theorem tyOk346 : tyOf Tryz.prog 346 ty346.cmp = some ty346 := by kernel_rfl
theorem tyOk350 : tyOf Tryz.prog 350 ty350.cmp = some ty350 := by kernel_rfl
theorem tyOk351 : tyOf Tryz.prog 351 ty351.cmp = some ty351 := by kernel_rfl
theorem tyOk391 : tyOf Tryz.prog 391 ty391.cmp = some ty391 := by kernel_rfl
theorem tyOk401 : tyOf Tryz.prog 401 ty401.cmp = some ty401 := by kernel_rfl
theorem tyOk410 : tyOf Tryz.prog 410 ty410.cmp = some ty410 := by kernel_rfl
theorem tysAll : tys.All fun t ty => tyOf Tryz.prog t ty.cmp = some ty := (.node (.node (.node (.node (.node (.node (.node .nil tyOk2 .nil) tyOk3 .nil) tyOk4 (.node (.node .nil tyOk5 .nil) tyOk9 .nil)) tyOk22 (.node (.node (.node .nil tyOk23 .nil) tyOk24 .nil) tyOk25 (.node (.node .nil tyOk26 .nil) tyOk28 .nil))) tyOk29 (.node (.node (.node (.node .nil tyOk30 .nil) tyOk31 .nil) tyOk33 (.node (.node .nil tyOk34 .nil) tyOk35 .nil)) tyOk37 (.node (.node (.node .nil tyOk38 .nil) tyOk40 .nil) tyOk42 (.node .nil tyOk43 .nil)))) tyOk46 (.node (.node (.node (.node (.node .nil tyOk47 .nil) tyOk49 .nil) tyOk50 (.node (.node .nil tyOk53 .nil) tyOk55 .nil)) tyOk60 (.node (.node (.node .nil tyOk64 .nil) tyOk65 .nil) tyOk67 (.node .nil tyOk70 .nil))) tyOk73 (.node (.node (.node (.node .nil tyOk76 .nil) tyOk77 .nil) tyOk80 (.node (.node .nil tyOk82 .nil) tyOk89 .nil)) tyOk90 (.node (.node (.node .nil tyOk92 .nil) tyOk93 .nil) tyOk95 (.node .nil tyOk99 .nil))))) tyOk101 (.node (.node (.node (.node (.node (.node .nil tyOk107 .nil) tyOk117 .nil) tyOk124 (.node (.node .nil tyOk136 .nil) tyOk141 .nil)) tyOk150 (.node (.node (.node .nil tyOk152 .nil) tyOk155 .nil) tyOk157 (.node (.node .nil tyOk160 .nil) tyOk164 .nil))) tyOk166 (.node (.node (.node (.node .nil tyOk168 .nil) tyOk170 .nil) tyOk178 (.node (.node .nil tyOk180 .nil) tyOk189 .nil)) tyOk198 (.node (.node (.node .nil tyOk200 .nil) tyOk204 .nil) tyOk208 (.node .nil tyOk210 .nil)))) tyOk214 (.node (.node (.node (.node (.node .nil tyOk215 .nil) tyOk227 .nil) tyOk237 (.node (.node .nil tyOk240 .nil) tyOk242 .nil)) tyOk245 (.node (.node (.node .nil tyOk247 .nil) tyOk251 .nil) tyOk275 (.node .nil tyOk283 .nil))) tyOk288 (.node (.node (.node (.node .nil tyOk314 .nil) tyOk337 .nil) tyOk340 (.node (.node .nil tyOk344 .nil) tyOk346 .nil)) tyOk350 (.node (.node (.node .nil tyOk351 .nil) tyOk391 .nil) tyOk401 (.node .nil tyOk410 .nil))))))
theorem tysOk : TysOk Tryz.prog cx := ⟨fun t ty h => ⟨_, tysAll.find h⟩⟩
end Go.Proofs.YtemkchpdcgkeiaaGreatDoor
