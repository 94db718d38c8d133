/- The tables. By program (mkdeep.py). -/
import Derived.Test.YtddpfdjgppabhaaGreatDoorTiJ6
set_option linter.unusedSimpArgs false
set_option linter.unusedVariables false
namespace Go.Proofs.YtddpfdjgppabhaaGreatDoor
open Go Go.TI
set_option linter.unusedVariables false
set_option maxRecDepth 100000
def ty2 : Ty := { u := .int .i64, size := 1, bytes := 8, cmp := false, zero := [.int .i64 0] }
def ty3 : Ty := { u := .int .i64, size := 1, bytes := 8, cmp := false, zero := [.int .i64 0] }
def ty4 : Ty := { u := .bool, size := 1, bytes := 1, cmp := false, zero := [.bool false] }
def ty5 : Ty := { u := .int .u8, size := 1, bytes := 1, cmp := false, zero := [.int .u8 0] }
def ty9 : Ty := { u := .str, size := 1, bytes := 16, cmp := false, zero := [.str []] }
def ty21 : Ty := { u := .int .i32, size := 1, bytes := 4, cmp := false, zero := [.int .i32 0] }
def ty22 : Ty := { u := .slice 109, size := 1, bytes := 24, cmp := false, zero := [.tree [] false] }
def ty23 : Ty := { u := .slice 92, size := 1, bytes := 24, cmp := false, zero := [.tree [] false] }
def ty24 : Ty := { u := .slice 90, size := 1, bytes := 24, cmp := false, zero := [.tree [] false] }
def ty25 : Ty := { u := .slice 9, size := 1, bytes := 24, cmp := false, zero := [.tree [] false] }
def ty26 : Ty := { u := .slice 94, size := 1, bytes := 24, cmp := false, zero := [.tree [] false] }
def ty28 : Ty := { u := .struct [(0, 22), (1, 23), (2, 24), (3, 25), (4, 25), (5, 26)], size := 6, bytes := 144, cmp := false, zero := [.tree [] false, .tree [] false, .tree [] false, .tree [] false, .tree [] false, .tree [] false] }
def ty29 : Ty := { u := .slice 46, size := 1, bytes := 24, cmp := false, zero := [.tree [] false] }
def ty31 : Ty := { u := .struct [(0, 28), (6, 29)], size := 7, bytes := 168, cmp := false, zero := [.tree [] false, .tree [] false, .tree [] false, .tree [] false, .tree [] false, .tree [] false, .tree [] false] }
def ty34 : Ty := { u := .slice 64, size := 1, bytes := 24, cmp := false, zero := [.tree [] false] }
def ty36 : Ty := { u := .slice 61, size := 1, bytes := 24, cmp := false, zero := [.tree [] false] }
def ty38 : Ty := { u := .slice 53, size := 1, bytes := 24, cmp := false, zero := [.tree [] false] }
def ty44 : Ty := { u := .slice 96, size := 1, bytes := 24, cmp := false, zero := [.tree [] false] }
def ty46 : Ty := { u := .struct [(0, 3), (1, 44)], size := 2, bytes := 32, cmp := false, zero := [.int .i64 0, .tree [] false] }
def ty48 : Ty := { u := .slice 155, size := 1, bytes := 24, cmp := false, zero := [.tree [] false] }
def ty49 : Ty := { u := .slice 4, size := 1, bytes := 24, cmp := false, zero := [.tree [] false] }
def ty50 : Ty := { u := .slice 157, size := 1, bytes := 24, cmp := false, zero := [.tree [] false] }
def ty52 : Ty := { u := .struct [(0, 48), (1, 3), (2, 49), (3, 50)], size := 4, bytes := 80, cmp := false, zero := [.tree [] false, .int .i64 0, .tree [] false, .tree [] false] }
def ty53 : Ty := { u := .slice 2, size := 1, bytes := 24, cmp := false, zero := [.tree [] false] }
def ty54 : Ty := { u := .slice 160, size := 1, bytes := 24, cmp := false, zero := [.tree [] false] }
def ty56 : Ty := { u := .struct [(0, 52), (4, 53), (5, 53), (6, 54)], size := 7, bytes := 152, cmp := false, zero := [.tree [] false, .int .i64 0, .tree [] false, .tree [] false, .tree [] false, .tree [] false, .tree [] false] }
def ty57 : Ty := { u := .func, size := 1, bytes := 8, cmp := false, zero := [.nilf] }
def ty58 : Ty := { u := .map 64 4, size := 1, bytes := 8, cmp := false, zero := [.nilm] }
def ty59 : Ty := { u := .slice 63, size := 1, bytes := 24, cmp := false, zero := [.tree [] false] }
def ty61 : Ty := { u := .slice 3, size := 1, bytes := 24, cmp := false, zero := [.tree [] false] }
def ty63 : Ty := { u := .struct [(0, 3), (1, 3), (2, 3), (3, 2), (4, 3), (5, 61), (6, 61)], size := 7, bytes := 88, cmp := false, zero := [.int .i64 0, .int .i64 0, .int .i64 0, .int .i64 0, .int .i64 0, .tree [] false, .tree [] false] }
def ty64 : Ty := { u := .array 2 3, size := 2, bytes := 16, cmp := false, zero := [.int .i64 0, .int .i64 0] }
def ty68 : Ty := { u := .func, size := 1, bytes := 8, cmp := false, zero := [.nilf] }
def ty71 : Ty := { u := .func, size := 1, bytes := 8, cmp := false, zero := [.nilf] }
def ty75 : Ty := { u := .func, size := 1, bytes := 8, cmp := false, zero := [.nilf] }
def ty76 : Ty := { u := .slice 180, size := 1, bytes := 24, cmp := false, zero := [.tree [] false] }
def ty77 : Ty := { u := .slice 139, size := 1, bytes := 24, cmp := false, zero := [.tree [] false] }
def ty79 : Ty := { u := .struct [(0, 76), (1, 77)], size := 2, bytes := 48, cmp := false, zero := [.tree [] false, .tree [] false] }
def ty80 : Ty := { u := .int .i64, size := 1, bytes := 8, cmp := false, zero := [.int .i64 0] }
def ty90 : Ty := { u := .struct [(0, 9), (1, 3)], size := 2, bytes := 24, cmp := false, zero := [.str [], .int .i64 0] }
def ty92 : Ty := { u := .struct [(0, 9), (1, 4)], size := 2, bytes := 24, cmp := false, zero := [.str [], .bool false] }
def ty94 : Ty := { u := .struct [(0, 3), (1, 3), (2, 3)], size := 3, bytes := 24, cmp := false, zero := [.int .i64 0, .int .i64 0, .int .i64 0] }
def ty96 : Ty := { u := .struct [(0, 3), (1, 3), (2, 3), (3, 3), (4, 2), (5, 3)], size := 6, bytes := 48, cmp := false, zero := [.int .i64 0, .int .i64 0, .int .i64 0, .int .i64 0, .int .i64 0, .int .i64 0] }
def ty102 : Ty := { u := .slice 56, size := 1, bytes := 24, cmp := false, zero := [.tree [] false] }
def ty103 : Ty := { u := .map 9 4, size := 1, bytes := 8, cmp := false, zero := [.nilm] }
def ty109 : Ty := { u := .struct [(0, 9), (1, 3), (2, 3), (3, 4), (4, 2)], size := 5, bytes := 48, cmp := true, zero := [.str [], .int .i64 0, .int .i64 0, .bool false, .int .i64 0] }
def ty112 : Ty := { u := .func, size := 1, bytes := 8, cmp := false, zero := [.nilf] }
def ty113 : Ty := { u := .func, size := 1, bytes := 8, cmp := false, zero := [.nilf] }
def ty115 : Ty := { u := .func, size := 1, bytes := 8, cmp := false, zero := [.nilf] }
def ty118 : Ty := { u := .func, size := 1, bytes := 8, cmp := false, zero := [.nilf] }
def ty122 : Ty := { u := .func, size := 1, bytes := 8, cmp := false, zero := [.nilf] }
def ty124 : Ty := { u := .slice 175, size := 1, bytes := 24, cmp := false, zero := [.tree [] false] }
def ty127 : Ty := { u := .ptr 129, size := 1, bytes := 8, cmp := false, zero := [.nilp] }
def ty129 : Ty := { u := .struct [(0, 124), (1, 3)], size := 2, bytes := 32, cmp := false, zero := [.tree [] false, .int .i64 0] }
def ty136 : Ty := { u := .ptr 141, size := 1, bytes := 8, cmp := false, zero := [.nilp] }
def ty137 : Ty := { u := .slice 200, size := 1, bytes := 24, cmp := false, zero := [.tree [] false] }
def ty139 : Ty := { u := .struct [(0, 9), (1, 3), (2, 25), (3, 137)], size := 4, bytes := 72, cmp := false, zero := [.str [], .int .i64 0, .tree [] false, .tree [] false] }
def ty141 : Ty := { u := .struct [(0, 28), (6, 25), (7, 44), (8, 3), (9, 3)], size := 10, bytes := 208, cmp := false, zero := [.tree [] false, .tree [] false, .tree [] false, .tree [] false, .tree [] false, .tree [] false, .tree [] false, .tree [] false, .int .i64 0, .int .i64 0] }
def ty149 : Ty := { u := .struct [(0, 3), (1, 3)], size := 2, bytes := 16, cmp := false, zero := [.int .i64 0, .int .i64 0] }
def ty150 : Ty := { u := .slice 5, size := 1, bytes := 24, cmp := false, zero := [.tree [] false] }
def ty152 : Ty := { u := .func, size := 1, bytes := 8, cmp := false, zero := [.nilf] }
def ty155 : Ty := { u := .struct [(0, 3), (1, 61)], size := 2, bytes := 32, cmp := false, zero := [.int .i64 0, .tree [] false] }
def ty157 : Ty := { u := .struct [(0, 3), (1, 3), (2, 4)], size := 3, bytes := 24, cmp := false, zero := [.int .i64 0, .int .i64 0, .bool false] }
def ty158 : Ty := { u := .array 2 53, size := 2, bytes := 48, cmp := false, zero := [.tree [] false, .tree [] false] }
def ty160 : Ty := { u := .struct [(0, 3), (1, 53), (2, 36), (3, 3)], size := 4, bytes := 64, cmp := false, zero := [.int .i64 0, .tree [] false, .tree [] false, .int .i64 0] }
def ty163 : Ty := { u := .int .u64, size := 1, bytes := 8, cmp := false, zero := [.int .u64 0] }
def ty175 : Ty := { u := .struct [(0, 3), (1, 9), (2, 3)], size := 3, bytes := 32, cmp := false, zero := [.int .i64 0, .str [], .int .i64 0] }
def ty180 : Ty := { u := .struct [(0, 3), (1, 3), (2, 9), (3, 3), (4, 2), (5, 9)], size := 6, bytes := 64, cmp := false, zero := [.int .i64 0, .int .i64 0, .str [], .int .i64 0, .int .i64 0, .str []] }
def ty188 : Ty := { u := .ptr 190, size := 1, bytes := 8, cmp := false, zero := [.nilp] }
def ty190 : Ty := { u := .struct [(0, 79), (2, 3), (3, 137), (4, 25), (5, 25)], size := 6, bytes := 128, cmp := false, zero := [.tree [] false, .tree [] false, .int .i64 0, .tree [] false, .tree [] false, .tree [] false] }
def ty196 : Ty := { u := .slice 198, size := 1, bytes := 24, cmp := false, zero := [.tree [] false] }
def ty198 : Ty := { u := .struct [(0, 3), (1, 2), (2, 9), (3, 196)], size := 4, bytes := 56, cmp := false, zero := [.int .i64 0, .int .i64 0, .str [], .tree [] false] }
def ty200 : Ty := { u := .struct [(0, 3), (1, 3), (2, 9), (3, 9), (4, 196), (5, 198), (9, 137), (10, 137)], size := 11, bytes := 176, cmp := false, zero := [.int .i64 0, .int .i64 0, .str [], .str [], .tree [] false, .int .i64 0, .int .i64 0, .str [], .tree [] false, .tree [] false, .tree [] false] }
def ty203 : Ty := { u := .array 29 3, size := 29, bytes := 232, cmp := false, zero := [.int .i64 0, .int .i64 0, .int .i64 0, .int .i64 0, .int .i64 0, .int .i64 0, .int .i64 0, .int .i64 0, .int .i64 0, .int .i64 0, .int .i64 0, .int .i64 0, .int .i64 0, .int .i64 0, .int .i64 0, .int .i64 0, .int .i64 0, .int .i64 0, .int .i64 0, .int .i64 0, .int .i64 0, .int .i64 0, .int .i64 0, .int .i64 0, .int .i64 0, .int .i64 0, .int .i64 0, .int .i64 0, .int .i64 0] }
def ty206 : Ty := { u := .int .i64, size := 1, bytes := 8, cmp := false, zero := [.int .i64 0] }
def ty214 : Ty := { u := .int .u32, size := 1, bytes := 4, cmp := false, zero := [.int .u32 0] }
def ty216 : Ty := { u := .int .u64, size := 1, bytes := 8, cmp := false, zero := [.int .u64 0] }
def ty238 : Ty := { u := .ptr 180, size := 1, bytes := 8, cmp := false, zero := [.nilp] }
def ty256 : Ty := { u := .ptr 160, size := 1, bytes := 8, cmp := false, zero := [.nilp] }
def ty261 : Ty := { u := .int .u64, size := 1, bytes := 8, cmp := false, zero := [.int .u64 0] }
def ty265 : Ty := { u := .ptr 3, size := 1, bytes := 8, cmp := false, zero := [.nilp] }
def ty296 : Ty := { u := .array 24 5, size := 24, bytes := 24, cmp := false, zero := [.int .u8 0, .int .u8 0, .int .u8 0, .int .u8 0, .int .u8 0, .int .u8 0, .int .u8 0, .int .u8 0, .int .u8 0, .int .u8 0, .int .u8 0, .int .u8 0, .int .u8 0, .int .u8 0, .int .u8 0, .int .u8 0, .int .u8 0, .int .u8 0, .int .u8 0, .int .u8 0, .int .u8 0, .int .u8 0, .int .u8 0, .int .u8 0] }
def ty306 : Ty := { u := .array 22 9, size := 22, bytes := 352, cmp := false, zero := [.str [], .str [], .str [], .str [], .str [], .str [], .str [], .str [], .str [], .str [], .str [], .str [], .str [], .str [], .str [], .str [], .str [], .str [], .str [], .str [], .str [], .str []] }
def ty309 : Ty := { u := .array 256 4, size := 256, bytes := 256, cmp := false, zero := [.bool false, .bool false, .bool false, .bool false, .bool false, .bool false, .bool false, .bool false, .bool false, .bool false, .bool false, .bool false, .bool false, .bool false, .bool false, .bool false, .bool false, .bool false, .bool false, .bool false, .bool false, .bool false, .bool false, .bool false, .bool false, .bool false, .bool false, .bool false, .bool false, .bool false, .bool false, .bool false, .bool false, .bool false, .bool false, .bool false, .bool false, .bool false, .bool false, .bool false, .bool false, .bool false, .bool false, .bool false, .bool false, .bool false, .bool false, .bool false, .bool false, .bool false, .bool false, .bool false, .bool false, .bool false, .bool false, .bool false, .bool false, .bool false, .bool false, .bool false, .bool false, .bool false, .bool false, .bool false, .bool false, .bool false, .bool false, .bool false, .bool false, .bool false, .bool false, .bool false, .bool false, .bool false, .bool false, .bool false, .bool false, .bool false, .bool false, .bool false, .bool false, .bool false, .bool false, .bool false, .bool false, .bool false, .bool false, .bool false, .bool false, .bool false, .bool false, .bool false, .bool false, .bool false, .bool false, .bool false, .bool false, .bool false, .bool false, .bool false, .bool false, .bool false, .bool false, .bool false, .bool false, .bool false, .bool false, .bool false, .bool false, .bool false, .bool false, .bool false, .bool false, .bool false, .bool false, .bool false, .bool false, .bool false, .bool false, .bool false, .bool false, .bool false, .bool false, .bool false, .bool false, .bool false, .bool false, .bool false, .bool false, .bool false, .bool false, .bool false, .bool false, .bool false, .bool false, .bool false, .bool false, .bool false, .bool false, .bool false, .bool false, .bool false, .bool false, .bool false, .bool false, .bool false, .bool false, .bool false, .bool false, .bool false, .bool false, .bool false, .bool false, .bool false, .bool false, .bool false, .bool false, .bool false, .bool false, .bool false, .bool false, .bool false, .bool false, .bool false, .bool false, .bool false, .bool false, .bool false, .bool false, .bool false, .bool false, .bool false, .bool false, .bool false, .bool false, .bool false, .bool false, .bool false, .bool false, .bool false, .bool false, .bool false, .bool false, .bool false, .bool false, .bool false, .bool false, .bool false, .bool false, .bool false, .bool false, .bool false, .bool false, .bool false, .bool false, .bool false, .bool false, .bool false, .bool false, .bool false, .bool false, .bool false, .bool false, .bool false, .bool false, .bool false, .bool false, .bool false, .bool false, .bool false, .bool false, .bool false, .bool false, .bool false, .bool false, .bool false, .bool false, .bool false, .bool false, .bool false, .bool false, .bool false, .bool false, .bool false, .bool false, .bool false, .bool false, .bool false, .bool false, .bool false, .bool false, .bool false, .bool false, .bool false, .bool false, .bool false, .bool false, .bool false, .bool false, .bool false, .bool false, .bool false, .bool false, .bool false, .bool false, .bool false, .bool false, .bool false, .bool false, .bool false, .bool false, .bool false, .bool false, .bool false, .bool false, .bool false] }
def ty313 : Ty := { u := .ptr 309, size := 1, bytes := 8, cmp := false, zero := [.nilp] }
def ty315 : Ty := { u := .iface, size := 1, bytes := 16, cmp := false, zero := [.nili] }
def ty319 : Ty := { u := .ptr 200, size := 1, bytes := 8, cmp := false, zero := [.nilp] }
def ty320 : Ty := { u := .func, size := 1, bytes := 8, cmp := false, zero := [.nilf] }
def ty333 : Ty := { u := .array 20 216, size := 20, bytes := 160, cmp := false, zero := [.int .u64 0, .int .u64 0, .int .u64 0, .int .u64 0, .int .u64 0, .int .u64 0, .int .u64 0, .int .u64 0, .int .u64 0, .int .u64 0, .int .u64 0, .int .u64 0, .int .u64 0, .int .u64 0, .int .u64 0, .int .u64 0, .int .u64 0, .int .u64 0, .int .u64 0, .int .u64 0] }
def ty334 : Ty := { u := .array 65 5, size := 65, bytes := 65, cmp := false, zero := [.int .u8 0, .int .u8 0, .int .u8 0, .int .u8 0, .int .u8 0, .int .u8 0, .int .u8 0, .int .u8 0, .int .u8 0, .int .u8 0, .int .u8 0, .int .u8 0, .int .u8 0, .int .u8 0, .int .u8 0, .int .u8 0, .int .u8 0, .int .u8 0, .int .u8 0, .int .u8 0, .int .u8 0, .int .u8 0, .int .u8 0, .int .u8 0, .int .u8 0, .int .u8 0, .int .u8 0, .int .u8 0, .int .u8 0, .int .u8 0, .int .u8 0, .int .u8 0, .int .u8 0, .int .u8 0, .int .u8 0, .int .u8 0, .int .u8 0, .int .u8 0, .int .u8 0, .int .u8 0, .int .u8 0, .int .u8 0, .int .u8 0, .int .u8 0, .int .u8 0, .int .u8 0, .int .u8 0, .int .u8 0, .int .u8 0, .int .u8 0, .int .u8 0, .int .u8 0, .int .u8 0, .int .u8 0, .int .u8 0, .int .u8 0, .int .u8 0, .int .u8 0, .int .u8 0, .int .u8 0, .int .u8 0, .int .u8 0, .int .u8 0, .int .u8 0, .int .u8 0] }
def ty342 : Ty := { u := .int .i64, size := 1, bytes := 8, cmp := false, zero := [.int .i64 0] }
def ty345 : Ty := { u := .ptr 360, size := 1, bytes := 8, cmp := false, zero := [.nilp] }
def ty349 : Ty := { u := .array 32 5, size := 32, bytes := 32, cmp := false, zero := [.int .u8 0, .int .u8 0, .int .u8 0, .int .u8 0, .int .u8 0, .int .u8 0, .int .u8 0, .int .u8 0, .int .u8 0, .int .u8 0, .int .u8 0, .int .u8 0, .int .u8 0, .int .u8 0, .int .u8 0, .int .u8 0, .int .u8 0, .int .u8 0, .int .u8 0, .int .u8 0, .int .u8 0, .int .u8 0, .int .u8 0, .int .u8 0, .int .u8 0, .int .u8 0, .int .u8 0, .int .u8 0, .int .u8 0, .int .u8 0, .int .u8 0, .int .u8 0] }
def ty350 : Ty := { u := .array 64 5, size := 64, bytes := 64, cmp := false, zero := [.int .u8 0, .int .u8 0, .int .u8 0, .int .u8 0, .int .u8 0, .int .u8 0, .int .u8 0, .int .u8 0, .int .u8 0, .int .u8 0, .int .u8 0, .int .u8 0, .int .u8 0, .int .u8 0, .int .u8 0, .int .u8 0, .int .u8 0, .int .u8 0, .int .u8 0, .int .u8 0, .int .u8 0, .int .u8 0, .int .u8 0, .int .u8 0, .int .u8 0, .int .u8 0, .int .u8 0, .int .u8 0, .int .u8 0, .int .u8 0, .int .u8 0, .int .u8 0, .int .u8 0, .int .u8 0, .int .u8 0, .int .u8 0, .int .u8 0, .int .u8 0, .int .u8 0, .int .u8 0, .int .u8 0, .int .u8 0, .int .u8 0, .int .u8 0, .int .u8 0, .int .u8 0, .int .u8 0, .int .u8 0, .int .u8 0, .int .u8 0, .int .u8 0, .int .u8 0, .int .u8 0, .int .u8 0, .int .u8 0, .int .u8 0, .int .u8 0, .int .u8 0, .int .u8 0, .int .u8 0, .int .u8 0, .int .u8 0, .int .u8 0, .int .u8 0] }
def ty351 : Ty := { u := .array 256 5, size := 256, bytes := 256, cmp := false, zero := [.int .u8 0, .int .u8 0, .int .u8 0, .int .u8 0, .int .u8 0, .int .u8 0, .int .u8 0, .int .u8 0, .int .u8 0, .int .u8 0, .int .u8 0, .int .u8 0, .int .u8 0, .int .u8 0, .int .u8 0, .int .u8 0, .int .u8 0, .int .u8 0, .int .u8 0, .int .u8 0, .int .u8 0, .int .u8 0, .int .u8 0, .int .u8 0, .int .u8 0, .int .u8 0, .int .u8 0, .int .u8 0, .int .u8 0, .int .u8 0, .int .u8 0, .int .u8 0, .int .u8 0, .int .u8 0, .int .u8 0, .int .u8 0, .int .u8 0, .int .u8 0, .int .u8 0, .int .u8 0, .int .u8 0, .int .u8 0, .int .u8 0, .int .u8 0, .int .u8 0, .int .u8 0, .int .u8 0, .int .u8 0, .int .u8 0, .int .u8 0, .int .u8 0, .int .u8 0, .int .u8 0, .int .u8 0, .int .u8 0, .int .u8 0, .int .u8 0, .int .u8 0, .int .u8 0, .int .u8 0, .int .u8 0, .int .u8 0, .int .u8 0, .int .u8 0, .int .u8 0, .int .u8 0, .int .u8 0, .int .u8 0, .int .u8 0, .int .u8 0, .int .u8 0, .int .u8 0, .int .u8 0, .int .u8 0, .int .u8 0, .int .u8 0, .int .u8 0, .int .u8 0, .int .u8 0, .int .u8 0, .int .u8 0, .int .u8 0, .int .u8 0, .int .u8 0, .int .u8 0, .int .u8 0, .int .u8 0, .int .u8 0, .int .u8 0, .int .u8 0, .int .u8 0, .int .u8 0, .int .u8 0, .int .u8 0, .int .u8 0, .int .u8 0, .int .u8 0, .int .u8 0, .int .u8 0, .int .u8 0, .int .u8 0, .int .u8 0, .int .u8 0, .int .u8 0, .int .u8 0, .int .u8 0, .int .u8 0, .int .u8 0, .int .u8 0, .int .u8 0, .int .u8 0, .int .u8 0, .int .u8 0, .int .u8 0, .int .u8 0, .int .u8 0, .int .u8 0, .int .u8 0, .int .u8 0, .int .u8 0, .int .u8 0, .int .u8 0, .int .u8 0, .int .u8 0, .int .u8 0, .int .u8 0, .int .u8 0, .int .u8 0, .int .u8 0, .int .u8 0, .int .u8 0, .int .u8 0, .int .u8 0, .int .u8 0, .int .u8 0, .int .u8 0, .int .u8 0, .int .u8 0, .int .u8 0, .int .u8 0, .int .u8 0, .int .u8 0, .int .u8 0, .int .u8 0, .int .u8 0, .int .u8 0, .int .u8 0, .int .u8 0, .int .u8 0, .int .u8 0, .int .u8 0, .int .u8 0, .int .u8 0, .int .u8 0, .int .u8 0, .int .u8 0, .int .u8 0, .int .u8 0, .int .u8 0, .int .u8 0, .int .u8 0, .int .u8 0, .int .u8 0, .int .u8 0, .int .u8 0, .int .u8 0, .int .u8 0, .int .u8 0, .int .u8 0, .int .u8 0, .int .u8 0, .int .u8 0, .int .u8 0, .int .u8 0, .int .u8 0, .int .u8 0, .int .u8 0, .int .u8 0, .int .u8 0, .int .u8 0, .int .u8 0, .int .u8 0, .int .u8 0, .int .u8 0, .int .u8 0, .int .u8 0, .int .u8 0, .int .u8 0, .int .u8 0, .int .u8 0, .int .u8 0, .int .u8 0, .int .u8 0, .int .u8 0, .int .u8 0, .int .u8 0, .int .u8 0, .int .u8 0, .int .u8 0, .int .u8 0, .int .u8 0, .int .u8 0, .int .u8 0, .int .u8 0, .int .u8 0, .int .u8 0, .int .u8 0, .int .u8 0, .int .u8 0, .int .u8 0, .int .u8 0, .int .u8 0, .int .u8 0, .int .u8 0, .int .u8 0, .int .u8 0, .int .u8 0, .int .u8 0, .int .u8 0, .int .u8 0, .int .u8 0, .int .u8 0, .int .u8 0, .int .u8 0, .int .u8 0, .int .u8 0, .int .u8 0, .int .u8 0, .int .u8 0, .int .u8 0, .int .u8 0, .int .u8 0, .int .u8 0, .int .u8 0, .int .u8 0, .int .u8 0, .int .u8 0, .int .u8 0, .int .u8 0, .int .u8 0, .int .u8 0, .int .u8 0, .int .u8 0, .int .u8 0, .int .u8 0, .int .u8 0, .int .u8 0, .int .u8 0, .int .u8 0, .int .u8 0, .int .u8 0, .int .u8 0, .int .u8 0, .int .u8 0, .int .u8 0, .int .u8 0] }
def ty353 : Ty := { u := .struct [(0, 5), (1, 5)], size := 2, bytes := 2, cmp := false, zero := [.int .u8 0, .int .u8 0] }
def ty354 : Ty := { u := .array 16 353, size := 32, bytes := 32, cmp := false, zero := [.int .u8 0, .int .u8 0, .int .u8 0, .int .u8 0, .int .u8 0, .int .u8 0, .int .u8 0, .int .u8 0, .int .u8 0, .int .u8 0, .int .u8 0, .int .u8 0, .int .u8 0, .int .u8 0, .int .u8 0, .int .u8 0, .int .u8 0, .int .u8 0, .int .u8 0, .int .u8 0, .int .u8 0, .int .u8 0, .int .u8 0, .int .u8 0, .int .u8 0, .int .u8 0, .int .u8 0, .int .u8 0, .int .u8 0, .int .u8 0, .int .u8 0, .int .u8 0] }
def ty360 : Ty := { u := .struct [(0, 9), (1, 9), (2, 315)], size := 3, bytes := 48, cmp := false, zero := [.str [], .str [], .nili] }
def ty362 : Ty := { u := .ptr 5, size := 1, bytes := 8, cmp := false, zero := [.nilp] }
def ty363 : Ty := { u := .ptr 365, size := 1, bytes := 8, cmp := false, zero := [.nilp] }
def ty365 : Ty := { u := .struct [(0, 9)], size := 1, bytes := 16, cmp := false, zero := [.str []] }
@[simp] theorem ty2_s : ty2.size = 1 := id rfl
@[simp] theorem ty2_b : ty2.bytes = 8 := id rfl
@[simp] theorem ty2_r (cs : List T) : readAs ty2 cs = cs[0]? := nthD_eq cs 0
@[simp] theorem ty2_u : ty2.u = .int .i64 := id rfl
@[simp] theorem ty2_z : ty2.zeroT = .int .i64 0 := rfl
@[simp] theorem ty3_s : ty3.size = 1 := id rfl
@[simp] theorem ty3_b : ty3.bytes = 8 := id rfl
@[simp] theorem ty3_r (cs : List T) : readAs ty3 cs = cs[0]? := nthD_eq cs 0
@[simp] theorem ty3_u : ty3.u = .int .i64 := id rfl
@[simp] theorem ty3_z : ty3.zeroT = .int .i64 0 := rfl
@[simp] theorem ty4_s : ty4.size = 1 := id rfl
@[simp] theorem ty4_b : ty4.bytes = 1 := id rfl
@[simp] theorem ty4_r (cs : List T) : readAs ty4 cs = cs[0]? := nthD_eq cs 0
@[simp] theorem ty4_u : ty4.u = .bool := id rfl
@[simp] theorem ty4_z : ty4.zeroT = .bool false := rfl
@[simp] theorem ty5_s : ty5.size = 1 := id rfl
@[simp] theorem ty5_b : ty5.bytes = 1 := id rfl
@[simp] theorem ty5_r (cs : List T) : readAs ty5 cs = cs[0]? := nthD_eq cs 0
@[simp] theorem ty5_u : ty5.u = .int .u8 := id rfl
@[simp] theorem ty5_z : ty5.zeroT = .int .u8 0 := rfl
@[simp] theorem ty9_s : ty9.size = 1 := id rfl
@[simp] theorem ty9_b : ty9.bytes = 16 := id rfl
@[simp] theorem ty9_r (cs : List T) : readAs ty9 cs = cs[0]? := nthD_eq cs 0
@[simp] theorem ty9_u : ty9.u = .str := id rfl
@[simp] theorem ty9_z : ty9.zeroT = .str [] := rfl
@[simp] theorem ty21_s : ty21.size = 1 := id rfl
@[simp] theorem ty21_b : ty21.bytes = 4 := id rfl
@[simp] theorem ty21_r (cs : List T) : readAs ty21 cs = cs[0]? := nthD_eq cs 0
@[simp] theorem ty21_u : ty21.u = .int .i32 := id rfl
@[simp] theorem ty21_z : ty21.zeroT = .int .i32 0 := rfl
@[simp] theorem ty22_s : ty22.size = 1 := id rfl
@[simp] theorem ty22_b : ty22.bytes = 24 := id rfl
@[simp] theorem ty22_r (cs : List T) : readAs ty22 cs = cs[0]? := nthD_eq cs 0
@[simp] theorem ty22_u : ty22.u = .slice 109 := id rfl
@[simp] theorem ty22_z : ty22.zeroT = .tree [] false := rfl
@[simp] theorem ty23_s : ty23.size = 1 := id rfl
@[simp] theorem ty23_b : ty23.bytes = 24 := id rfl
@[simp] theorem ty23_r (cs : List T) : readAs ty23 cs = cs[0]? := nthD_eq cs 0
@[simp] theorem ty23_u : ty23.u = .slice 92 := id rfl
@[simp] theorem ty23_z : ty23.zeroT = .tree [] false := rfl
@[simp] theorem ty24_s : ty24.size = 1 := id rfl
@[simp] theorem ty24_b : ty24.bytes = 24 := id rfl
@[simp] theorem ty24_r (cs : List T) : readAs ty24 cs = cs[0]? := nthD_eq cs 0
@[simp] theorem ty24_u : ty24.u = .slice 90 := id rfl
@[simp] theorem ty24_z : ty24.zeroT = .tree [] false := rfl
@[simp] theorem ty25_s : ty25.size = 1 := id rfl
@[simp] theorem ty25_b : ty25.bytes = 24 := id rfl
@[simp] theorem ty25_r (cs : List T) : readAs ty25 cs = cs[0]? := nthD_eq cs 0
@[simp] theorem ty25_u : ty25.u = .slice 9 := id rfl
@[simp] theorem ty25_z : ty25.zeroT = .tree [] false := rfl
@[simp] theorem ty26_s : ty26.size = 1 := id rfl
@[simp] theorem ty26_b : ty26.bytes = 24 := id rfl
@[simp] theorem ty26_r (cs : List T) : readAs ty26 cs = cs[0]? := nthD_eq cs 0
@[simp] theorem ty26_u : ty26.u = .slice 94 := id rfl
@[simp] theorem ty26_z : ty26.zeroT = .tree [] false := rfl
@[simp] theorem ty28_s : ty28.size = 6 := id rfl
@[simp] theorem ty28_b : ty28.bytes = 144 := id rfl
@[simp] theorem ty28_r (cs : List T) : readAs ty28 cs = bnd (takeN 6 cs) fun r => some (.agg r) := rfl
@[simp] theorem ty28_u : ty28.u = .struct [(0, 22), (1, 23), (2, 24), (3, 25), (4, 25), (5, 26)] := id rfl
@[simp] theorem ty28_z : ty28.zeroT = .agg [.tree [] false, .tree [] false, .tree [] false, .tree [] false, .tree [] false, .tree [] false] := rfl
@[simp] theorem ty28_c : ty28.zero = [.tree [] false, .tree [] false, .tree [] false, .tree [] false, .tree [] false, .tree [] false] := rfl
@[simp] theorem ty29_s : ty29.size = 1 := id rfl
@[simp] theorem ty29_b : ty29.bytes = 24 := id rfl
@[simp] theorem ty29_r (cs : List T) : readAs ty29 cs = cs[0]? := nthD_eq cs 0
@[simp] theorem ty29_u : ty29.u = .slice 46 := id rfl
@[simp] theorem ty29_z : ty29.zeroT = .tree [] false := rfl
@[simp] theorem ty31_s : ty31.size = 7 := id rfl
@[simp] theorem ty31_b : ty31.bytes = 168 := id rfl
@[simp] theorem ty31_r (cs : List T) : readAs ty31 cs = bnd (takeN 7 cs) fun r => some (.agg r) := rfl
@[simp] theorem ty31_u : ty31.u = .struct [(0, 28), (6, 29)] := id rfl
@[simp] theorem ty31_z : ty31.zeroT = .agg [.tree [] false, .tree [] false, .tree [] false, .tree [] false, .tree [] false, .tree [] false, .tree [] false] := rfl
@[simp] theorem ty31_c : ty31.zero = [.tree [] false, .tree [] false, .tree [] false, .tree [] false, .tree [] false, .tree [] false, .tree [] false] := rfl
@[simp] theorem ty34_s : ty34.size = 1 := id rfl
@[simp] theorem ty34_b : ty34.bytes = 24 := id rfl
@[simp] theorem ty34_r (cs : List T) : readAs ty34 cs = cs[0]? := nthD_eq cs 0
@[simp] theorem ty34_u : ty34.u = .slice 64 := id rfl
@[simp] theorem ty34_z : ty34.zeroT = .tree [] false := rfl
@[simp] theorem ty36_s : ty36.size = 1 := id rfl
@[simp] theorem ty36_b : ty36.bytes = 24 := id rfl
@[simp] theorem ty36_r (cs : List T) : readAs ty36 cs = cs[0]? := nthD_eq cs 0
@[simp] theorem ty36_u : ty36.u = .slice 61 := id rfl
@[simp] theorem ty36_z : ty36.zeroT = .tree [] false := rfl
@[simp] theorem ty38_s : ty38.size = 1 := id rfl
@[simp] theorem ty38_b : ty38.bytes = 24 := id rfl
@[simp] theorem ty38_r (cs : List T) : readAs ty38 cs = cs[0]? := nthD_eq cs 0
@[simp] theorem ty38_u : ty38.u = .slice 53 := id rfl
@[simp] theorem ty38_z : ty38.zeroT = .tree [] false := rfl
@[simp] theorem ty44_s : ty44.size = 1 := id rfl
@[simp] theorem ty44_b : ty44.bytes = 24 := id rfl
@[simp] theorem ty44_r (cs : List T) : readAs ty44 cs = cs[0]? := nthD_eq cs 0
@[simp] theorem ty44_u : ty44.u = .slice 96 := id rfl
@[simp] theorem ty44_z : ty44.zeroT = .tree [] false := rfl
@[simp] theorem ty46_s : ty46.size = 2 := id rfl
@[simp] theorem ty46_b : ty46.bytes = 32 := id rfl
@[simp] theorem ty46_r (cs : List T) : readAs ty46 cs = bnd (takeN 2 cs) fun r => some (.agg r) := rfl
@[simp] theorem ty46_u : ty46.u = .struct [(0, 3), (1, 44)] := id rfl
@[simp] theorem ty46_z : ty46.zeroT = .agg [.int .i64 0, .tree [] false] := rfl
@[simp] theorem ty46_c : ty46.zero = [.int .i64 0, .tree [] false] := rfl
@[simp] theorem ty48_s : ty48.size = 1 := id rfl
@[simp] theorem ty48_b : ty48.bytes = 24 := id rfl
@[simp] theorem ty48_r (cs : List T) : readAs ty48 cs = cs[0]? := nthD_eq cs 0
@[simp] theorem ty48_u : ty48.u = .slice 155 := id rfl
@[simp] theorem ty48_z : ty48.zeroT = .tree [] false := rfl
@[simp] theorem ty49_s : ty49.size = 1 := id rfl
@[simp] theorem ty49_b : ty49.bytes = 24 := id rfl
@[simp] theorem ty49_r (cs : List T) : readAs ty49 cs = cs[0]? := nthD_eq cs 0
@[simp] theorem ty49_u : ty49.u = .slice 4 := id rfl
@[simp] theorem ty49_z : ty49.zeroT = .tree [] false := rfl
@[simp] theorem ty50_s : ty50.size = 1 := id rfl
@[simp] theorem ty50_b : ty50.bytes = 24 := id rfl
@[simp] theorem ty50_r (cs : List T) : readAs ty50 cs = cs[0]? := nthD_eq cs 0
@[simp] theorem ty50_u : ty50.u = .slice 157 := id rfl
@[simp] theorem ty50_z : ty50.zeroT = .tree [] false := rfl
@[simp] theorem ty52_s : ty52.size = 4 := id rfl
@[simp] theorem ty52_b : ty52.bytes = 80 := id rfl
@[simp] theorem ty52_r (cs : List T) : readAs ty52 cs = bnd (takeN 4 cs) fun r => some (.agg r) := rfl
@[simp] theorem ty52_u : ty52.u = .struct [(0, 48), (1, 3), (2, 49), (3, 50)] := id rfl
@[simp] theorem ty52_z : ty52.zeroT = .agg [.tree [] false, .int .i64 0, .tree [] false, .tree [] false] := rfl
@[simp] theorem ty52_c : ty52.zero = [.tree [] false, .int .i64 0, .tree [] false, .tree [] false] := rfl
@[simp] theorem ty53_s : ty53.size = 1 := id rfl
@[simp] theorem ty53_b : ty53.bytes = 24 := id rfl
@[simp] theorem ty53_r (cs : List T) : readAs ty53 cs = cs[0]? := nthD_eq cs 0
@[simp] theorem ty53_u : ty53.u = .slice 2 := id rfl
@[simp] theorem ty53_z : ty53.zeroT = .tree [] false := rfl
@[simp] theorem ty54_s : ty54.size = 1 := id rfl
@[simp] theorem ty54_b : ty54.bytes = 24 := id rfl
@[simp] theorem ty54_r (cs : List T) : readAs ty54 cs = cs[0]? := nthD_eq cs 0
@[simp] theorem ty54_u : ty54.u = .slice 160 := id rfl
@[simp] theorem ty54_z : ty54.zeroT = .tree [] false := rfl
@[simp] theorem ty56_s : ty56.size = 7 := id rfl
@[simp] theorem ty56_b : ty56.bytes = 152 := id rfl
@[simp] theorem ty56_r (cs : List T) : readAs ty56 cs = bnd (takeN 7 cs) fun r => some (.agg r) := rfl
@[simp] theorem ty56_u : ty56.u = .struct [(0, 52), (4, 53), (5, 53), (6, 54)] := id rfl
@[simp] theorem ty56_z : ty56.zeroT = .agg [.tree [] false, .int .i64 0, .tree [] false, .tree [] false, .tree [] false, .tree [] false, .tree [] false] := rfl
@[simp] theorem ty56_c : ty56.zero = [.tree [] false, .int .i64 0, .tree [] false, .tree [] false, .tree [] false, .tree [] false, .tree [] false] := rfl
@[simp] theorem ty57_s : ty57.size = 1 := id rfl
@[simp] theorem ty57_b : ty57.bytes = 8 := id rfl
@[simp] theorem ty57_r (cs : List T) : readAs ty57 cs = cs[0]? := nthD_eq cs 0
@[simp] theorem ty57_u : ty57.u = .func := id rfl
@[simp] theorem ty57_z : ty57.zeroT = .nilf := rfl
@[simp] theorem ty58_s : ty58.size = 1 := id rfl
@[simp] theorem ty58_b : ty58.bytes = 8 := id rfl
@[simp] theorem ty58_r (cs : List T) : readAs ty58 cs = cs[0]? := nthD_eq cs 0
@[simp] theorem ty58_u : ty58.u = .map 64 4 := id rfl
@[simp] theorem ty58_z : ty58.zeroT = .nilm := rfl
@[simp] theorem ty59_s : ty59.size = 1 := id rfl
@[simp] theorem ty59_b : ty59.bytes = 24 := id rfl
@[simp] theorem ty59_r (cs : List T) : readAs ty59 cs = cs[0]? := nthD_eq cs 0
@[simp] theorem ty59_u : ty59.u = .slice 63 := id rfl
@[simp] theorem ty59_z : ty59.zeroT = .tree [] false := rfl
@[simp] theorem ty61_s : ty61.size = 1 := id rfl
@[simp] theorem ty61_b : ty61.bytes = 24 := id rfl
@[simp] theorem ty61_r (cs : List T) : readAs ty61 cs = cs[0]? := nthD_eq cs 0
@[simp] theorem ty61_u : ty61.u = .slice 3 := id rfl
@[simp] theorem ty61_z : ty61.zeroT = .tree [] false := rfl
@[simp] theorem ty63_s : ty63.size = 7 := id rfl
@[simp] theorem ty63_b : ty63.bytes = 88 := id rfl
@[simp] theorem ty63_r (cs : List T) : readAs ty63 cs = bnd (takeN 7 cs) fun r => some (.agg r) := rfl
@[simp] theorem ty63_u : ty63.u = .struct [(0, 3), (1, 3), (2, 3), (3, 2), (4, 3), (5, 61), (6, 61)] := id rfl
@[simp] theorem ty63_z : ty63.zeroT = .agg [.int .i64 0, .int .i64 0, .int .i64 0, .int .i64 0, .int .i64 0, .tree [] false, .tree [] false] := rfl
@[simp] theorem ty63_c : ty63.zero = [.int .i64 0, .int .i64 0, .int .i64 0, .int .i64 0, .int .i64 0, .tree [] false, .tree [] false] := rfl
@[simp] theorem ty64_s : ty64.size = 2 := id rfl
@[simp] theorem ty64_b : ty64.bytes = 16 := id rfl
@[simp] theorem ty64_r (cs : List T) : readAs ty64 cs = bnd (takeN 2 cs) fun r => some (.agg r) := rfl
@[simp] theorem ty64_u : ty64.u = .array 2 3 := id rfl
@[simp] theorem ty64_z : ty64.zeroT = .agg [.int .i64 0, .int .i64 0] := rfl
@[simp] theorem ty64_c : ty64.zero = [.int .i64 0, .int .i64 0] := rfl
@[simp] theorem ty68_s : ty68.size = 1 := id rfl
@[simp] theorem ty68_b : ty68.bytes = 8 := id rfl
@[simp] theorem ty68_r (cs : List T) : readAs ty68 cs = cs[0]? := nthD_eq cs 0
@[simp] theorem ty68_u : ty68.u = .func := id rfl
@[simp] theorem ty68_z : ty68.zeroT = .nilf := rfl
@[simp] theorem ty71_s : ty71.size = 1 := id rfl
@[simp] theorem ty71_b : ty71.bytes = 8 := id rfl
@[simp] theorem ty71_r (cs : List T) : readAs ty71 cs = cs[0]? := nthD_eq cs 0
@[simp] theorem ty71_u : ty71.u = .func := id rfl
@[simp] theorem ty71_z : ty71.zeroT = .nilf := rfl
@[simp] theorem ty75_s : ty75.size = 1 := id rfl
@[simp] theorem ty75_b : ty75.bytes = 8 := id rfl
@[simp] theorem ty75_r (cs : List T) : readAs ty75 cs = cs[0]? := nthD_eq cs 0
@[simp] theorem ty75_u : ty75.u = .func := id rfl
@[simp] theorem ty75_z : ty75.zeroT = .nilf := rfl
@[simp] theorem ty76_s : ty76.size = 1 := id rfl
@[simp] theorem ty76_b : ty76.bytes = 24 := id rfl
@[simp] theorem ty76_r (cs : List T) : readAs ty76 cs = cs[0]? := nthD_eq cs 0
@[simp] theorem ty76_u : ty76.u = .slice 180 := id rfl
@[simp] theorem ty76_z : ty76.zeroT = .tree [] false := rfl
@[simp] theorem ty77_s : ty77.size = 1 := id rfl
@[simp] theorem ty77_b : ty77.bytes = 24 := id rfl
@[simp] theorem ty77_r (cs : List T) : readAs ty77 cs = cs[0]? := nthD_eq cs 0
@[simp] theorem ty77_u : ty77.u = .slice 139 := id rfl
@[simp] theorem ty77_z : ty77.zeroT = .tree [] false := rfl
@[simp] theorem ty79_s : ty79.size = 2 := id rfl
@[simp] theorem ty79_b : ty79.bytes = 48 := id rfl
@[simp] theorem ty79_r (cs : List T) : readAs ty79 cs = bnd (takeN 2 cs) fun r => some (.agg r) := rfl
@[simp] theorem ty79_u : ty79.u = .struct [(0, 76), (1, 77)] := id rfl
@[simp] theorem ty79_z : ty79.zeroT = .agg [.tree [] false, .tree [] false] := rfl
@[simp] theorem ty79_c : ty79.zero = [.tree [] false, .tree [] false] := rfl
@[simp] theorem ty80_s : ty80.size = 1 := id rfl
@[simp] theorem ty80_b : ty80.bytes = 8 := id rfl
@[simp] theorem ty80_r (cs : List T) : readAs ty80 cs = cs[0]? := nthD_eq cs 0
@[simp] theorem ty80_u : ty80.u = .int .i64 := id rfl
@[simp] theorem ty80_z : ty80.zeroT = .int .i64 0 := rfl
@[simp] theorem ty90_s : ty90.size = 2 := id rfl
@[simp] theorem ty90_b : ty90.bytes = 24 := id rfl
@[simp] theorem ty90_r (cs : List T) : readAs ty90 cs = bnd (takeN 2 cs) fun r => some (.agg r) := rfl
@[simp] theorem ty90_u : ty90.u = .struct [(0, 9), (1, 3)] := id rfl
@[simp] theorem ty90_z : ty90.zeroT = .agg [.str [], .int .i64 0] := rfl
@[simp] theorem ty90_c : ty90.zero = [.str [], .int .i64 0] := rfl
@[simp] theorem ty92_s : ty92.size = 2 := id rfl
@[simp] theorem ty92_b : ty92.bytes = 24 := id rfl
@[simp] theorem ty92_r (cs : List T) : readAs ty92 cs = bnd (takeN 2 cs) fun r => some (.agg r) := rfl
@[simp] theorem ty92_u : ty92.u = .struct [(0, 9), (1, 4)] := id rfl
@[simp] theorem ty92_z : ty92.zeroT = .agg [.str [], .bool false] := rfl
@[simp] theorem ty92_c : ty92.zero = [.str [], .bool false] := rfl
@[simp] theorem ty94_s : ty94.size = 3 := id rfl
@[simp] theorem ty94_b : ty94.bytes = 24 := id rfl
@[simp] theorem ty94_r (cs : List T) : readAs ty94 cs = bnd (takeN 3 cs) fun r => some (.agg r) := rfl
@[simp] theorem ty94_u : ty94.u = .struct [(0, 3), (1, 3), (2, 3)] := id rfl
@[simp] theorem ty94_z : ty94.zeroT = .agg [.int .i64 0, .int .i64 0, .int .i64 0] := rfl
@[simp] theorem ty94_c : ty94.zero = [.int .i64 0, .int .i64 0, .int .i64 0] := rfl
@[simp] theorem ty96_s : ty96.size = 6 := id rfl
@[simp] theorem ty96_b : ty96.bytes = 48 := id rfl
@[simp] theorem ty96_r (cs : List T) : readAs ty96 cs = bnd (takeN 6 cs) fun r => some (.agg r) := rfl
@[simp] theorem ty96_u : ty96.u = .struct [(0, 3), (1, 3), (2, 3), (3, 3), (4, 2), (5, 3)] := id rfl
@[simp] theorem ty96_z : ty96.zeroT = .agg [.int .i64 0, .int .i64 0, .int .i64 0, .int .i64 0, .int .i64 0, .int .i64 0] := rfl
@[simp] theorem ty96_c : ty96.zero = [.int .i64 0, .int .i64 0, .int .i64 0, .int .i64 0, .int .i64 0, .int .i64 0] := rfl
@[simp] theorem ty102_s : ty102.size = 1 := id rfl
@[simp] theorem ty102_b : ty102.bytes = 24 := id rfl
@[simp] theorem ty102_r (cs : List T) : readAs ty102 cs = cs[0]? := nthD_eq cs 0
@[simp] theorem ty102_u : ty102.u = .slice 56 := id rfl
@[simp] theorem ty102_z : ty102.zeroT = .tree [] false := rfl
@[simp] theorem ty103_s : ty103.size = 1 := id rfl
@[simp] theorem ty103_b : ty103.bytes = 8 := id rfl
@[simp] theorem ty103_r (cs : List T) : readAs ty103 cs = cs[0]? := nthD_eq cs 0
@[simp] theorem ty103_u : ty103.u = .map 9 4 := id rfl
@[simp] theorem ty103_z : ty103.zeroT = .nilm := rfl
@[simp] theorem ty109_s : ty109.size = 5 := id rfl
@[simp] theorem ty109_b : ty109.bytes = 48 := id rfl
@[simp] theorem ty109_r (cs : List T) : readAs ty109 cs = bnd (takeN 5 cs) fun r => some (.agg r) := rfl
@[simp] theorem ty109_u : ty109.u = .struct [(0, 9), (1, 3), (2, 3), (3, 4), (4, 2)] := id rfl
@[simp] theorem ty109_z : ty109.zeroT = .agg [.str [], .int .i64 0, .int .i64 0, .bool false, .int .i64 0] := rfl
@[simp] theorem ty109_c : ty109.zero = [.str [], .int .i64 0, .int .i64 0, .bool false, .int .i64 0] := rfl
@[simp] theorem ty112_s : ty112.size = 1 := id rfl
@[simp] theorem ty112_b : ty112.bytes = 8 := id rfl
@[simp] theorem ty112_r (cs : List T) : readAs ty112 cs = cs[0]? := nthD_eq cs 0
@[simp] theorem ty112_u : ty112.u = .func := id rfl
@[simp] theorem ty112_z : ty112.zeroT = .nilf := rfl
@[simp] theorem ty113_s : ty113.size = 1 := id rfl
@[simp] theorem ty113_b : ty113.bytes = 8 := id rfl
@[simp] theorem ty113_r (cs : List T) : readAs ty113 cs = cs[0]? := nthD_eq cs 0
@[simp] theorem ty113_u : ty113.u = .func := id rfl
@[simp] theorem ty113_z : ty113.zeroT = .nilf := rfl
@[simp] theorem ty115_s : ty115.size = 1 := id rfl
@[simp] theorem ty115_b : ty115.bytes = 8 := id rfl
@[simp] theorem ty115_r (cs : List T) : readAs ty115 cs = cs[0]? := nthD_eq cs 0
@[simp] theorem ty115_u : ty115.u = .func := id rfl
@[simp] theorem ty115_z : ty115.zeroT = .nilf := rfl
@[simp] theorem ty118_s : ty118.size = 1 := id rfl
@[simp] theorem ty118_b : ty118.bytes = 8 := id rfl
@[simp] theorem ty118_r (cs : List T) : readAs ty118 cs = cs[0]? := nthD_eq cs 0
@[simp] theorem ty118_u : ty118.u = .func := id rfl
@[simp] theorem ty118_z : ty118.zeroT = .nilf := rfl
@[simp] theorem ty122_s : ty122.size = 1 := id rfl
@[simp] theorem ty122_b : ty122.bytes = 8 := id rfl
@[simp] theorem ty122_r (cs : List T) : readAs ty122 cs = cs[0]? := nthD_eq cs 0
@[simp] theorem ty122_u : ty122.u = .func := id rfl
@[simp] theorem ty122_z : ty122.zeroT = .nilf := rfl
@[simp] theorem ty124_s : ty124.size = 1 := id rfl
@[simp] theorem ty124_b : ty124.bytes = 24 := id rfl
@[simp] theorem ty124_r (cs : List T) : readAs ty124 cs = cs[0]? := nthD_eq cs 0
@[simp] theorem ty124_u : ty124.u = .slice 175 := id rfl
@[simp] theorem ty124_z : ty124.zeroT = .tree [] false := rfl
@[simp] theorem ty127_s : ty127.size = 1 := id rfl
@[simp] theorem ty127_b : ty127.bytes = 8 := id rfl
@[simp] theorem ty127_r (cs : List T) : readAs ty127 cs = cs[0]? := nthD_eq cs 0
@[simp] theorem ty127_u : ty127.u = .ptr 129 := id rfl
@[simp] theorem ty127_z : ty127.zeroT = .nilp := rfl
@[simp] theorem ty129_s : ty129.size = 2 := id rfl
@[simp] theorem ty129_b : ty129.bytes = 32 := id rfl
@[simp] theorem ty129_r (cs : List T) : readAs ty129 cs = bnd (takeN 2 cs) fun r => some (.agg r) := rfl
@[simp] theorem ty129_u : ty129.u = .struct [(0, 124), (1, 3)] := id rfl
@[simp] theorem ty129_z : ty129.zeroT = .agg [.tree [] false, .int .i64 0] := rfl
@[simp] theorem ty129_c : ty129.zero = [.tree [] false, .int .i64 0] := rfl
@[simp] theorem ty136_s : ty136.size = 1 := id rfl
@[simp] theorem ty136_b : ty136.bytes = 8 := id rfl
@[simp] theorem ty136_r (cs : List T) : readAs ty136 cs = cs[0]? := nthD_eq cs 0
@[simp] theorem ty136_u : ty136.u = .ptr 141 := id rfl
@[simp] theorem ty136_z : ty136.zeroT = .nilp := rfl
@[simp] theorem ty137_s : ty137.size = 1 := id rfl
@[simp] theorem ty137_b : ty137.bytes = 24 := id rfl
@[simp] theorem ty137_r (cs : List T) : readAs ty137 cs = cs[0]? := nthD_eq cs 0
@[simp] theorem ty137_u : ty137.u = .slice 200 := id rfl
@[simp] theorem ty137_z : ty137.zeroT = .tree [] false := rfl
@[simp] theorem ty139_s : ty139.size = 4 := id rfl
@[simp] theorem ty139_b : ty139.bytes = 72 := id rfl
@[simp] theorem ty139_r (cs : List T) : readAs ty139 cs = bnd (takeN 4 cs) fun r => some (.agg r) := rfl
@[simp] theorem ty139_u : ty139.u = .struct [(0, 9), (1, 3), (2, 25), (3, 137)] := id rfl
@[simp] theorem ty139_z : ty139.zeroT = .agg [.str [], .int .i64 0, .tree [] false, .tree [] false] := rfl
@[simp] theorem ty139_c : ty139.zero = [.str [], .int .i64 0, .tree [] false, .tree [] false] := rfl
@[simp] theorem ty141_s : ty141.size = 10 := id rfl
@[simp] theorem ty141_b : ty141.bytes = 208 := id rfl
@[simp] theorem ty141_r (cs : List T) : readAs ty141 cs = bnd (takeN 10 cs) fun r => some (.agg r) := rfl
@[simp] theorem ty141_u : ty141.u = .struct [(0, 28), (6, 25), (7, 44), (8, 3), (9, 3)] := id rfl
@[simp] theorem ty141_z : ty141.zeroT = .agg [.tree [] false, .tree [] false, .tree [] false, .tree [] false, .tree [] false, .tree [] false, .tree [] false, .tree [] false, .int .i64 0, .int .i64 0] := rfl
@[simp] theorem ty141_c : ty141.zero = [.tree [] false, .tree [] false, .tree [] false, .tree [] false, .tree [] false, .tree [] false, .tree [] false, .tree [] false, .int .i64 0, .int .i64 0] := rfl
@[simp] theorem ty149_s : ty149.size = 2 := id rfl
@[simp] theorem ty149_b : ty149.bytes = 16 := id rfl
@[simp] theorem ty149_r (cs : List T) : readAs ty149 cs = bnd (takeN 2 cs) fun r => some (.agg r) := rfl
@[simp] theorem ty149_u : ty149.u = .struct [(0, 3), (1, 3)] := id rfl
@[simp] theorem ty149_z : ty149.zeroT = .agg [.int .i64 0, .int .i64 0] := rfl
@[simp] theorem ty149_c : ty149.zero = [.int .i64 0, .int .i64 0] := rfl
@[simp] theorem ty150_s : ty150.size = 1 := id rfl
@[simp] theorem ty150_b : ty150.bytes = 24 := id rfl
@[simp] theorem ty150_r (cs : List T) : readAs ty150 cs = cs[0]? := nthD_eq cs 0
@[simp] theorem ty150_u : ty150.u = .slice 5 := id rfl
@[simp] theorem ty150_z : ty150.zeroT = .tree [] false := rfl
@[simp] theorem ty152_s : ty152.size = 1 := id rfl
@[simp] theorem ty152_b : ty152.bytes = 8 := id rfl
@[simp] theorem ty152_r (cs : List T) : readAs ty152 cs = cs[0]? := nthD_eq cs 0
@[simp] theorem ty152_u : ty152.u = .func := id rfl
@[simp] theorem ty152_z : ty152.zeroT = .nilf := rfl
@[simp] theorem ty155_s : ty155.size = 2 := id rfl
@[simp] theorem ty155_b : ty155.bytes = 32 := id rfl
@[simp] theorem ty155_r (cs : List T) : readAs ty155 cs = bnd (takeN 2 cs) fun r => some (.agg r) := rfl
@[simp] theorem ty155_u : ty155.u = .struct [(0, 3), (1, 61)] := id rfl
@[simp] theorem ty155_z : ty155.zeroT = .agg [.int .i64 0, .tree [] false] := rfl
@[simp] theorem ty155_c : ty155.zero = [.int .i64 0, .tree [] false] := rfl
@[simp] theorem ty157_s : ty157.size = 3 := id rfl
@[simp] theorem ty157_b : ty157.bytes = 24 := id rfl
@[simp] theorem ty157_r (cs : List T) : readAs ty157 cs = bnd (takeN 3 cs) fun r => some (.agg r) := rfl
@[simp] theorem ty157_u : ty157.u = .struct [(0, 3), (1, 3), (2, 4)] := id rfl
@[simp] theorem ty157_z : ty157.zeroT = .agg [.int .i64 0, .int .i64 0, .bool false] := rfl
@[simp] theorem ty157_c : ty157.zero = [.int .i64 0, .int .i64 0, .bool false] := rfl
@[simp] theorem ty158_s : ty158.size = 2 := id rfl
@[simp] theorem ty158_b : ty158.bytes = 48 := id rfl
@[simp] theorem ty158_r (cs : List T) : readAs ty158 cs = bnd (takeN 2 cs) fun r => some (.agg r) := rfl
@[simp] theorem ty158_u : ty158.u = .array 2 53 := id rfl
@[simp] theorem ty158_z : ty158.zeroT = .agg [.tree [] false, .tree [] false] := rfl
@[simp] theorem ty158_c : ty158.zero = [.tree [] false, .tree [] false] := rfl
@[simp] theorem ty160_s : ty160.size = 4 := id rfl
@[simp] theorem ty160_b : ty160.bytes = 64 := id rfl
@[simp] theorem ty160_r (cs : List T) : readAs ty160 cs = bnd (takeN 4 cs) fun r => some (.agg r) := rfl
@[simp] theorem ty160_u : ty160.u = .struct [(0, 3), (1, 53), (2, 36), (3, 3)] := id rfl
@[simp] theorem ty160_z : ty160.zeroT = .agg [.int .i64 0, .tree [] false, .tree [] false, .int .i64 0] := rfl
@[simp] theorem ty160_c : ty160.zero = [.int .i64 0, .tree [] false, .tree [] false, .int .i64 0] := rfl
@[simp] theorem ty163_s : ty163.size = 1 := id rfl
@[simp] theorem ty163_b : ty163.bytes = 8 := id rfl
@[simp] theorem ty163_r (cs : List T) : readAs ty163 cs = cs[0]? := nthD_eq cs 0
@[simp] theorem ty163_u : ty163.u = .int .u64 := id rfl
@[simp] theorem ty163_z : ty163.zeroT = .int .u64 0 := rfl
@[simp] theorem ty175_s : ty175.size = 3 := id rfl
@[simp] theorem ty175_b : ty175.bytes = 32 := id rfl
@[simp] theorem ty175_r (cs : List T) : readAs ty175 cs = bnd (takeN 3 cs) fun r => some (.agg r) := rfl
@[simp] theorem ty175_u : ty175.u = .struct [(0, 3), (1, 9), (2, 3)] := id rfl
@[simp] theorem ty175_z : ty175.zeroT = .agg [.int .i64 0, .str [], .int .i64 0] := rfl
@[simp] theorem ty175_c : ty175.zero = [.int .i64 0, .str [], .int .i64 0] := rfl
@[simp] theorem ty180_s : ty180.size = 6 := id rfl
@[simp] theorem ty180_b : ty180.bytes = 64 := id rfl
@[simp] theorem ty180_r (cs : List T) : readAs ty180 cs = bnd (takeN 6 cs) fun r => some (.agg r) := rfl
@[simp] theorem ty180_u : ty180.u = .struct [(0, 3), (1, 3), (2, 9), (3, 3), (4, 2), (5, 9)] := id rfl
@[simp] theorem ty180_z : ty180.zeroT = .agg [.int .i64 0, .int .i64 0, .str [], .int .i64 0, .int .i64 0, .str []] := rfl
@[simp] theorem ty180_c : ty180.zero = [.int .i64 0, .int .i64 0, .str [], .int .i64 0, .int .i64 0, .str []] := rfl
@[simp] theorem ty188_s : ty188.size = 1 := id rfl
@[simp] theorem ty188_b : ty188.bytes = 8 := id rfl
@[simp] theorem ty188_r (cs : List T) : readAs ty188 cs = cs[0]? := nthD_eq cs 0
@[simp] theorem ty188_u : ty188.u = .ptr 190 := id rfl
@[simp] theorem ty188_z : ty188.zeroT = .nilp := rfl
@[simp] theorem ty190_s : ty190.size = 6 := id rfl
@[simp] theorem ty190_b : ty190.bytes = 128 := id rfl
@[simp] theorem ty190_r (cs : List T) : readAs ty190 cs = bnd (takeN 6 cs) fun r => some (.agg r) := rfl
@[simp] theorem ty190_u : ty190.u = .struct [(0, 79), (2, 3), (3, 137), (4, 25), (5, 25)] := id rfl
@[simp] theorem ty190_z : ty190.zeroT = .agg [.tree [] false, .tree [] false, .int .i64 0, .tree [] false, .tree [] false, .tree [] false] := rfl
@[simp] theorem ty190_c : ty190.zero = [.tree [] false, .tree [] false, .int .i64 0, .tree [] false, .tree [] false, .tree [] false] := rfl
@[simp] theorem ty196_s : ty196.size = 1 := id rfl
@[simp] theorem ty196_b : ty196.bytes = 24 := id rfl
@[simp] theorem ty196_r (cs : List T) : readAs ty196 cs = cs[0]? := nthD_eq cs 0
@[simp] theorem ty196_u : ty196.u = .slice 198 := id rfl
@[simp] theorem ty196_z : ty196.zeroT = .tree [] false := rfl
@[simp] theorem ty198_s : ty198.size = 4 := id rfl
@[simp] theorem ty198_b : ty198.bytes = 56 := id rfl
@[simp] theorem ty198_r (cs : List T) : readAs ty198 cs = bnd (takeN 4 cs) fun r => some (.agg r) := rfl
@[simp] theorem ty198_u : ty198.u = .struct [(0, 3), (1, 2), (2, 9), (3, 196)] := id rfl
@[simp] theorem ty198_z : ty198.zeroT = .agg [.int .i64 0, .int .i64 0, .str [], .tree [] false] := rfl
@[simp] theorem ty198_c : ty198.zero = [.int .i64 0, .int .i64 0, .str [], .tree [] false] := rfl
@[simp] theorem ty200_s : ty200.size = 11 := id rfl
@[simp] theorem ty200_b : ty200.bytes = 176 := id rfl
@[simp] theorem ty200_r (cs : List T) : readAs ty200 cs = bnd (takeN 11 cs) fun r => some (.agg r) := rfl
@[simp] theorem ty200_u : ty200.u = .struct [(0, 3), (1, 3), (2, 9), (3, 9), (4, 196), (5, 198), (9, 137), (10, 137)] := id rfl
@[simp] theorem ty200_z : ty200.zeroT = .agg [.int .i64 0, .int .i64 0, .str [], .str [], .tree [] false, .int .i64 0, .int .i64 0, .str [], .tree [] false, .tree [] false, .tree [] false] := rfl
@[simp] theorem ty200_c : ty200.zero = [.int .i64 0, .int .i64 0, .str [], .str [], .tree [] false, .int .i64 0, .int .i64 0, .str [], .tree [] false, .tree [] false, .tree [] false] := rfl
@[simp] theorem ty203_s : ty203.size = 29 := id rfl
@[simp] theorem ty203_b : ty203.bytes = 232 := id rfl
@[simp] theorem ty203_r (cs : List T) : readAs ty203 cs = bnd (takeN 29 cs) fun r => some (.agg r) := rfl
@[simp] theorem ty203_u : ty203.u = .array 29 3 := id rfl
@[simp] theorem ty203_z : ty203.zeroT = .agg [.int .i64 0, .int .i64 0, .int .i64 0, .int .i64 0, .int .i64 0, .int .i64 0, .int .i64 0, .int .i64 0, .int .i64 0, .int .i64 0, .int .i64 0, .int .i64 0, .int .i64 0, .int .i64 0, .int .i64 0, .int .i64 0, .int .i64 0, .int .i64 0, .int .i64 0, .int .i64 0, .int .i64 0, .int .i64 0, .int .i64 0, .int .i64 0, .int .i64 0, .int .i64 0, .int .i64 0, .int .i64 0, .int .i64 0] := rfl
@[simp] theorem ty203_c : ty203.zero = [.int .i64 0, .int .i64 0, .int .i64 0, .int .i64 0, .int .i64 0, .int .i64 0, .int .i64 0, .int .i64 0, .int .i64 0, .int .i64 0, .int .i64 0, .int .i64 0, .int .i64 0, .int .i64 0, .int .i64 0, .int .i64 0, .int .i64 0, .int .i64 0, .int .i64 0, .int .i64 0, .int .i64 0, .int .i64 0, .int .i64 0, .int .i64 0, .int .i64 0, .int .i64 0, .int .i64 0, .int .i64 0, .int .i64 0] := rfl
@[simp] theorem ty206_s : ty206.size = 1 := id rfl
@[simp] theorem ty206_b : ty206.bytes = 8 := id rfl
@[simp] theorem ty206_r (cs : List T) : readAs ty206 cs = cs[0]? := nthD_eq cs 0
@[simp] theorem ty206_u : ty206.u = .int .i64 := id rfl
@[simp] theorem ty206_z : ty206.zeroT = .int .i64 0 := rfl
@[simp] theorem ty214_s : ty214.size = 1 := id rfl
@[simp] theorem ty214_b : ty214.bytes = 4 := id rfl
@[simp] theorem ty214_r (cs : List T) : readAs ty214 cs = cs[0]? := nthD_eq cs 0
@[simp] theorem ty214_u : ty214.u = .int .u32 := id rfl
@[simp] theorem ty214_z : ty214.zeroT = .int .u32 0 := rfl
@[simp] theorem ty216_s : ty216.size = 1 := id rfl
@[simp] theorem ty216_b : ty216.bytes = 8 := id rfl
@[simp] theorem ty216_r (cs : List T) : readAs ty216 cs = cs[0]? := nthD_eq cs 0
@[simp] theorem ty216_u : ty216.u = .int .u64 := id rfl
@[simp] theorem ty216_z : ty216.zeroT = .int .u64 0 := rfl
@[simp] theorem ty238_s : ty238.size = 1 := id rfl
@[simp] theorem ty238_b : ty238.bytes = 8 := id rfl
@[simp] theorem ty238_r (cs : List T) : readAs ty238 cs = cs[0]? := nthD_eq cs 0
@[simp] theorem ty238_u : ty238.u = .ptr 180 := id rfl
@[simp] theorem ty238_z : ty238.zeroT = .nilp := rfl
@[simp] theorem ty256_s : ty256.size = 1 := id rfl
@[simp] theorem ty256_b : ty256.bytes = 8 := id rfl
@[simp] theorem ty256_r (cs : List T) : readAs ty256 cs = cs[0]? := nthD_eq cs 0
@[simp] theorem ty256_u : ty256.u = .ptr 160 := id rfl
@[simp] theorem ty256_z : ty256.zeroT = .nilp := rfl
@[simp] theorem ty261_s : ty261.size = 1 := id rfl
@[simp] theorem ty261_b : ty261.bytes = 8 := id rfl
@[simp] theorem ty261_r (cs : List T) : readAs ty261 cs = cs[0]? := nthD_eq cs 0
@[simp] theorem ty261_u : ty261.u = .int .u64 := id rfl
@[simp] theorem ty261_z : ty261.zeroT = .int .u64 0 := rfl
@[simp] theorem ty265_s : ty265.size = 1 := id rfl
@[simp] theorem ty265_b : ty265.bytes = 8 := id rfl
@[simp] theorem ty265_r (cs : List T) : readAs ty265 cs = cs[0]? := nthD_eq cs 0
@[simp] theorem ty265_u : ty265.u = .ptr 3 := id rfl
@[simp] theorem ty265_z : ty265.zeroT = .nilp := rfl
@[simp] theorem ty296_s : ty296.size = 24 := id rfl
@[simp] theorem ty296_b : ty296.bytes = 24 := id rfl
@[simp] theorem ty296_r (cs : List T) : readAs ty296 cs = bnd (takeN 24 cs) fun r => some (.agg r) := rfl
@[simp] theorem ty296_u : ty296.u = .array 24 5 := id rfl
@[simp] theorem ty296_z : ty296.zeroT = .agg [.int .u8 0, .int .u8 0, .int .u8 0, .int .u8 0, .int .u8 0, .int .u8 0, .int .u8 0, .int .u8 0, .int .u8 0, .int .u8 0, .int .u8 0, .int .u8 0, .int .u8 0, .int .u8 0, .int .u8 0, .int .u8 0, .int .u8 0, .int .u8 0, .int .u8 0, .int .u8 0, .int .u8 0, .int .u8 0, .int .u8 0, .int .u8 0] := rfl
@[simp] theorem ty296_c : ty296.zero = [.int .u8 0, .int .u8 0, .int .u8 0, .int .u8 0, .int .u8 0, .int .u8 0, .int .u8 0, .int .u8 0, .int .u8 0, .int .u8 0, .int .u8 0, .int .u8 0, .int .u8 0, .int .u8 0, .int .u8 0, .int .u8 0, .int .u8 0, .int .u8 0, .int .u8 0, .int .u8 0, .int .u8 0, .int .u8 0, .int .u8 0, .int .u8 0] := rfl
@[simp] theorem ty306_s : ty306.size = 22 := id rfl
@[simp] theorem ty306_b : ty306.bytes = 352 := id rfl
@[simp] theorem ty306_r (cs : List T) : readAs ty306 cs = bnd (takeN 22 cs) fun r => some (.agg r) := rfl
@[simp] theorem ty306_u : ty306.u = .array 22 9 := id rfl
@[simp] theorem ty306_z : ty306.zeroT = .agg [.str [], .str [], .str [], .str [], .str [], .str [], .str [], .str [], .str [], .str [], .str [], .str [], .str [], .str [], .str [], .str [], .str [], .str [], .str [], .str [], .str [], .str []] := rfl
@[simp] theorem ty306_c : ty306.zero = [.str [], .str [], .str [], .str [], .str [], .str [], .str [], .str [], .str [], .str [], .str [], .str [], .str [], .str [], .str [], .str [], .str [], .str [], .str [], .str [], .str [], .str []] := rfl
@[simp] theorem ty309_s : ty309.size = 256 := id rfl
@[simp] theorem ty309_b : ty309.bytes = 256 := id rfl
@[simp] theorem ty309_r (cs : List T) : readAs ty309 cs = bnd (takeN 256 cs) fun r => some (.agg r) := rfl
@[simp] theorem ty309_u : ty309.u = .array 256 4 := id rfl
@[simp] theorem ty309_z : ty309.zeroT = .agg [.bool false, .bool false, .bool false, .bool false, .bool false, .bool false, .bool false, .bool false, .bool false, .bool false, .bool false, .bool false, .bool false, .bool false, .bool false, .bool false, .bool false, .bool false, .bool false, .bool false, .bool false, .bool false, .bool false, .bool false, .bool false, .bool false, .bool false, .bool false, .bool false, .bool false, .bool false, .bool false, .bool false, .bool false, .bool false, .bool false, .bool false, .bool false, .bool false, .bool false, .bool false, .bool false, .bool false, .bool false, .bool false, .bool false, .bool false, .bool false, .bool false, .bool false, .bool false, .bool false, .bool false, .bool false, .bool false, .bool false, .bool false, .bool false, .bool false, .bool false, .bool false, .bool false, .bool false, .bool false, .bool false, .bool false, .bool false, .bool false, .bool false, .bool false, .bool false, .bool false, .bool false, .bool false, .bool false, .bool false, .bool false, .bool false, .bool false, .bool false, .bool false, .bool false, .bool false, .bool false, .bool false, .bool false, .bool false, .bool false, .bool false, .bool false, .bool false, .bool false, .bool false, .bool false, .bool false, .bool false, .bool false, .bool false, .bool false, .bool false, .bool false, .bool false, .bool false, .bool false, .bool false, .bool false, .bool false, .bool false, .bool false, .bool false, .bool false, .bool false, .bool false, .bool false, .bool false, .bool false, .bool false, .bool false, .bool false, .bool false, .bool false, .bool false, .bool false, .bool false, .bool false, .bool false, .bool false, .bool false, .bool false, .bool false, .bool false, .bool false, .bool false, .bool false, .bool false, .bool false, .bool false, .bool false, .bool false, .bool false, .bool false, .bool false, .bool false, .bool false, .bool false, .bool false, .bool false, .bool false, .bool false, .bool false, .bool false, .bool false, .bool false, .bool false, .bool false, .bool false, .bool false, .bool false, .bool false, .bool false, .bool false, .bool false, .bool false, .bool false, .bool false, .bool false, .bool false, .bool false, .bool false, .bool false, .bool false, .bool false, .bool false, .bool false, .bool false, .bool false, .bool false, .bool false, .bool false, .bool false, .bool false, .bool false, .bool false, .bool false, .bool false, .bool false, .bool false, .bool false, .bool false, .bool false, .bool false, .bool false, .bool false, .bool false, .bool false, .bool false, .bool false, .bool false, .bool false, .bool false, .bool false, .bool false, .bool false, .bool false, .bool false, .bool false, .bool false, .bool false, .bool false, .bool false, .bool false, .bool false, .bool false, .bool false, .bool false, .bool false, .bool false, .bool false, .bool false, .bool false, .bool false, .bool false, .bool false, .bool false, .bool false, .bool false, .bool false, .bool false, .bool false, .bool false, .bool false, .bool false, .bool false, .bool false, .bool false, .bool false, .bool false, .bool false, .bool false, .bool false, .bool false, .bool false, .bool false, .bool false, .bool false, .bool false, .bool false, .bool false, .bool false, .bool false, .bool false, .bool false, .bool false, .bool false, .bool false, .bool false] := rfl
@[simp] theorem ty309_c : ty309.zero = [.bool false, .bool false, .bool false, .bool false, .bool false, .bool false, .bool false, .bool false, .bool false, .bool false, .bool false, .bool false, .bool false, .bool false, .bool false, .bool false, .bool false, .bool false, .bool false, .bool false, .bool false, .bool false, .bool false, .bool false, .bool false, .bool false, .bool false, .bool false, .bool false, .bool false, .bool false, .bool false, .bool false, .bool false, .bool false, .bool false, .bool false, .bool false, .bool false, .bool false, .bool false, .bool false, .bool false, .bool false, .bool false, .bool false, .bool false, .bool false, .bool false, .bool false, .bool false, .bool false, .bool false, .bool false, .bool false, .bool false, .bool false, .bool false, .bool false, .bool false, .bool false, .bool false, .bool false, .bool false, .bool false, .bool false, .bool false, .bool false, .bool false, .bool false, .bool false, .bool false, .bool false, .bool false, .bool false, .bool false, .bool false, .bool false, .bool false, .bool false, .bool false, .bool false, .bool false, .bool false, .bool false, .bool false, .bool false, .bool false, .bool false, .bool false, .bool false, .bool false, .bool false, .bool false, .bool false, .bool false, .bool false, .bool false, .bool false, .bool false, .bool false, .bool false, .bool false, .bool false, .bool false, .bool false, .bool false, .bool false, .bool false, .bool false, .bool false, .bool false, .bool false, .bool false, .bool false, .bool false, .bool false, .bool false, .bool false, .bool false, .bool false, .bool false, .bool false, .bool false, .bool false, .bool false, .bool false, .bool false, .bool false, .bool false, .bool false, .bool false, .bool false, .bool false, .bool false, .bool false, .bool false, .bool false, .bool false, .bool false, .bool false, .bool false, .bool false, .bool false, .bool false, .bool false, .bool false, .bool false, .bool false, .bool false, .bool false, .bool false, .bool false, .bool false, .bool false, .bool false, .bool false, .bool false, .bool false, .bool false, .bool false, .bool false, .bool false, .bool false, .bool false, .bool false, .bool false, .bool false, .bool false, .bool false, .bool false, .bool false, .bool false, .bool false, .bool false, .bool false, .bool false, .bool false, .bool false, .bool false, .bool false, .bool false, .bool false, .bool false, .bool false, .bool false, .bool false, .bool false, .bool false, .bool false, .bool false, .bool false, .bool false, .bool false, .bool false, .bool false, .bool false, .bool false, .bool false, .bool false, .bool false, .bool false, .bool false, .bool false, .bool false, .bool false, .bool false, .bool false, .bool false, .bool false, .bool false, .bool false, .bool false, .bool false, .bool false, .bool false, .bool false, .bool false, .bool false, .bool false, .bool false, .bool false, .bool false, .bool false, .bool false, .bool false, .bool false, .bool false, .bool false, .bool false, .bool false, .bool false, .bool false, .bool false, .bool false, .bool false, .bool false, .bool false, .bool false, .bool false, .bool false, .bool false, .bool false, .bool false, .bool false, .bool false, .bool false, .bool false, .bool false, .bool false, .bool false, .bool false, .bool false, .bool false, .bool false, .bool false] := rfl
@[simp] theorem ty313_s : ty313.size = 1 := id rfl
@[simp] theorem ty313_b : ty313.bytes = 8 := id rfl
@[simp] theorem ty313_r (cs : List T) : readAs ty313 cs = cs[0]? := nthD_eq cs 0
@[simp] theorem ty313_u : ty313.u = .ptr 309 := id rfl
@[simp] theorem ty313_z : ty313.zeroT = .nilp := rfl
@[simp] theorem ty315_s : ty315.size = 1 := id rfl
@[simp] theorem ty315_b : ty315.bytes = 16 := id rfl
@[simp] theorem ty315_r (cs : List T) : readAs ty315 cs = cs[0]? := nthD_eq cs 0
@[simp] theorem ty315_u : ty315.u = .iface := id rfl
@[simp] theorem ty315_z : ty315.zeroT = .nili := rfl
@[simp] theorem ty319_s : ty319.size = 1 := id rfl
@[simp] theorem ty319_b : ty319.bytes = 8 := id rfl
@[simp] theorem ty319_r (cs : List T) : readAs ty319 cs = cs[0]? := nthD_eq cs 0
@[simp] theorem ty319_u : ty319.u = .ptr 200 := id rfl
@[simp] theorem ty319_z : ty319.zeroT = .nilp := rfl
@[simp] theorem ty320_s : ty320.size = 1 := id rfl
@[simp] theorem ty320_b : ty320.bytes = 8 := id rfl
@[simp] theorem ty320_r (cs : List T) : readAs ty320 cs = cs[0]? := nthD_eq cs 0
@[simp] theorem ty320_u : ty320.u = .func := id rfl
@[simp] theorem ty320_z : ty320.zeroT = .nilf := rfl
@[simp] theorem ty333_s : ty333.size = 20 := id rfl
@[simp] theorem ty333_b : ty333.bytes = 160 := id rfl
@[simp] theorem ty333_r (cs : List T) : readAs ty333 cs = bnd (takeN 20 cs) fun r => some (.agg r) := rfl
@[simp] theorem ty333_u : ty333.u = .array 20 216 := id rfl
@[simp] theorem ty333_z : ty333.zeroT = .agg [.int .u64 0, .int .u64 0, .int .u64 0, .int .u64 0, .int .u64 0, .int .u64 0, .int .u64 0, .int .u64 0, .int .u64 0, .int .u64 0, .int .u64 0, .int .u64 0, .int .u64 0, .int .u64 0, .int .u64 0, .int .u64 0, .int .u64 0, .int .u64 0, .int .u64 0, .int .u64 0] := rfl
@[simp] theorem ty333_c : ty333.zero = [.int .u64 0, .int .u64 0, .int .u64 0, .int .u64 0, .int .u64 0, .int .u64 0, .int .u64 0, .int .u64 0, .int .u64 0, .int .u64 0, .int .u64 0, .int .u64 0, .int .u64 0, .int .u64 0, .int .u64 0, .int .u64 0, .int .u64 0, .int .u64 0, .int .u64 0, .int .u64 0] := rfl
@[simp] theorem ty334_s : ty334.size = 65 := id rfl
@[simp] theorem ty334_b : ty334.bytes = 65 := id rfl
@[simp] theorem ty334_r (cs : List T) : readAs ty334 cs = bnd (takeN 65 cs) fun r => some (.agg r) := rfl
@[simp] theorem ty334_u : ty334.u = .array 65 5 := id rfl
@[simp] theorem ty334_z : ty334.zeroT = .agg [.int .u8 0, .int .u8 0, .int .u8 0, .int .u8 0, .int .u8 0, .int .u8 0, .int .u8 0, .int .u8 0, .int .u8 0, .int .u8 0, .int .u8 0, .int .u8 0, .int .u8 0, .int .u8 0, .int .u8 0, .int .u8 0, .int .u8 0, .int .u8 0, .int .u8 0, .int .u8 0, .int .u8 0, .int .u8 0, .int .u8 0, .int .u8 0, .int .u8 0, .int .u8 0, .int .u8 0, .int .u8 0, .int .u8 0, .int .u8 0, .int .u8 0, .int .u8 0, .int .u8 0, .int .u8 0, .int .u8 0, .int .u8 0, .int .u8 0, .int .u8 0, .int .u8 0, .int .u8 0, .int .u8 0, .int .u8 0, .int .u8 0, .int .u8 0, .int .u8 0, .int .u8 0, .int .u8 0, .int .u8 0, .int .u8 0, .int .u8 0, .int .u8 0, .int .u8 0, .int .u8 0, .int .u8 0, .int .u8 0, .int .u8 0, .int .u8 0, .int .u8 0, .int .u8 0, .int .u8 0, .int .u8 0, .int .u8 0, .int .u8 0, .int .u8 0, .int .u8 0] := rfl
@[simp] theorem ty334_c : ty334.zero = [.int .u8 0, .int .u8 0, .int .u8 0, .int .u8 0, .int .u8 0, .int .u8 0, .int .u8 0, .int .u8 0, .int .u8 0, .int .u8 0, .int .u8 0, .int .u8 0, .int .u8 0, .int .u8 0, .int .u8 0, .int .u8 0, .int .u8 0, .int .u8 0, .int .u8 0, .int .u8 0, .int .u8 0, .int .u8 0, .int .u8 0, .int .u8 0, .int .u8 0, .int .u8 0, .int .u8 0, .int .u8 0, .int .u8 0, .int .u8 0, .int .u8 0, .int .u8 0, .int .u8 0, .int .u8 0, .int .u8 0, .int .u8 0, .int .u8 0, .int .u8 0, .int .u8 0, .int .u8 0, .int .u8 0, .int .u8 0, .int .u8 0, .int .u8 0, .int .u8 0, .int .u8 0, .int .u8 0, .int .u8 0, .int .u8 0, .int .u8 0, .int .u8 0, .int .u8 0, .int .u8 0, .int .u8 0, .int .u8 0, .int .u8 0, .int .u8 0, .int .u8 0, .int .u8 0, .int .u8 0, .int .u8 0, .int .u8 0, .int .u8 0, .int .u8 0, .int .u8 0] := rfl
@[simp] theorem ty342_s : ty342.size = 1 := id rfl
@[simp] theorem ty342_b : ty342.bytes = 8 := id rfl
@[simp] theorem ty342_r (cs : List T) : readAs ty342 cs = cs[0]? := nthD_eq cs 0
@[simp] theorem ty342_u : ty342.u = .int .i64 := id rfl
@[simp] theorem ty342_z : ty342.zeroT = .int .i64 0 := rfl
@[simp] theorem ty345_s : ty345.size = 1 := id rfl
@[simp] theorem ty345_b : ty345.bytes = 8 := id rfl
@[simp] theorem ty345_r (cs : List T) : readAs ty345 cs = cs[0]? := nthD_eq cs 0
@[simp] theorem ty345_u : ty345.u = .ptr 360 := id rfl
@[simp] theorem ty345_z : ty345.zeroT = .nilp := rfl
@[simp] theorem ty349_s : ty349.size = 32 := id rfl
@[simp] theorem ty349_b : ty349.bytes = 32 := id rfl
@[simp] theorem ty349_r (cs : List T) : readAs ty349 cs = bnd (takeN 32 cs) fun r => some (.agg r) := rfl
@[simp] theorem ty349_u : ty349.u = .array 32 5 := id rfl
@[simp] theorem ty349_z : ty349.zeroT = .agg [.int .u8 0, .int .u8 0, .int .u8 0, .int .u8 0, .int .u8 0, .int .u8 0, .int .u8 0, .int .u8 0, .int .u8 0, .int .u8 0, .int .u8 0, .int .u8 0, .int .u8 0, .int .u8 0, .int .u8 0, .int .u8 0, .int .u8 0, .int .u8 0, .int .u8 0, .int .u8 0, .int .u8 0, .int .u8 0, .int .u8 0, .int .u8 0, .int .u8 0, .int .u8 0, .int .u8 0, .int .u8 0, .int .u8 0, .int .u8 0, .int .u8 0, .int .u8 0] := rfl
@[simp] theorem ty349_c : ty349.zero = [.int .u8 0, .int .u8 0, .int .u8 0, .int .u8 0, .int .u8 0, .int .u8 0, .int .u8 0, .int .u8 0, .int .u8 0, .int .u8 0, .int .u8 0, .int .u8 0, .int .u8 0, .int .u8 0, .int .u8 0, .int .u8 0, .int .u8 0, .int .u8 0, .int .u8 0, .int .u8 0, .int .u8 0, .int .u8 0, .int .u8 0, .int .u8 0, .int .u8 0, .int .u8 0, .int .u8 0, .int .u8 0, .int .u8 0, .int .u8 0, .int .u8 0, .int .u8 0] := rfl
@[simp] theorem ty350_s : ty350.size = 64 := id rfl
@[simp] theorem ty350_b : ty350.bytes = 64 := id rfl
@[simp] theorem ty350_r (cs : List T) : readAs ty350 cs = bnd (takeN 64 cs) fun r => some (.agg r) := rfl
@[simp] theorem ty350_u : ty350.u = .array 64 5 := id rfl
@[simp] theorem ty350_z : ty350.zeroT = .agg [.int .u8 0, .int .u8 0, .int .u8 0, .int .u8 0, .int .u8 0, .int .u8 0, .int .u8 0, .int .u8 0, .int .u8 0, .int .u8 0, .int .u8 0, .int .u8 0, .int .u8 0, .int .u8 0, .int .u8 0, .int .u8 0, .int .u8 0, .int .u8 0, .int .u8 0, .int .u8 0, .int .u8 0, .int .u8 0, .int .u8 0, .int .u8 0, .int .u8 0, .int .u8 0, .int .u8 0, .int .u8 0, .int .u8 0, .int .u8 0, .int .u8 0, .int .u8 0, .int .u8 0, .int .u8 0, .int .u8 0, .int .u8 0, .int .u8 0, .int .u8 0, .int .u8 0, .int .u8 0, .int .u8 0, .int .u8 0, .int .u8 0, .int .u8 0, .int .u8 0, .int .u8 0, .int .u8 0, .int .u8 0, .int .u8 0, .int .u8 0, .int .u8 0, .int .u8 0, .int .u8 0, .int .u8 0, .int .u8 0, .int .u8 0, .int .u8 0, .int .u8 0, .int .u8 0, .int .u8 0, .int .u8 0, .int .u8 0, .int .u8 0, .int .u8 0] := rfl
@[simp] theorem ty350_c : ty350.zero = [.int .u8 0, .int .u8 0, .int .u8 0, .int .u8 0, .int .u8 0, .int .u8 0, .int .u8 0, .int .u8 0, .int .u8 0, .int .u8 0, .int .u8 0, .int .u8 0, .int .u8 0, .int .u8 0, .int .u8 0, .int .u8 0, .int .u8 0, .int .u8 0, .int .u8 0, .int .u8 0, .int .u8 0, .int .u8 0, .int .u8 0, .int .u8 0, .int .u8 0, .int .u8 0, .int .u8 0, .int .u8 0, .int .u8 0, .int .u8 0, .int .u8 0, .int .u8 0, .int .u8 0, .int .u8 0, .int .u8 0, .int .u8 0, .int .u8 0, .int .u8 0, .int .u8 0, .int .u8 0, .int .u8 0, .int .u8 0, .int .u8 0, .int .u8 0, .int .u8 0, .int .u8 0, .int .u8 0, .int .u8 0, .int .u8 0, .int .u8 0, .int .u8 0, .int .u8 0, .int .u8 0, .int .u8 0, .int .u8 0, .int .u8 0, .int .u8 0, .int .u8 0, .int .u8 0, .int .u8 0, .int .u8 0, .int .u8 0, .int .u8 0, .int .u8 0] := rfl
@[simp] theorem ty351_s : ty351.size = 256 := id rfl
@[simp] theorem ty351_b : ty351.bytes = 256 := id rfl
@[simp] theorem ty351_r (cs : List T) : readAs ty351 cs = bnd (takeN 256 cs) fun r => some (.agg r) := rfl
@[simp] theorem ty351_u : ty351.u = .array 256 5 := id rfl
@[simp] theorem ty351_z : ty351.zeroT = .agg [.int .u8 0, .int .u8 0, .int .u8 0, .int .u8 0, .int .u8 0, .int .u8 0, .int .u8 0, .int .u8 0, .int .u8 0, .int .u8 0, .int .u8 0, .int .u8 0, .int .u8 0, .int .u8 0, .int .u8 0, .int .u8 0, .int .u8 0, .int .u8 0, .int .u8 0, .int .u8 0, .int .u8 0, .int .u8 0, .int .u8 0, .int .u8 0, .int .u8 0, .int .u8 0, .int .u8 0, .int .u8 0, .int .u8 0, .int .u8 0, .int .u8 0, .int .u8 0, .int .u8 0, .int .u8 0, .int .u8 0, .int .u8 0, .int .u8 0, .int .u8 0, .int .u8 0, .int .u8 0, .int .u8 0, .int .u8 0, .int .u8 0, .int .u8 0, .int .u8 0, .int .u8 0, .int .u8 0, .int .u8 0, .int .u8 0, .int .u8 0, .int .u8 0, .int .u8 0, .int .u8 0, .int .u8 0, .int .u8 0, .int .u8 0, .int .u8 0, .int .u8 0, .int .u8 0, .int .u8 0, .int .u8 0, .int .u8 0, .int .u8 0, .int .u8 0, .int .u8 0, .int .u8 0, .int .u8 0, .int .u8 0, .int .u8 0, .int .u8 0, .int .u8 0, .int .u8 0, .int .u8 0, .int .u8 0, .int .u8 0, .int .u8 0, .int .u8 0, .int .u8 0, .int .u8 0, .int .u8 0, .int .u8 0, .int .u8 0, .int .u8 0, .int .u8 0, .int .u8 0, .int .u8 0, .int .u8 0, .int .u8 0, .int .u8 0, .int .u8 0, .int .u8 0, .int .u8 0, .int .u8 0, .int .u8 0, .int .u8 0, .int .u8 0, .int .u8 0, .int .u8 0, .int .u8 0, .int .u8 0, .int .u8 0, .int .u8 0, .int .u8 0, .int .u8 0, .int .u8 0, .int .u8 0, .int .u8 0, .int .u8 0, .int .u8 0, .int .u8 0, .int .u8 0, .int .u8 0, .int .u8 0, .int .u8 0, .int .u8 0, .int .u8 0, .int .u8 0, .int .u8 0, .int .u8 0, .int .u8 0, .int .u8 0, .int .u8 0, .int .u8 0, .int .u8 0, .int .u8 0, .int .u8 0, .int .u8 0, .int .u8 0, .int .u8 0, .int .u8 0, .int .u8 0, .int .u8 0, .int .u8 0, .int .u8 0, .int .u8 0, .int .u8 0, .int .u8 0, .int .u8 0, .int .u8 0, .int .u8 0, .int .u8 0, .int .u8 0, .int .u8 0, .int .u8 0, .int .u8 0, .int .u8 0, .int .u8 0, .int .u8 0, .int .u8 0, .int .u8 0, .int .u8 0, .int .u8 0, .int .u8 0, .int .u8 0, .int .u8 0, .int .u8 0, .int .u8 0, .int .u8 0, .int .u8 0, .int .u8 0, .int .u8 0, .int .u8 0, .int .u8 0, .int .u8 0, .int .u8 0, .int .u8 0, .int .u8 0, .int .u8 0, .int .u8 0, .int .u8 0, .int .u8 0, .int .u8 0, .int .u8 0, .int .u8 0, .int .u8 0, .int .u8 0, .int .u8 0, .int .u8 0, .int .u8 0, .int .u8 0, .int .u8 0, .int .u8 0, .int .u8 0, .int .u8 0, .int .u8 0, .int .u8 0, .int .u8 0, .int .u8 0, .int .u8 0, .int .u8 0, .int .u8 0, .int .u8 0, .int .u8 0, .int .u8 0, .int .u8 0, .int .u8 0, .int .u8 0, .int .u8 0, .int .u8 0, .int .u8 0, .int .u8 0, .int .u8 0, .int .u8 0, .int .u8 0, .int .u8 0, .int .u8 0, .int .u8 0, .int .u8 0, .int .u8 0, .int .u8 0, .int .u8 0, .int .u8 0, .int .u8 0, .int .u8 0, .int .u8 0, .int .u8 0, .int .u8 0, .int .u8 0, .int .u8 0, .int .u8 0, .int .u8 0, .int .u8 0, .int .u8 0, .int .u8 0, .int .u8 0, .int .u8 0, .int .u8 0, .int .u8 0, .int .u8 0, .int .u8 0, .int .u8 0, .int .u8 0, .int .u8 0, .int .u8 0, .int .u8 0, .int .u8 0, .int .u8 0, .int .u8 0, .int .u8 0, .int .u8 0, .int .u8 0, .int .u8 0, .int .u8 0, .int .u8 0, .int .u8 0, .int .u8 0, .int .u8 0, .int .u8 0, .int .u8 0, .int .u8 0, .int .u8 0, .int .u8 0, .int .u8 0, .int .u8 0, .int .u8 0, .int .u8 0] := rfl
@[simp] theorem ty351_c : ty351.zero = [.int .u8 0, .int .u8 0, .int .u8 0, .int .u8 0, .int .u8 0, .int .u8 0, .int .u8 0, .int .u8 0, .int .u8 0, .int .u8 0, .int .u8 0, .int .u8 0, .int .u8 0, .int .u8 0, .int .u8 0, .int .u8 0, .int .u8 0, .int .u8 0, .int .u8 0, .int .u8 0, .int .u8 0, .int .u8 0, .int .u8 0, .int .u8 0, .int .u8 0, .int .u8 0, .int .u8 0, .int .u8 0, .int .u8 0, .int .u8 0, .int .u8 0, .int .u8 0, .int .u8 0, .int .u8 0, .int .u8 0, .int .u8 0, .int .u8 0, .int .u8 0, .int .u8 0, .int .u8 0, .int .u8 0, .int .u8 0, .int .u8 0, .int .u8 0, .int .u8 0, .int .u8 0, .int .u8 0, .int .u8 0, .int .u8 0, .int .u8 0, .int .u8 0, .int .u8 0, .int .u8 0, .int .u8 0, .int .u8 0, .int .u8 0, .int .u8 0, .int .u8 0, .int .u8 0, .int .u8 0, .int .u8 0, .int .u8 0, .int .u8 0, .int .u8 0, .int .u8 0, .int .u8 0, .int .u8 0, .int .u8 0, .int .u8 0, .int .u8 0, .int .u8 0, .int .u8 0, .int .u8 0, .int .u8 0, .int .u8 0, .int .u8 0, .int .u8 0, .int .u8 0, .int .u8 0, .int .u8 0, .int .u8 0, .int .u8 0, .int .u8 0, .int .u8 0, .int .u8 0, .int .u8 0, .int .u8 0, .int .u8 0, .int .u8 0, .int .u8 0, .int .u8 0, .int .u8 0, .int .u8 0, .int .u8 0, .int .u8 0, .int .u8 0, .int .u8 0, .int .u8 0, .int .u8 0, .int .u8 0, .int .u8 0, .int .u8 0, .int .u8 0, .int .u8 0, .int .u8 0, .int .u8 0, .int .u8 0, .int .u8 0, .int .u8 0, .int .u8 0, .int .u8 0, .int .u8 0, .int .u8 0, .int .u8 0, .int .u8 0, .int .u8 0, .int .u8 0, .int .u8 0, .int .u8 0, .int .u8 0, .int .u8 0, .int .u8 0, .int .u8 0, .int .u8 0, .int .u8 0, .int .u8 0, .int .u8 0, .int .u8 0, .int .u8 0, .int .u8 0, .int .u8 0, .int .u8 0, .int .u8 0, .int .u8 0, .int .u8 0, .int .u8 0, .int .u8 0, .int .u8 0, .int .u8 0, .int .u8 0, .int .u8 0, .int .u8 0, .int .u8 0, .int .u8 0, .int .u8 0, .int .u8 0, .int .u8 0, .int .u8 0, .int .u8 0, .int .u8 0, .int .u8 0, .int .u8 0, .int .u8 0, .int .u8 0, .int .u8 0, .int .u8 0, .int .u8 0, .int .u8 0, .int .u8 0, .int .u8 0, .int .u8 0, .int .u8 0, .int .u8 0, .int .u8 0, .int .u8 0, .int .u8 0, .int .u8 0, .int .u8 0, .int .u8 0, .int .u8 0, .int .u8 0, .int .u8 0, .int .u8 0, .int .u8 0, .int .u8 0, .int .u8 0, .int .u8 0, .int .u8 0, .int .u8 0, .int .u8 0, .int .u8 0, .int .u8 0, .int .u8 0, .int .u8 0, .int .u8 0, .int .u8 0, .int .u8 0, .int .u8 0, .int .u8 0, .int .u8 0, .int .u8 0, .int .u8 0, .int .u8 0, .int .u8 0, .int .u8 0, .int .u8 0, .int .u8 0, .int .u8 0, .int .u8 0, .int .u8 0, .int .u8 0, .int .u8 0, .int .u8 0, .int .u8 0, .int .u8 0, .int .u8 0, .int .u8 0, .int .u8 0, .int .u8 0, .int .u8 0, .int .u8 0, .int .u8 0, .int .u8 0, .int .u8 0, .int .u8 0, .int .u8 0, .int .u8 0, .int .u8 0, .int .u8 0, .int .u8 0, .int .u8 0, .int .u8 0, .int .u8 0, .int .u8 0, .int .u8 0, .int .u8 0, .int .u8 0, .int .u8 0, .int .u8 0, .int .u8 0, .int .u8 0, .int .u8 0, .int .u8 0, .int .u8 0, .int .u8 0, .int .u8 0, .int .u8 0, .int .u8 0, .int .u8 0, .int .u8 0, .int .u8 0, .int .u8 0, .int .u8 0, .int .u8 0, .int .u8 0, .int .u8 0, .int .u8 0, .int .u8 0, .int .u8 0, .int .u8 0, .int .u8 0, .int .u8 0, .int .u8 0, .int .u8 0, .int .u8 0, .int .u8 0] := rfl
@[simp] theorem ty353_s : ty353.size = 2 := id rfl
@[simp] theorem ty353_b : ty353.bytes = 2 := id rfl
@[simp] theorem ty353_r (cs : List T) : readAs ty353 cs = bnd (takeN 2 cs) fun r => some (.agg r) := rfl
@[simp] theorem ty353_u : ty353.u = .struct [(0, 5), (1, 5)] := id rfl
@[simp] theorem ty353_z : ty353.zeroT = .agg [.int .u8 0, .int .u8 0] := rfl
@[simp] theorem ty353_c : ty353.zero = [.int .u8 0, .int .u8 0] := rfl
@[simp] theorem ty354_s : ty354.size = 32 := id rfl
@[simp] theorem ty354_b : ty354.bytes = 32 := id rfl
@[simp] theorem ty354_r (cs : List T) : readAs ty354 cs = bnd (takeN 32 cs) fun r => some (.agg r) := rfl
@[simp] theorem ty354_u : ty354.u = .array 16 353 := id rfl
@[simp] theorem ty354_z : ty354.zeroT = .agg [.int .u8 0, .int .u8 0, .int .u8 0, .int .u8 0, .int .u8 0, .int .u8 0, .int .u8 0, .int .u8 0, .int .u8 0, .int .u8 0, .int .u8 0, .int .u8 0, .int .u8 0, .int .u8 0, .int .u8 0, .int .u8 0, .int .u8 0, .int .u8 0, .int .u8 0, .int .u8 0, .int .u8 0, .int .u8 0, .int .u8 0, .int .u8 0, .int .u8 0, .int .u8 0, .int .u8 0, .int .u8 0, .int .u8 0, .int .u8 0, .int .u8 0, .int .u8 0] := rfl
@[simp] theorem ty354_c : ty354.zero = [.int .u8 0, .int .u8 0, .int .u8 0, .int .u8 0, .int .u8 0, .int .u8 0, .int .u8 0, .int .u8 0, .int .u8 0, .int .u8 0, .int .u8 0, .int .u8 0, .int .u8 0, .int .u8 0, .int .u8 0, .int .u8 0, .int .u8 0, .int .u8 0, .int .u8 0, .int .u8 0, .int .u8 0, .int .u8 0, .int .u8 0, .int .u8 0, .int .u8 0, .int .u8 0, .int .u8 0, .int .u8 0, .int .u8 0, .int .u8 0, .int .u8 0, .int .u8 0] := rfl
@[simp] theorem ty360_s : ty360.size = 3 := id rfl
@[simp] theorem ty360_b : ty360.bytes = 48 := id rfl
@[simp] theorem ty360_r (cs : List T) : readAs ty360 cs = bnd (takeN 3 cs) fun r => some (.agg r) := rfl
@[simp] theorem ty360_u : ty360.u = .struct [(0, 9), (1, 9), (2, 315)] := id rfl
@[simp] theorem ty360_z : ty360.zeroT = .agg [.str [], .str [], .nili] := rfl
@[simp] theorem ty360_c : ty360.zero = [.str [], .str [], .nili] := rfl
@[simp] theorem ty362_s : ty362.size = 1 := id rfl
@[simp] theorem ty362_b : ty362.bytes = 8 := id rfl
@[simp] theorem ty362_r (cs : List T) : readAs ty362 cs = cs[0]? := nthD_eq cs 0
@[simp] theorem ty362_u : ty362.u = .ptr 5 := id rfl
@[simp] theorem ty362_z : ty362.zeroT = .nilp := rfl
@[simp] theorem ty363_s : ty363.size = 1 := id rfl
@[simp] theorem ty363_b : ty363.bytes = 8 := id rfl
@[simp] theorem ty363_r (cs : List T) : readAs ty363 cs = cs[0]? := nthD_eq cs 0
@[simp] theorem ty363_u : ty363.u = .ptr 365 := id rfl
@[simp] theorem ty363_z : ty363.zeroT = .nilp := rfl
@[simp] theorem ty365_s : ty365.size = 1 := id rfl
@[simp] theorem ty365_b : ty365.bytes = 16 := id rfl
@[simp] theorem ty365_r (cs : List T) : readAs ty365 cs = bnd (takeN 1 cs) fun r => some (.agg r) := rfl
@[simp] theorem ty365_u : ty365.u = .struct [(0, 9)] := id rfl
@[simp] theorem ty365_z : ty365.zeroT = .agg [.str []] := rfl
@[simp] theorem ty365_c : ty365.zero = [.str []] := rfl
def tys : Tree Ty := (.node (.node (.node (.node (.node (.node (.node .nil 2 (ty2) .nil) 3 (ty3) (.node .nil 4 (ty4) .nil)) 5 (ty5) (.node (.node .nil 9 (ty9) .nil) 21 (ty21) .nil)) 22 (ty22) (.node (.node (.node .nil 23 (ty23) .nil) 24 (ty24) .nil) 25 (ty25) (.node (.node .nil 26 (ty26) .nil) 28 (ty28) .nil))) 29 (ty29) (.node (.node (.node (.node .nil 31 (ty31) .nil) 34 (ty34) (.node .nil 36 (ty36) .nil)) 38 (ty38) (.node (.node .nil 44 (ty44) .nil) 46 (ty46) .nil)) 48 (ty48) (.node (.node (.node .nil 49 (ty49) .nil) 50 (ty50) .nil) 52 (ty52) (.node (.node .nil 53 (ty53) .nil) 54 (ty54) .nil)))) 56 (ty56) (.node (.node (.node (.node (.node .nil 57 (ty57) .nil) 58 (ty58) (.node .nil 59 (ty59) .nil)) 61 (ty61) (.node (.node .nil 63 (ty63) .nil) 64 (ty64) .nil)) 68 (ty68) (.node (.node (.node .nil 71 (ty71) .nil) 75 (ty75) .nil) 76 (ty76) (.node (.node .nil 77 (ty77) .nil) 79 (ty79) .nil))) 80 (ty80) (.node (.node (.node (.node .nil 90 (ty90) .nil) 92 (ty92) .nil) 94 (ty94) (.node (.node .nil 96 (ty96) .nil) 102 (ty102) .nil)) 103 (ty103) (.node (.node (.node .nil 109 (ty109) .nil) 112 (ty112) .nil) 113 (ty113) (.node (.node .nil 115 (ty115) .nil) 118 (ty118) .nil))))) 122 (ty122) (.node (.node (.node (.node (.node (.node .nil 124 (ty124) .nil) 127 (ty127) (.node .nil 129 (ty129) .nil)) 136 (ty136) (.node (.node .nil 137 (ty137) .nil) 139 (ty139) .nil)) 141 (ty141) (.node (.node (.node .nil 149 (ty149) .nil) 150 (ty150) .nil) 152 (ty152) (.node (.node .nil 155 (ty155) .nil) 157 (ty157) .nil))) 158 (ty158) (.node (.node (.node (.node .nil 160 (ty160) .nil) 163 (ty163) (.node .nil 175 (ty175) .nil)) 180 (ty180) (.node (.node .nil 188 (ty188) .nil) 190 (ty190) .nil)) 196 (ty196) (.node (.node (.node .nil 198 (ty198) .nil) 200 (ty200) .nil) 203 (ty203) (.node (.node .nil 206 (ty206) .nil) 214 (ty214) .nil)))) 216 (ty216) (.node (.node (.node (.node (.node .nil 238 (ty238) .nil) 256 (ty256) (.node .nil 261 (ty261) .nil)) 265 (ty265) (.node (.node .nil 296 (ty296) .nil) 306 (ty306) .nil)) 309 (ty309) (.node (.node (.node .nil 313 (ty313) .nil) 315 (ty315) .nil) 319 (ty319) (.node (.node .nil 320 (ty320) .nil) 333 (ty333) .nil))) 334 (ty334) (.node (.node (.node (.node .nil 342 (ty342) .nil) 345 (ty345) .nil) 349 (ty349) (.node (.node .nil 350 (ty350) .nil) 351 (ty351) .nil)) 353 (ty353) (.node (.node (.node .nil 354 (ty354) .nil) 360 (ty360) .nil) 362 (ty362) (.node (.node .nil 363 (ty363) .nil) 365 (ty365) .nil))))))
def gl0 : List T := [T.int .i64 0, T.int .i64 0, T.int .i64 0, T.int .i64 0, T.int .i64 0, T.int .i64 0, T.int .i64 3, T.int .i64 3, T.int .i64 4, T.int .i64 4, T.int .i64 5, T.int .i64 6, T.int .i64 7, T.int .i64 8, T.int .i64 9, T.int .i64 10, T.int .i64 11, T.int .i64 12, T.int .i64 13, T.int .i64 14, T.int .i64 15, T.int .i64 16, T.int .i64 18, T.int .i64 19, T.int .i64 20, T.int .i64 21, T.int .i64 22, T.int .i64 23, T.int .i64 2]
def gl1 : List T := [T.str [118, 97, 114], T.str [118, 111, 108, 97, 116, 105, 108, 101], T.str [109, 117, 116, 101, 120], T.str [114, 119, 108, 111, 99, 107], T.str [99, 111, 110, 100], T.str [102, 117, 116, 117, 114, 101], T.str [116, 104, 114, 101, 97, 100], T.str [105, 102], T.str [101, 108, 115, 101], T.str [119, 104, 105, 108, 101], T.str [108, 111, 99, 107], T.str [114, 101, 97, 100], T.str [119, 114, 105, 116, 101], T.str [116, 114, 97, 110, 115, 97, 99, 116, 105, 111, 110], T.str [97, 116, 111, 109, 105, 99], T.str [119, 97, 105, 116], T.str [110, 111, 116, 105, 102, 121], T.str [110, 111, 116, 105, 102, 121, 97, 108, 108], T.str [115, 112, 97, 119, 110], T.str [106, 111, 105, 110], T.str [115, 101, 116], T.str [103, 101, 116]]
def gl2 : List T := [T.int .u64 1, T.int .u64 10, T.int .u64 100, T.int .u64 1000, T.int .u64 10000, T.int .u64 100000, T.int .u64 1000000, T.int .u64 10000000, T.int .u64 100000000, T.int .u64 1000000000, T.int .u64 10000000000, T.int .u64 100000000000, T.int .u64 1000000000000, T.int .u64 10000000000000, T.int .u64 100000000000000, T.int .u64 1000000000000000, T.int .u64 10000000000000000, T.int .u64 100000000000000000, T.int .u64 1000000000000000000, T.int .u64 10000000000000000000]
def gl4 : List T := [T.int .u8 0, T.int .u8 1, T.int .u8 28, T.int .u8 2, T.int .u8 29, T.int .u8 14, T.int .u8 24, T.int .u8 3, T.int .u8 30, T.int .u8 22, T.int .u8 20, T.int .u8 15, T.int .u8 25, T.int .u8 17, T.int .u8 4, T.int .u8 8, T.int .u8 31, T.int .u8 27, T.int .u8 13, T.int .u8 23, T.int .u8 21, T.int .u8 19, T.int .u8 16, T.int .u8 7, T.int .u8 26, T.int .u8 12, T.int .u8 18, T.int .u8 6, T.int .u8 11, T.int .u8 5, T.int .u8 10, T.int .u8 9]
def gl5 : List T := [T.int .u8 0, T.int .u8 1, T.int .u8 56, T.int .u8 2, T.int .u8 57, T.int .u8 49, T.int .u8 28, T.int .u8 3, T.int .u8 61, T.int .u8 58, T.int .u8 42, T.int .u8 50, T.int .u8 38, T.int .u8 29, T.int .u8 17, T.int .u8 4, T.int .u8 62, T.int .u8 47, T.int .u8 59, T.int .u8 36, T.int .u8 45, T.int .u8 43, T.int .u8 51, T.int .u8 22, T.int .u8 53, T.int .u8 39, T.int .u8 33, T.int .u8 30, T.int .u8 24, T.int .u8 18, T.int .u8 12, T.int .u8 5, T.int .u8 63, T.int .u8 55, T.int .u8 48, T.int .u8 27, T.int .u8 60, T.int .u8 41, T.int .u8 37, T.int .u8 16, T.int .u8 46, T.int .u8 35, T.int .u8 44, T.int .u8 21, T.int .u8 52, T.int .u8 32, T.int .u8 23, T.int .u8 11, T.int .u8 54, T.int .u8 26, T.int .u8 40, T.int .u8 15, T.int .u8 34, T.int .u8 20, T.int .u8 31, T.int .u8 10, T.int .u8 25, T.int .u8 14, T.int .u8 19, T.int .u8 9, T.int .u8 13, T.int .u8 8, T.int .u8 7, T.int .u8 6]
def gls : Tree (List T) := (.node (.node (.node .nil 0 (gl0) .nil) 1 (gl1) .nil) 2 (gl2) (.node (.node .nil 4 (gl4) .nil) 5 (gl5) .nil))
noncomputable def cx : Ctx := { ty := fun t => tys.find t, fn := fun _ => none, gl := fun g => gls.find g }
@[simp] theorem cxty2 : cx.ty 2 = some ty2 := by kernel_rfl
@[simp] theorem cxty3 : cx.ty 3 = some ty3 := by kernel_rfl
@[simp] theorem cxty4 : cx.ty 4 = some ty4 := by kernel_rfl
@[simp] theorem cxty5 : cx.ty 5 = some ty5 := by kernel_rfl
@[simp] theorem cxty9 : cx.ty 9 = some ty9 := by kernel_rfl
@[simp] theorem cxty21 : cx.ty 21 = some ty21 := by kernel_rfl
@[simp] theorem cxty22 : cx.ty 22 = some ty22 := by kernel_rfl
@[simp] theorem cxty23 : cx.ty 23 = some ty23 := by kernel_rfl
@[simp] theorem cxty24 : cx.ty 24 = some ty24 := by kernel_rfl
@[simp] theorem cxty25 : cx.ty 25 = some ty25 := by kernel_rfl
@[simp] theorem cxty26 : cx.ty 26 = some ty26 := by kernel_rfl
@[simp] theorem cxty28 : cx.ty 28 = some ty28 := by kernel_rfl
@[simp] theorem cxty29 : cx.ty 29 = some ty29 := by kernel_rfl
@[simp] theorem cxty31 : cx.ty 31 = some ty31 := by kernel_rfl
@[simp] theorem cxty34 : cx.ty 34 = some ty34 := by kernel_rfl
@[simp] theorem cxty36 : cx.ty 36 = some ty36 := by kernel_rfl
@[simp] theorem cxty38 : cx.ty 38 = some ty38 := by kernel_rfl
@[simp] theorem cxty44 : cx.ty 44 = some ty44 := by kernel_rfl
@[simp] theorem cxty46 : cx.ty 46 = some ty46 := by kernel_rfl
@[simp] theorem cxty48 : cx.ty 48 = some ty48 := by kernel_rfl
@[simp] theorem cxty49 : cx.ty 49 = some ty49 := by kernel_rfl
@[simp] theorem cxty50 : cx.ty 50 = some ty50 := by kernel_rfl
@[simp] theorem cxty52 : cx.ty 52 = some ty52 := by kernel_rfl
@[simp] theorem cxty53 : cx.ty 53 = some ty53 := by kernel_rfl
@[simp] theorem cxty54 : cx.ty 54 = some ty54 := by kernel_rfl
@[simp] theorem cxty56 : cx.ty 56 = some ty56 := by kernel_rfl
@[simp] theorem cxty57 : cx.ty 57 = some ty57 := by kernel_rfl
@[simp] theorem cxty58 : cx.ty 58 = some ty58 := by kernel_rfl
@[simp] theorem cxty59 : cx.ty 59 = some ty59 := by kernel_rfl
@[simp] theorem cxty61 : cx.ty 61 = some ty61 := by kernel_rfl
@[simp] theorem cxty63 : cx.ty 63 = some ty63 := by kernel_rfl
@[simp] theorem cxty64 : cx.ty 64 = some ty64 := by kernel_rfl
@[simp] theorem cxty68 : cx.ty 68 = some ty68 := by kernel_rfl
@[simp] theorem cxty71 : cx.ty 71 = some ty71 := by kernel_rfl
@[simp] theorem cxty75 : cx.ty 75 = some ty75 := by kernel_rfl
@[simp] theorem cxty76 : cx.ty 76 = some ty76 := by kernel_rfl
@[simp] theorem cxty77 : cx.ty 77 = some ty77 := by kernel_rfl
@[simp] theorem cxty79 : cx.ty 79 = some ty79 := by kernel_rfl
@[simp] theorem cxty80 : cx.ty 80 = some ty80 := by kernel_rfl
@[simp] theorem cxty90 : cx.ty 90 = some ty90 := by kernel_rfl
@[simp] theorem cxty92 : cx.ty 92 = some ty92 := by kernel_rfl
@[simp] theorem cxty94 : cx.ty 94 = some ty94 := by kernel_rfl
@[simp] theorem cxty96 : cx.ty 96 = some ty96 := by kernel_rfl
@[simp] theorem cxty102 : cx.ty 102 = some ty102 := by kernel_rfl
@[simp] theorem cxty103 : cx.ty 103 = some ty103 := by kernel_rfl
@[simp] theorem cxty109 : cx.ty 109 = some ty109 := by kernel_rfl
@[simp] theorem cxty112 : cx.ty 112 = some ty112 := by kernel_rfl
@[simp] theorem cxty113 : cx.ty 113 = some ty113 := by kernel_rfl
@[simp] theorem cxty115 : cx.ty 115 = some ty115 := by kernel_rfl
@[simp] theorem cxty118 : cx.ty 118 = some ty118 := by kernel_rfl
@[simp] theorem cxty122 : cx.ty 122 = some ty122 := by kernel_rfl
@[simp] theorem cxty124 : cx.ty 124 = some ty124 := by kernel_rfl
@[simp] theorem cxty127 : cx.ty 127 = some ty127 := by kernel_rfl
@[simp] theorem cxty129 : cx.ty 129 = some ty129 := by kernel_rfl
@[simp] theorem cxty136 : cx.ty 136 = some ty136 := by kernel_rfl
@[simp] theorem cxty137 : cx.ty 137 = some ty137 := by kernel_rfl
@[simp] theorem cxty139 : cx.ty 139 = some ty139 := by kernel_rfl
@[simp] theorem cxty141 : cx.ty 141 = some ty141 := by kernel_rfl
@[simp] theorem cxty149 : cx.ty 149 = some ty149 := by kernel_rfl
@[simp] theorem cxty150 : cx.ty 150 = some ty150 := by kernel_rfl
@[simp] theorem cxty152 : cx.ty 152 = some ty152 := by kernel_rfl
@[simp] theorem cxty155 : cx.ty 155 = some ty155 := by kernel_rfl
@[simp] theorem cxty157 : cx.ty 157 = some ty157 := by kernel_rfl
@[simp] theorem cxty158 : cx.ty 158 = some ty158 := by kernel_rfl
@[simp] theorem cxty160 : cx.ty 160 = some ty160 := by kernel_rfl
@[simp] theorem cxty163 : cx.ty 163 = some ty163 := by kernel_rfl
@[simp] theorem cxty175 : cx.ty 175 = some ty175 := by kernel_rfl
@[simp] theorem cxty180 : cx.ty 180 = some ty180 := by kernel_rfl
@[simp] theorem cxty188 : cx.ty 188 = some ty188 := by kernel_rfl
@[simp] theorem cxty190 : cx.ty 190 = some ty190 := by kernel_rfl
@[simp] theorem cxty196 : cx.ty 196 = some ty196 := by kernel_rfl
@[simp] theorem cxty198 : cx.ty 198 = some ty198 := by kernel_rfl
@[simp] theorem cxty200 : cx.ty 200 = some ty200 := by kernel_rfl
@[simp] theorem cxty203 : cx.ty 203 = some ty203 := by kernel_rfl
@[simp] theorem cxty206 : cx.ty 206 = some ty206 := by kernel_rfl
@[simp] theorem cxty214 : cx.ty 214 = some ty214 := by kernel_rfl
@[simp] theorem cxty216 : cx.ty 216 = some ty216 := by kernel_rfl
@[simp] theorem cxty238 : cx.ty 238 = some ty238 := by kernel_rfl
@[simp] theorem cxty256 : cx.ty 256 = some ty256 := by kernel_rfl
@[simp] theorem cxty261 : cx.ty 261 = some ty261 := by kernel_rfl
@[simp] theorem cxty265 : cx.ty 265 = some ty265 := by kernel_rfl
@[simp] theorem cxty296 : cx.ty 296 = some ty296 := by kernel_rfl
@[simp] theorem cxty306 : cx.ty 306 = some ty306 := by kernel_rfl
@[simp] theorem cxty309 : cx.ty 309 = some ty309 := by kernel_rfl
@[simp] theorem cxty313 : cx.ty 313 = some ty313 := by kernel_rfl
@[simp] theorem cxty315 : cx.ty 315 = some ty315 := by kernel_rfl
@[simp] theorem cxty319 : cx.ty 319 = some ty319 := by kernel_rfl
@[simp] theorem cxty320 : cx.ty 320 = some ty320 := by kernel_rfl
@[simp] theorem cxty333 : cx.ty 333 = some ty333 := by kernel_rfl
@[simp] theorem cxty334 : cx.ty 334 = some ty334 := by kernel_rfl
@[simp] theorem cxty342 : cx.ty 342 = some ty342 := by kernel_rfl
@[simp] theorem cxty345 : cx.ty 345 = some ty345 := by kernel_rfl
@[simp] theorem cxty349 : cx.ty 349 = some ty349 := by kernel_rfl
@[simp] theorem cxty350 : cx.ty 350 = some ty350 := by kernel_rfl
@[simp] theorem cxty351 : cx.ty 351 = some ty351 := by kernel_rfl
@[simp] theorem cxty353 : cx.ty 353 = some ty353 := by kernel_rfl
@[simp] theorem cxty354 : cx.ty 354 = some ty354 := by kernel_rfl
@[simp] theorem cxty360 : cx.ty 360 = some ty360 := by kernel_rfl
@[simp] theorem cxty362 : cx.ty 362 = some ty362 := by kernel_rfl
@[simp] theorem cxty363 : cx.ty 363 = some ty363 := by kernel_rfl
@[simp] theorem cxty365 : cx.ty 365 = some ty365 := by kernel_rfl
theorem cxgl0 : cx.gl 0 = some gl0 := by kernel_rfl
theorem cxgl1 : cx.gl 1 = some gl1 := by kernel_rfl
theorem cxgl2 : cx.gl 2 = some gl2 := by kernel_rfl
theorem cxgl4 : cx.gl 4 = some gl4 := by kernel_rfl
theorem cxgl5 : cx.gl 5 = some gl5 := by kernel_rfl
end Go.Proofs.YtddpfdjgppabhaaGreatDoor
