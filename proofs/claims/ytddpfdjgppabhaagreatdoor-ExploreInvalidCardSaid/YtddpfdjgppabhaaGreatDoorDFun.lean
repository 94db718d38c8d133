/- The functions that are walked. By program (mkdeep.py). -/
import Derived.Test.YtddpfdjgppabhaaGreatDoorDTab
import Derived.Test.YtddpfdjgppabhaaGreatDoorProg
set_option linter.unusedSimpArgs false
set_option linter.unusedVariables false
namespace Go.Proofs.YtddpfdjgppabhaaGreatDoor
open Go Go.TI
set_option linter.unusedVariables false
set_option maxRecDepth 100000
theorem mixed : Tryz.prog.follows .mixedOrders = true := by kernel_rfl
theorem tyOk2 : tyOf Tryz.prog 2 ty2.cmp = some ty2 := by kernel_rfl
theorem tyOk3 : tyOf Tryz.prog 3 ty3.cmp = some ty3 := by kernel_rfl
theorem tyOk4 : tyOf Tryz.prog 4 ty4.cmp = some ty4 := by kernel_rfl
theorem tyOk5 : tyOf Tryz.prog 5 ty5.cmp = some ty5 := by kernel_rfl
theorem tyOk9 : tyOf Tryz.prog 9 ty9.cmp = some ty9 := by kernel_rfl
theorem tyOk21 : tyOf Tryz.prog 21 ty21.cmp = some ty21 := by kernel_rfl
theorem tyOk22 : tyOf Tryz.prog 22 ty22.cmp = some ty22 := by kernel_rfl
theorem tyOk23 : tyOf Tryz.prog 23 ty23.cmp = some ty23 := by kernel_rfl
theorem tyOk24 : tyOf Tryz.prog 24 ty24.cmp = some ty24 := by kernel_rfl
theorem tyOk25 : tyOf Tryz.prog 25 ty25.cmp = some ty25 := by kernel_rfl
theorem tyOk26 : tyOf Tryz.prog 26 ty26.cmp = some ty26 := by kernel_rfl
theorem tyOk28 : tyOf Tryz.prog 28 ty28.cmp = some ty28 := by kernel_rfl
theorem tyOk29 : tyOf Tryz.prog 29 ty29.cmp = some ty29 := by kernel_rfl
theorem tyOk31 : tyOf Tryz.prog 31 ty31.cmp = some ty31 := by kernel_rfl
theorem tyOk34 : tyOf Tryz.prog 34 ty34.cmp = some ty34 := by kernel_rfl
theorem tyOk36 : tyOf Tryz.prog 36 ty36.cmp = some ty36 := by kernel_rfl
theorem tyOk38 : tyOf Tryz.prog 38 ty38.cmp = some ty38 := by kernel_rfl
theorem tyOk44 : tyOf Tryz.prog 44 ty44.cmp = some ty44 := by kernel_rfl
theorem tyOk46 : tyOf Tryz.prog 46 ty46.cmp = some ty46 := by kernel_rfl
theorem tyOk48 : tyOf Tryz.prog 48 ty48.cmp = some ty48 := by kernel_rfl
theorem tyOk49 : tyOf Tryz.prog 49 ty49.cmp = some ty49 := by kernel_rfl
theorem tyOk50 : tyOf Tryz.prog 50 ty50.cmp = some ty50 := by kernel_rfl
theorem tyOk52 : tyOf Tryz.prog 52 ty52.cmp = some ty52 := by kernel_rfl
theorem tyOk53 : tyOf Tryz.prog 53 ty53.cmp = some ty53 := by kernel_rfl
theorem tyOk54 : tyOf Tryz.prog 54 ty54.cmp = some ty54 := by kernel_rfl
theorem tyOk56 : tyOf Tryz.prog 56 ty56.cmp = some ty56 := by kernel_rfl
theorem tyOk57 : tyOf Tryz.prog 57 ty57.cmp = some ty57 := by kernel_rfl
theorem tyOk58 : tyOf Tryz.prog 58 ty58.cmp = some ty58 := by kernel_rfl
theorem tyOk59 : tyOf Tryz.prog 59 ty59.cmp = some ty59 := by kernel_rfl
theorem tyOk61 : tyOf Tryz.prog 61 ty61.cmp = some ty61 := by kernel_rfl
theorem tyOk63 : tyOf Tryz.prog 63 ty63.cmp = some ty63 := by kernel_rfl
theorem tyOk64 : tyOf Tryz.prog 64 ty64.cmp = some ty64 := by kernel_rfl
theorem tyOk68 : tyOf Tryz.prog 68 ty68.cmp = some ty68 := by kernel_rfl
theorem tyOk71 : tyOf Tryz.prog 71 ty71.cmp = some ty71 := by kernel_rfl
theorem tyOk75 : tyOf Tryz.prog 75 ty75.cmp = some ty75 := by kernel_rfl
theorem tyOk76 : tyOf Tryz.prog 76 ty76.cmp = some ty76 := by kernel_rfl
theorem tyOk77 : tyOf Tryz.prog 77 ty77.cmp = some ty77 := by kernel_rfl
theorem tyOk79 : tyOf Tryz.prog 79 ty79.cmp = some ty79 := by kernel_rfl
theorem tyOk80 : tyOf Tryz.prog 80 ty80.cmp = some ty80 := by kernel_rfl
theorem tyOk90 : tyOf Tryz.prog 90 ty90.cmp = some ty90 := by kernel_rfl
theorem tyOk92 : tyOf Tryz.prog 92 ty92.cmp = some ty92 := by kernel_rfl
theorem tyOk94 : tyOf Tryz.prog 94 ty94.cmp = some ty94 := by kernel_rfl
theorem tyOk96 : tyOf Tryz.prog 96 ty96.cmp = some ty96 := by kernel_rfl
theorem tyOk102 : tyOf Tryz.prog 102 ty102.cmp = some ty102 := by kernel_rfl
theorem tyOk103 : tyOf Tryz.prog 103 ty103.cmp = some ty103 := by kernel_rfl
theorem tyOk109 : tyOf Tryz.prog 109 ty109.cmp = some ty109 := by kernel_rfl
theorem tyOk112 : tyOf Tryz.prog 112 ty112.cmp = some ty112 := by kernel_rfl
theorem tyOk113 : tyOf Tryz.prog 113 ty113.cmp = some ty113 := by kernel_rfl
theorem tyOk115 : tyOf Tryz.prog 115 ty115.cmp = some ty115 := by kernel_rfl
theorem tyOk118 : tyOf Tryz.prog 118 ty118.cmp = some ty118 := by kernel_rfl
theorem tyOk122 : tyOf Tryz.prog 122 ty122.cmp = some ty122 := by kernel_rfl
theorem tyOk124 : tyOf Tryz.prog 124 ty124.cmp = some ty124 := by kernel_rfl
theorem tyOk127 : tyOf Tryz.prog 127 ty127.cmp = some ty127 := by kernel_rfl
theorem tyOk129 : tyOf Tryz.prog 129 ty129.cmp = some ty129 := by kernel_rfl
theorem tyOk136 : tyOf Tryz.prog 136 ty136.cmp = some ty136 := by kernel_rfl
theorem tyOk137 : tyOf Tryz.prog 137 ty137.cmp = some ty137 := by kernel_rfl
theorem tyOk139 : tyOf Tryz.prog 139 ty139.cmp = some ty139 := by kernel_rfl
theorem tyOk141 : tyOf Tryz.prog 141 ty141.cmp = some ty141 := by kernel_rfl
theorem tyOk149 : tyOf Tryz.prog 149 ty149.cmp = some ty149 := by kernel_rfl
theorem tyOk150 : tyOf Tryz.prog 150 ty150.cmp = some ty150 := by kernel_rfl
theorem tyOk152 : tyOf Tryz.prog 152 ty152.cmp = some ty152 := by kernel_rfl
theorem tyOk155 : tyOf Tryz.prog 155 ty155.cmp = some ty155 := by kernel_rfl
theorem tyOk157 : tyOf Tryz.prog 157 ty157.cmp = some ty157 := by kernel_rfl
theorem tyOk158 : tyOf Tryz.prog 158 ty158.cmp = some ty158 := by kernel_rfl
theorem tyOk160 : tyOf Tryz.prog 160 ty160.cmp = some ty160 := by kernel_rfl
theorem tyOk163 : tyOf Tryz.prog 163 ty163.cmp = some ty163 := by kernel_rfl
theorem tyOk175 : tyOf Tryz.prog 175 ty175.cmp = some ty175 := by kernel_rfl
theorem tyOk180 : tyOf Tryz.prog 180 ty180.cmp = some ty180 := by kernel_rfl
theorem tyOk188 : tyOf Tryz.prog 188 ty188.cmp = some ty188 := by kernel_rfl
theorem tyOk190 : tyOf Tryz.prog 190 ty190.cmp = some ty190 := by kernel_rfl
theorem tyOk196 : tyOf Tryz.prog 196 ty196.cmp = some ty196 := by kernel_rfl
theorem tyOk198 : tyOf Tryz.prog 198 ty198.cmp = some ty198 := by kernel_rfl
theorem tyOk200 : tyOf Tryz.prog 200 ty200.cmp = some ty200 := by kernel_rfl
theorem tyOk203 : tyOf Tryz.prog 203 ty203.cmp = some ty203 := by kernel_rfl
theorem tyOk206 : tyOf Tryz.prog 206 ty206.cmp = some ty206 := by kernel_rfl
theorem tyOk214 : tyOf Tryz.prog 214 ty214.cmp = some ty214 := by kernel_rfl
theorem tyOk216 : tyOf Tryz.prog 216 ty216.cmp = some ty216 := by kernel_rfl
theorem tyOk238 : tyOf Tryz.prog 238 ty238.cmp = some ty238 := by kernel_rfl
theorem tyOk256 : tyOf Tryz.prog 256 ty256.cmp = some ty256 := by kernel_rfl
theorem tyOk261 : tyOf Tryz.prog 261 ty261.cmp = some ty261 := by kernel_rfl
theorem tyOk265 : tyOf Tryz.prog 265 ty265.cmp = some ty265 := by kernel_rfl
theorem tyOk296 : tyOf Tryz.prog 296 ty296.cmp = some ty296 := by kernel_rfl
theorem tyOk306 : tyOf Tryz.prog 306 ty306.cmp = some ty306 := by kernel_rfl
theorem tyOk309 : tyOf Tryz.prog 309 ty309.cmp = some ty309 := by kernel_rfl
theorem tyOk313 : tyOf Tryz.prog 313 ty313.cmp = some ty313 := by kernel_rfl
theorem tyOk315 : tyOf Tryz.prog 315 ty315.cmp = some ty315 := by kernel_rfl
theorem tyOk319 : tyOf Tryz.prog 319 ty319.cmp = some ty319 := by kernel_rfl
theorem tyOk320 : tyOf Tryz.prog 320 ty320.cmp = some ty320 := by kernel_rfl
theorem tyOk333 : tyOf Tryz.prog 333 ty333.cmp = some ty333 := by kernel_rfl
theorem tyOk334 : tyOf Tryz.prog 334 ty334.cmp = some ty334 := by kernel_rfl
theorem tyOk342 : tyOf Tryz.prog 342 ty342.cmp = some ty342 := by kernel_rfl
theorem tyOk345 : tyOf Tryz.prog 345 ty345.cmp = some ty345 := by kernel_rfl
theorem tyOk349 : tyOf Tryz.prog 349 ty349.cmp = some ty349 := by kernel_rfl
theorem tyOk350 : tyOf Tryz.prog 350 ty350.cmp = some ty350 := by kernel_rfl
theorem tyOk351 : tyOf Tryz.prog 351 ty351.cmp = some ty351 := by kernel_rfl
theorem tyOk353 : tyOf Tryz.prog 353 ty353.cmp = some ty353 := by kernel_rfl
theorem tyOk354 : tyOf Tryz.prog 354 ty354.cmp = some ty354 := by kernel_rfl
theorem tyOk360 : tyOf Tryz.prog 360 ty360.cmp = some ty360 := by kernel_rfl
theorem tyOk362 : tyOf Tryz.prog 362 ty362.cmp = some ty362 := by kernel_rfl
theorem tyOk363 : tyOf Tryz.prog 363 ty363.cmp = some ty363 := by kernel_rfl
theorem tyOk365 : tyOf Tryz.prog 365 ty365.cmp = some ty365 := by kernel_rfl
theorem tysAll : tys.All fun t ty => tyOf Tryz.prog t ty.cmp = some ty := (.node (.node (.node (.node (.node (.node (.node .nil tyOk2 .nil) tyOk3 (.node .nil tyOk4 .nil)) tyOk5 (.node (.node .nil tyOk9 .nil) tyOk21 .nil)) tyOk22 (.node (.node (.node .nil tyOk23 .nil) tyOk24 .nil) tyOk25 (.node (.node .nil tyOk26 .nil) tyOk28 .nil))) tyOk29 (.node (.node (.node (.node .nil tyOk31 .nil) tyOk34 (.node .nil tyOk36 .nil)) tyOk38 (.node (.node .nil tyOk44 .nil) tyOk46 .nil)) tyOk48 (.node (.node (.node .nil tyOk49 .nil) tyOk50 .nil) tyOk52 (.node (.node .nil tyOk53 .nil) tyOk54 .nil)))) tyOk56 (.node (.node (.node (.node (.node .nil tyOk57 .nil) tyOk58 (.node .nil tyOk59 .nil)) tyOk61 (.node (.node .nil tyOk63 .nil) tyOk64 .nil)) tyOk68 (.node (.node (.node .nil tyOk71 .nil) tyOk75 .nil) tyOk76 (.node (.node .nil tyOk77 .nil) tyOk79 .nil))) tyOk80 (.node (.node (.node (.node .nil tyOk90 .nil) tyOk92 .nil) tyOk94 (.node (.node .nil tyOk96 .nil) tyOk102 .nil)) tyOk103 (.node (.node (.node .nil tyOk109 .nil) tyOk112 .nil) tyOk113 (.node (.node .nil tyOk115 .nil) tyOk118 .nil))))) tyOk122 (.node (.node (.node (.node (.node (.node .nil tyOk124 .nil) tyOk127 (.node .nil tyOk129 .nil)) tyOk136 (.node (.node .nil tyOk137 .nil) tyOk139 .nil)) tyOk141 (.node (.node (.node .nil tyOk149 .nil) tyOk150 .nil) tyOk152 (.node (.node .nil tyOk155 .nil) tyOk157 .nil))) tyOk158 (.node (.node (.node (.node .nil tyOk160 .nil) tyOk163 (.node .nil tyOk175 .nil)) tyOk180 (.node (.node .nil tyOk188 .nil) tyOk190 .nil)) tyOk196 (.node (.node (.node .nil tyOk198 .nil) tyOk200 .nil) tyOk203 (.node (.node .nil tyOk206 .nil) tyOk214 .nil)))) tyOk216 (.node (.node (.node (.node (.node .nil tyOk238 .nil) tyOk256 (.node .nil tyOk261 .nil)) tyOk265 (.node (.node .nil tyOk296 .nil) tyOk306 .nil)) tyOk309 (.node (.node (.node .nil tyOk313 .nil) tyOk315 .nil) tyOk319 (.node (.node .nil tyOk320 .nil) tyOk333 .nil))) tyOk334 (.node (.node (.node (.node .nil tyOk342 .nil) tyOk345 .nil) tyOk349 (.node (.node .nil tyOk350 .nil) tyOk351 .nil)) tyOk353 (.node (.node (.node .nil tyOk354 .nil) tyOk360 .nil) tyOk362 (.node (.node .nil tyOk363 .nil) tyOk365 .nil))))))
theorem tysOk : TysOk Tryz.prog cx := ⟨fun t ty h => ⟨_, tysAll.find h⟩⟩
/- interleavelaw10.ExploreInvalid -/
def dl3 : DL := []
theorem fn3 : FnAt Tryz.prog cx 3 Tryz.f3 16407 dl3 := ⟨Tryz.func3, by kernel_rfl, by kernel_rfl⟩
/- interleaveref06.Valid -/
def dl4 : DL := []
theorem fn4 : FnAt Tryz.prog cx 4 Tryz.f4 17184194575 dl4 := ⟨Tryz.func4, by kernel_rfl, by kernel_rfl⟩
/- explore.Count -/
def dl5 : DL := []
theorem fn5 : FnAt Tryz.prog cx 5 Tryz.f5 55 dl5 := ⟨Tryz.func5, by kernel_rfl, by kernel_rfl⟩
/- explore.Races -/
def dl6 : DL := []
theorem fn6 : FnAt Tryz.prog cx 6 Tryz.f6 82167 dl6 := ⟨Tryz.func6, by kernel_rfl, by kernel_rfl⟩
/- explore.Deadlocks -/
def dl7 : DL := []
theorem fn7 : FnAt Tryz.prog cx 7 Tryz.f7 55 dl7 := ⟨Tryz.func7, by kernel_rfl, by kernel_rfl⟩
/- explore.Outcomes -/
def dl8 : DL := []
theorem fn8 : FnAt Tryz.prog cx 8 Tryz.f8 55 dl8 := ⟨Tryz.func8, by kernel_rfl, by kernel_rfl⟩
/- interleaveref06.ValidWorld -/
def dl10 : DL := []
theorem fn10 : FnAt Tryz.prog cx 10 Tryz.f10 95827739445721067874190659254502973333984266632037375 dl10 := ⟨Tryz.func10, by kernel_rfl, by kernel_rfl⟩
/- interleaveref06.validThread -/
def dl11 : DL := []
theorem fn11 : FnAt Tryz.prog cx 11 Tryz.f11 348794743007212715313826391199890521722863 dl11 := ⟨Tryz.func11, by kernel_rfl, by kernel_rfl⟩
/- explore.visit -/
def dl12 : DL := []
theorem fn12 : FnAt Tryz.prog cx 12 Tryz.f12 18279342225255375 dl12 := ⟨Tryz.func12, by kernel_rfl, by kernel_rfl⟩
/- explore.Count$1 -/
def dl13 : DL := []
theorem fn13 : FnAt Tryz.prog cx 13 Tryz.f13 3 dl13 := ⟨Tryz.func13, by kernel_rfl, by kernel_rfl⟩
/- explore.Races$1 -/
def dl14 : DL := []
theorem fn14 : FnAt Tryz.prog cx 14 Tryz.f14 4398109487487 dl14 := ⟨Tryz.func14, by kernel_rfl, by kernel_rfl⟩
/- explore.distinct[[2]int] -/
def dl16 : DL := []
theorem fn16 : FnAt Tryz.prog cx 16 Tryz.f16 27 dl16 := ⟨Tryz.func16, by kernel_rfl, by kernel_rfl⟩
/- explore.Races$2 -/
def dl17 : DL := [(1, [(4, 5), (4, 6), (4, 7), (4, 8)])]
theorem fn17 : FnAt Tryz.prog cx 17 Tryz.f17 31 dl17 := ⟨Tryz.func17, by kernel_rfl, by kernel_rfl⟩
/- explore.Deadlocks$1 -/
def dl20 : DL := []
theorem fn20 : FnAt Tryz.prog cx 20 Tryz.f20 1055 dl20 := ⟨Tryz.func20, by kernel_rfl, by kernel_rfl⟩
/- explore.distinct[[]int] -/
def dl22 : DL := []
theorem fn22 : FnAt Tryz.prog cx 22 Tryz.f22 27 dl22 := ⟨Tryz.func22, by kernel_rfl, by kernel_rfl⟩
/- explore.Outcomes$1 -/
def dl24 : DL := [(6, [(0, 3)])]
theorem fn24 : FnAt Tryz.prog cx 24 Tryz.f24 17311 dl24 := ⟨Tryz.func24, by kernel_rfl, by kernel_rfl⟩
/- explore.distinct[[]int64] -/
def dl27 : DL := []
theorem fn27 : FnAt Tryz.prog cx 27 Tryz.f27 27 dl27 := ⟨Tryz.func27, by kernel_rfl, by kernel_rfl⟩
/- interleaveref06.names -/
def dl31 : DL := []
theorem fn31 : FnAt Tryz.prog cx 31 Tryz.f31 332312079452150195464880550324504575 dl31 := ⟨Tryz.func31, by kernel_rfl, by kernel_rfl⟩
/- interleaveref01.IsName -/
def dl32 : DL := []
theorem fn32 : FnAt Tryz.prog cx 32 Tryz.f32 4330618893 dl32 := ⟨Tryz.func32, by kernel_rfl, by kernel_rfl⟩
/- interleaveref04.At -/
def dl33 : DL := []
theorem fn33 : FnAt Tryz.prog cx 33 Tryz.f33 131635 dl33 := ⟨Tryz.func33, by kernel_rfl, by kernel_rfl⟩
/- interleaveref06.objects -/
def dl34 : DL := []
theorem fn34 : FnAt Tryz.prog cx 34 Tryz.f34 11161304336780981658631819976322344575566047 dl34 := ⟨Tryz.func34, by kernel_rfl, by kernel_rfl⟩
/- interleaveref06.lands -/
def dl35 : DL := []
theorem fn35 : FnAt Tryz.prog cx 35 Tryz.f35 4362601011 dl35 := ⟨Tryz.func35, by kernel_rfl, by kernel_rfl⟩
/- interleaveref06.in -/
def dl36 : DL := []
theorem fn36 : FnAt Tryz.prog cx 36 Tryz.f36 19 dl36 := ⟨Tryz.func36, by kernel_rfl, by kernel_rfl⟩
/- interleaveref06.Registers -/
def dl37 : DL := []
theorem fn37 : FnAt Tryz.prog cx 37 Tryz.f37 8934607822903 dl37 := ⟨Tryz.func37, by kernel_rfl, by kernel_rfl⟩
/- run.Start -/
def dl38 : DL := []
theorem fn38 : FnAt Tryz.prog cx 38 Tryz.f38 39 dl38 := ⟨Tryz.func38, by kernel_rfl, by kernel_rfl⟩
/- slices.SortFunc[[][2]int,[2]int] -/
def dl42 : DL := []
theorem fn42 : FnAt Tryz.prog cx 42 Tryz.f42 19 dl42 := ⟨Tryz.func42, by kernel_rfl, by kernel_rfl⟩
/- slices.CompactFunc[[][2]int,[2]int] -/
def dl43 : DL := []
theorem fn43 : FnAt Tryz.prog cx 43 Tryz.f43 562984581629171 dl43 := ⟨Tryz.func43, by kernel_rfl, by kernel_rfl⟩
/- explore.distinct[[2]int]$1 -/
def dl44 : DL := []
theorem fn44 : FnAt Tryz.prog cx 44 Tryz.f44 63 dl44 := ⟨Tryz.func44, by kernel_rfl, by kernel_rfl⟩
/- slices.SortFunc[[][]int,[]int] -/
def dl49 : DL := []
theorem fn49 : FnAt Tryz.prog cx 49 Tryz.f49 19 dl49 := ⟨Tryz.func49, by kernel_rfl, by kernel_rfl⟩
/- slices.CompactFunc[[][]int,[]int] -/
def dl50 : DL := []
theorem fn50 : FnAt Tryz.prog cx 50 Tryz.f50 562984581629171 dl50 := ⟨Tryz.func50, by kernel_rfl, by kernel_rfl⟩
/- explore.distinct[[]int]$1 -/
def dl51 : DL := []
theorem fn51 : FnAt Tryz.prog cx 51 Tryz.f51 39 dl51 := ⟨Tryz.func51, by kernel_rfl, by kernel_rfl⟩
/- slices.SortFunc[[][]int64,[]int64] -/
def dl53 : DL := []
theorem fn53 : FnAt Tryz.prog cx 53 Tryz.f53 19 dl53 := ⟨Tryz.func53, by kernel_rfl, by kernel_rfl⟩
/- slices.CompactFunc[[][]int64,[]int64] -/
def dl54 : DL := []
theorem fn54 : FnAt Tryz.prog cx 54 Tryz.f54 562984581629171 dl54 := ⟨Tryz.func54, by kernel_rfl, by kernel_rfl⟩
/- explore.distinct[[]int64]$1 -/
def dl55 : DL := []
theorem fn55 : FnAt Tryz.prog cx 55 Tryz.f55 39 dl55 := ⟨Tryz.func55, by kernel_rfl, by kernel_rfl⟩
/- interleaveref01.Letter -/
def dl64 : DL := []
theorem fn64 : FnAt Tryz.prog cx 64 Tryz.f64 5 dl64 := ⟨Tryz.func64, by kernel_rfl, by kernel_rfl⟩
/- interleaveref01.IsKeyword -/
def dl65 : DL := []
theorem fn65 : FnAt Tryz.prog cx 65 Tryz.f65 131613 dl65 := ⟨Tryz.func65, by kernel_rfl, by kernel_rfl⟩
/- interleaveref01.inner -/
def dl66 : DL := []
theorem fn66 : FnAt Tryz.prog cx 66 Tryz.f66 5 dl66 := ⟨Tryz.func66, by kernel_rfl, by kernel_rfl⟩
/- interleaveref06.array -/
def dl67 : DL := []
theorem fn67 : FnAt Tryz.prog cx 67 Tryz.f67 79 dl67 := ⟨Tryz.func67, by kernel_rfl, by kernel_rfl⟩
/- interleaveref06.Silent -/
def dl68 : DL := []
theorem fn68 : FnAt Tryz.prog cx 68 Tryz.f68 5 dl68 := ⟨Tryz.func68, by kernel_rfl, by kernel_rfl⟩
/- compile.Valid -/
def dl69 : DL := []
theorem fn69 : FnAt Tryz.prog cx 69 Tryz.f69 4310958111 dl69 := ⟨Tryz.func69, by kernel_rfl, by kernel_rfl⟩
/- slices.pdqsortCmpFunc[[2]int] -/
def dl77 : DL := []
theorem fn77 : FnAt Tryz.prog cx 77 Tryz.f77 42535296023574879666274036850519702559 dl77 := ⟨Tryz.func77, by kernel_rfl, by kernel_rfl⟩
/- math/bits.Len -/
def dl78 : DL := []
theorem fn78 : FnAt Tryz.prog cx 78 Tryz.f78 5 dl78 := ⟨Tryz.func78, by kernel_rfl, by kernel_rfl⟩
/- slices.pdqsortOrdered[int] -/
def dl85 : DL := []
theorem fn85 : FnAt Tryz.prog cx 85 Tryz.f85 10384593871817177683247510831234831 dl85 := ⟨Tryz.func85, by kernel_rfl, by kernel_rfl⟩
/- slices.pdqsortCmpFunc[[]int] -/
def dl86 : DL := []
theorem fn86 : FnAt Tryz.prog cx 86 Tryz.f86 42535296023574879666274036850519702559 dl86 := ⟨Tryz.func86, by kernel_rfl, by kernel_rfl⟩
/- slices.pdqsortCmpFunc[[]int64] -/
def dl88 : DL := []
theorem fn88 : FnAt Tryz.prog cx 88 Tryz.f88 42535296023574879666274036850519702559 dl88 := ⟨Tryz.func88, by kernel_rfl, by kernel_rfl⟩
/- interleaveref01.Keywords -/
def dl106 : DL := []
theorem fn106 : FnAt Tryz.prog cx 106 Tryz.f106 1 dl106 := ⟨Tryz.func106, by kernel_rfl, by kernel_rfl⟩
/- interleaveref01.Digit -/
def dl107 : DL := []
theorem fn107 : FnAt Tryz.prog cx 107 Tryz.f107 5 dl107 := ⟨Tryz.func107, by kernel_rfl, by kernel_rfl⟩
/- compile.ValidWorld -/
def dl108 : DL := []
theorem fn108 : FnAt Tryz.prog cx 108 Tryz.f108 1198173691272031633503 dl108 := ⟨Tryz.func108, by kernel_rfl, by kernel_rfl⟩
/- compile.validThread -/
def dl109 : DL := []
theorem fn109 : FnAt Tryz.prog cx 109 Tryz.f109 79542256554101726209818756591 dl109 := ⟨Tryz.func109, by kernel_rfl, by kernel_rfl⟩
/- slices.insertionSortCmpFunc[[2]int] -/
def dl114 : DL := []
theorem fn114 : FnAt Tryz.prog cx 114 Tryz.f114 17179886351 dl114 := ⟨Tryz.func114, by kernel_rfl, by kernel_rfl⟩
/- math/bits.Len32 -/
def dl122 : DL := []
theorem fn122 : FnAt Tryz.prog cx 122 Tryz.f122 277 dl122 := ⟨Tryz.func122, by kernel_rfl, by kernel_rfl⟩
/- math/bits.Len64 -/
def dl123 : DL := []
theorem fn123 : FnAt Tryz.prog cx 123 Tryz.f123 16661 dl123 := ⟨Tryz.func123, by kernel_rfl, by kernel_rfl⟩
/- slices.insertionSortOrdered[int] -/
def dl125 : DL := []
theorem fn125 : FnAt Tryz.prog cx 125 Tryz.f125 1073746119 dl125 := ⟨Tryz.func125, by kernel_rfl, by kernel_rfl⟩
/- slices.insertionSortCmpFunc[[]int] -/
def dl134 : DL := []
theorem fn134 : FnAt Tryz.prog cx 134 Tryz.f134 17179886351 dl134 := ⟨Tryz.func134, by kernel_rfl, by kernel_rfl⟩
/- slices.insertionSortCmpFunc[[]int64] -/
def dl143 : DL := []
theorem fn143 : FnAt Tryz.prog cx 143 Tryz.f143 17179886351 dl143 := ⟨Tryz.func143, by kernel_rfl, by kernel_rfl⟩
/- compile.validCells -/
def dl173 : DL := []
theorem fn173 : FnAt Tryz.prog cx 173 Tryz.f173 18463069622434269437 dl173 := ⟨Tryz.func173, by kernel_rfl, by kernel_rfl⟩
/- compile.validNames -/
def dl174 : DL := []
theorem fn174 : FnAt Tryz.prog cx 174 Tryz.f174 18480521087022929591 dl174 := ⟨Tryz.func174, by kernel_rfl, by kernel_rfl⟩
/- compile.isLock -/
def dl175 : DL := []
theorem fn175 : FnAt Tryz.prog cx 175 Tryz.f175 79 dl175 := ⟨Tryz.func175, by kernel_rfl, by kernel_rfl⟩
/- compile.validSites -/
def dl176 : DL := []
theorem fn176 : FnAt Tryz.prog cx 176 Tryz.f176 34930167647 dl176 := ⟨Tryz.func176, by kernel_rfl, by kernel_rfl⟩
/- compile.within -/
def dl177 : DL := []
theorem fn177 : FnAt Tryz.prog cx 177 Tryz.f177 19 dl177 := ⟨Tryz.func177, by kernel_rfl, by kernel_rfl⟩
/- compile.registers -/
def dl178 : DL := []
theorem fn178 : FnAt Tryz.prog cx 178 Tryz.f178 8934607822903 dl178 := ⟨Tryz.func178, by kernel_rfl, by kernel_rfl⟩
/- compile.validOperands -/
def dl179 : DL := []
theorem fn179 : FnAt Tryz.prog cx 179 Tryz.f179 20850475683926052533283307399427439 dl179 := ⟨Tryz.func179, by kernel_rfl, by kernel_rfl⟩
/- compile.advances -/
def dl180 : DL := []
theorem fn180 : FnAt Tryz.prog cx 180 Tryz.f180 36028833526300797 dl180 := ⟨Tryz.func180, by kernel_rfl, by kernel_rfl⟩
/- eval.Index -/
def dl185 : DL := []
theorem fn185 : FnAt Tryz.prog cx 185 Tryz.f185 4275 dl185 := ⟨Tryz.func185, by kernel_rfl, by kernel_rfl⟩
/- token.IsKeyword -/
def dl203 : DL := []
theorem fn203 : FnAt Tryz.prog cx 203 Tryz.f203 2293 dl203 := ⟨Tryz.func203, by kernel_rfl, by kernel_rfl⟩
/- token.IsName -/
def dl214 : DL := []
theorem fn214 : FnAt Tryz.prog cx 214 Tryz.f214 274888196125 dl214 := ⟨Tryz.func214, by kernel_rfl, by kernel_rfl⟩
/- eval.Unary -/
def dl215 : DL := []
theorem fn215 : FnAt Tryz.prog cx 215 Tryz.f215 2291 dl215 := ⟨Tryz.func215, by kernel_rfl, by kernel_rfl⟩
/- eval.Binary -/
def dl216 : DL := []
theorem fn216 : FnAt Tryz.prog cx 216 Tryz.f216 9690595855641090246329287 dl216 := ⟨Tryz.func216, by kernel_rfl, by kernel_rfl⟩
/- compile.isScalar -/
def dl217 : DL := []
theorem fn217 : FnAt Tryz.prog cx 217 Tryz.f217 23 dl217 := ⟨Tryz.func217, by kernel_rfl, by kernel_rfl⟩
/- compile.isArray -/
def dl218 : DL := []
theorem fn218 : FnAt Tryz.prog cx 218 Tryz.f218 79 dl218 := ⟨Tryz.func218, by kernel_rfl, by kernel_rfl⟩
/- compile.isSilent -/
def dl219 : DL := []
theorem fn219 : FnAt Tryz.prog cx 219 Tryz.f219 5 dl219 := ⟨Tryz.func219, by kernel_rfl, by kernel_rfl⟩
/- compile.following -/
def dl220 : DL := []
theorem fn220 : FnAt Tryz.prog cx 220 Tryz.f220 1043 dl220 := ⟨Tryz.func220, by kernel_rfl, by kernel_rfl⟩
/- eval.truth -/
def dl248 : DL := []
theorem fn248 : FnAt Tryz.prog cx 248 Tryz.f248 13 dl248 := ⟨Tryz.func248, by kernel_rfl, by kernel_rfl⟩
end Go.Proofs.YtddpfdjgppabhaaGreatDoor
