/-
  CONTRACTS: the library's contract on slices.SortFunc, laid at this program (the laying's table by the kit's lay-plain).
-/
import Derived.Test.YtefbaladomfccaaGreatDoorJ7
import Derived.Shelf.SlSortCmp.WholeK
import Derived.Ground.SlsfProg
import Derived.Test.YtefbaladomfccaaGreatDoorProg
set_option linter.all false
section
namespace Go.Proofs.YtefbaladomfccaaGreatDoor
open Go.Sort Go.Shelf
def BC : Go.Shelf.Ren := ⟨fun | 6 => 126 | 15 => 165 | 14 => 180 | 28 => 216 | 29 => 217 | 20 => 232 | 21 => 233 | 22 => 234 | 23 => 235 | 24 => 236 | 25 => 237 | 26 => 238 | 27 => 239 | 46 => 275 | 47 => 262 | 48 => 263 | 49 => 276 | 50 => 277 | 57 => 303 | n => n, fun | 22 => 72 | 24 => 78 | 25 => 217 | 3 => 3 | 39 => 257 | 0 => 0 | 53 => 316 | 55 => 318 | 4 => 4 | 46 => 310 | 45 => 309 | 50 => 194 | 5 => 5 | 9 => 9 | 66 => 349 | 70 => 353 | 76 => 372 | 77 => 373 | n => n, fun | n => n⟩
theorem OZ : Go.Proofs.SlLaysF0.n6 Tryz.prog BC := {
 mixed := by kernel_rfl
 f6 := ⟨Tryz.f126.name, by decide, Tryz.func126.trans (congrArg some (by kernel_rfl))⟩
 f14 := ⟨Tryz.f180.name, by decide, Tryz.func180.trans (congrArg some (by kernel_rfl))⟩
 f15 := Tryz.func165.trans (congrArg some (by kernel_rfl))
 f20 := ⟨Tryz.f232.name, by decide, Tryz.func232.trans (congrArg some (by kernel_rfl))⟩
 f21 := ⟨Tryz.f233.name, by decide, Tryz.func233.trans (congrArg some (by kernel_rfl))⟩
 f22 := ⟨Tryz.f234.name, by decide, Tryz.func234.trans (congrArg some (by kernel_rfl))⟩
 f23 := ⟨Tryz.f235.name, by decide, Tryz.func235.trans (congrArg some (by kernel_rfl))⟩
 f24 := ⟨Tryz.f236.name, by decide, Tryz.func236.trans (congrArg some (by kernel_rfl))⟩
 f25 := ⟨Tryz.f237.name, by decide, Tryz.func237.trans (congrArg some (by kernel_rfl))⟩
 f26 := ⟨Tryz.f238.name, by decide, Tryz.func238.trans (congrArg some (by kernel_rfl))⟩
 f27 := ⟨Tryz.f239.name, by decide, Tryz.func239.trans (congrArg some (by kernel_rfl))⟩
 f28 := Tryz.func216.trans (congrArg some (by kernel_rfl))
 f29 := Tryz.func217.trans (congrArg some (by kernel_rfl))
 f46 := ⟨Tryz.f275.name, by decide, Tryz.func275.trans (congrArg some (by kernel_rfl))⟩
 f47 := Tryz.func262.trans (congrArg some (by kernel_rfl))
 f48 := Tryz.func263.trans (congrArg some (by kernel_rfl))
 f49 := ⟨Tryz.f276.name, by decide, Tryz.func276.trans (congrArg some (by kernel_rfl))⟩
 f50 := ⟨Tryz.f277.name, by decide, Tryz.func277.trans (congrArg some (by kernel_rfl))⟩
 f57 := ⟨Tryz.f303.name, by decide, Tryz.func303.trans (congrArg some (by kernel_rfl))⟩
 t0 := Tryz.underlying0
 a0 := Tryz.isAgg0
 z0 := Tryz.sizeOf0
 v0 := Tryz.zeroValue0
 t3 := Tryz.underlying3
 a3 := Tryz.isAgg3
 z3 := Tryz.sizeOf3
 v3 := Tryz.zeroValue3
 t4 := Tryz.underlying4
 a4 := Tryz.isAgg4
 z4 := Tryz.sizeOf4
 v4 := Tryz.zeroValue4
 t5 := Tryz.underlying5
 a5 := Tryz.isAgg5
 z5 := Tryz.sizeOf5
 v5 := Tryz.zeroValue5
 t9 := Tryz.underlying9
 a9 := Tryz.isAgg9
 z9 := Tryz.sizeOf9
 v9 := Tryz.zeroValue9
 t22 := Tryz.underlying72
 a22 := Tryz.isAgg72
 z22 := Tryz.sizeOf72
 v22 := Tryz.zeroValue72
 t25 := Tryz.underlying217
 a25 := Tryz.isAgg217
 z25 := Tryz.sizeOf217
 v25 := Tryz.zeroValue217
 t39 := Tryz.underlying257
 a39 := Tryz.isAgg257
 z39 := Tryz.sizeOf257
 v39 := Tryz.zeroValue257
 t45 := Tryz.underlying309
 a45 := Tryz.isAgg309
 z45 := Tryz.sizeOf309
 v45 := Tryz.zeroValue309
 t46 := Tryz.underlying310
 a46 := Tryz.isAgg310
 z46 := Tryz.sizeOf310
 v46 := Tryz.zeroValue310
 t50 := Tryz.underlying194
 a50 := Tryz.isAgg194
 z50 := Tryz.sizeOf194
 v50 := Tryz.zeroValue194
 t53 := Tryz.underlying316
 a53 := Tryz.isAgg316
 z53 := Tryz.sizeOf316
 v53 := Tryz.zeroValue316
 t55 := Tryz.underlying318
 a55 := Tryz.isAgg318
 z55 := Tryz.sizeOf318
 v55 := Tryz.zeroValue318
 t66 := Tryz.underlying349
 a66 := Tryz.isAgg349
 z66 := Tryz.sizeOf349
 v66 := Tryz.zeroValue349
 t70 := Tryz.underlying353
 a70 := Tryz.isAgg353
 z70 := Tryz.sizeOf353
 v70 := Tryz.zeroValue353
 t76 := Tryz.underlying372
 a76 := Tryz.isAgg372
 z76 := Tryz.sizeOf372
 v76 := Tryz.zeroValue372
 t77 := Tryz.underlying373
 a77 := Tryz.isAgg373
 z77 := Tryz.sizeOf373
 v77 := Tryz.zeroValue373 }
end Go.Proofs.YtefbaladomfccaaGreatDoor
end
