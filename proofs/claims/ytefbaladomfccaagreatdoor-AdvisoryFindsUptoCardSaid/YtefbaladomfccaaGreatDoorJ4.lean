/-
  CONTRACTS: the library's contract on sorting spans, laid at this program.
-/
import Derived.Test.YtefbaladomfccaaGreatDoorJ3
import Derived.Shelf.SlSortCmp.WholeK
import Derived.Shelf.Small.Bits
import Derived.Ground.SlsfProg
import Derived.Test.YtefbaladomfccaaGreatDoorProg
set_option linter.all false
section
namespace Go.Proofs.YtefbaladomfccaaGreatDoor
open Go.RowKit Go.Lib Go.Sort Go.Shelf
def y8 : Go.Shelf.Ren := ⟨fun | 14 => 176 | 20 => 224 | 21 => 225 | 22 => 226 | 23 => 227 | 24 => 228 | 25 => 229 | 26 => 230 | 27 => 231 | 46 => 272 | 47 => 262 | 48 => 263 | 49 => 273 | 50 => 274 | 15 => 165 | 57 => 302 | 28 => 216 | 29 => 217 | n => n, fun | 24 => 82 | 22 => 47 | 3 => 3 | 25 => 211 | 4 => 4 | 0 => 0 | 46 => 310 | 45 => 309 | 50 => 194 | 66 => 349 | 39 => 257 | 55 => 318 | 70 => 353 | 76 => 372 | 77 => 373 | 53 => 316 | 5 => 5 | 9 => 9 | n => n, fun | n => n⟩
theorem KR : Go.Proofs.SlLaysF0.n14 Tryz.prog y8 := {
 mixed := by kernel_rfl
 f14 := ⟨Tryz.f176.name, by decide, Tryz.func176.trans (congrArg some (by kernel_rfl))⟩
 f15 := Tryz.func165.trans (congrArg some (by kernel_rfl))
 f20 := ⟨Tryz.f224.name, by decide, Tryz.func224.trans (congrArg some (by kernel_rfl))⟩
 f21 := ⟨Tryz.f225.name, by decide, Tryz.func225.trans (congrArg some (by kernel_rfl))⟩
 f22 := ⟨Tryz.f226.name, by decide, Tryz.func226.trans (congrArg some (by kernel_rfl))⟩
 f23 := ⟨Tryz.f227.name, by decide, Tryz.func227.trans (congrArg some (by kernel_rfl))⟩
 f24 := ⟨Tryz.f228.name, by decide, Tryz.func228.trans (congrArg some (by kernel_rfl))⟩
 f25 := ⟨Tryz.f229.name, by decide, Tryz.func229.trans (congrArg some (by kernel_rfl))⟩
 f26 := ⟨Tryz.f230.name, by decide, Tryz.func230.trans (congrArg some (by kernel_rfl))⟩
 f27 := ⟨Tryz.f231.name, by decide, Tryz.func231.trans (congrArg some (by kernel_rfl))⟩
 f28 := Tryz.func216.trans (congrArg some (by kernel_rfl))
 f29 := Tryz.func217.trans (congrArg some (by kernel_rfl))
 f46 := ⟨Tryz.f272.name, by decide, Tryz.func272.trans (congrArg some (by kernel_rfl))⟩
 f47 := Tryz.func262.trans (congrArg some (by kernel_rfl))
 f48 := Tryz.func263.trans (congrArg some (by kernel_rfl))
 f49 := ⟨Tryz.f273.name, by decide, Tryz.func273.trans (congrArg some (by kernel_rfl))⟩
 f50 := ⟨Tryz.f274.name, by decide, Tryz.func274.trans (congrArg some (by kernel_rfl))⟩
 f57 := ⟨Tryz.f302.name, by decide, Tryz.func302.trans (congrArg some (by kernel_rfl))⟩
 t0 := Tryz.underlying0
 a0 := Tryz.isAgg0
 z0 := Tryz.sizeOf0
 v0 := Tryz.zeroValue0
 t3 := Tryz.underlying3
 a3 := Tryz.isAgg3
 z3 := Tryz.sizeOf3
 v3 := Tryz.zeroValue3
 t4 := Tryz.underlying4
 a4 := Tryz.isAgg4
 z4 := Tryz.sizeOf4
 v4 := Tryz.zeroValue4
 t5 := Tryz.underlying5
 a5 := Tryz.isAgg5
 z5 := Tryz.sizeOf5
 v5 := Tryz.zeroValue5
 t9 := Tryz.underlying9
 a9 := Tryz.isAgg9
 z9 := Tryz.sizeOf9
 v9 := Tryz.zeroValue9
 t22 := Tryz.underlying47
 a22 := Tryz.isAgg47
 z22 := Tryz.sizeOf47
 v22 := Tryz.zeroValue47
 t25 := Tryz.underlying211
 a25 := Tryz.isAgg211
 z25 := Tryz.sizeOf211
 v25 := Tryz.zeroValue211
 t39 := Tryz.underlying257
 a39 := Tryz.isAgg257
 z39 := Tryz.sizeOf257
 v39 := Tryz.zeroValue257
 t45 := Tryz.underlying309
 a45 := Tryz.isAgg309
 z45 := Tryz.sizeOf309
 v45 := Tryz.zeroValue309
 t46 := Tryz.underlying310
 a46 := Tryz.isAgg310
 z46 := Tryz.sizeOf310
 v46 := Tryz.zeroValue310
 t50 := Tryz.underlying194
 a50 := Tryz.isAgg194
 z50 := Tryz.sizeOf194
 v50 := Tryz.zeroValue194
 t53 := Tryz.underlying316
 a53 := Tryz.isAgg316
 z53 := Tryz.sizeOf316
 v53 := Tryz.zeroValue316
 t55 := Tryz.underlying318
 a55 := Tryz.isAgg318
 z55 := Tryz.sizeOf318
 v55 := Tryz.zeroValue318
 t66 := Tryz.underlying349
 a66 := Tryz.isAgg349
 z66 := Tryz.sizeOf349
 v66 := Tryz.zeroValue349
 t70 := Tryz.underlying353
 a70 := Tryz.isAgg353
 z70 := Tryz.sizeOf353
 v70 := Tryz.zeroValue353
 t76 := Tryz.underlying372
 a76 := Tryz.isAgg372
 z76 := Tryz.sizeOf372
 v76 := Tryz.zeroValue372
 t77 := Tryz.underlying373
 a77 := Tryz.isAgg373
 z77 := Tryz.sizeOf373
 v77 := Tryz.zeroValue373 }
def y9 : Go.Shelf.Ren := ⟨fun | 125 => 165 | 128 => 216 | 129 => 217 | n => n, fun | 46 => 257 | 3 => 3 | 51 => 316 | 53 => 318 | 4 => 4 | 5 => 5 | 9 => 9 | n => n, fun | n => n⟩
theorem KS : Go.Proofs.Lays.n125 Tryz.prog y9 := {
 mixed := by kernel_rfl
 f125 := Tryz.func165.trans (congrArg some (by kernel_rfl))
 f128 := Tryz.func216.trans (congrArg some (by kernel_rfl))
 f129 := Tryz.func217.trans (congrArg some (by kernel_rfl))
 t3 := Tryz.underlying3
 a3 := Tryz.isAgg3
 z3 := Tryz.sizeOf3
 v3 := Tryz.zeroValue3
 t4 := Tryz.underlying4
 a4 := Tryz.isAgg4
 z4 := Tryz.sizeOf4
 v4 := Tryz.zeroValue4
 t5 := Tryz.underlying5
 a5 := Tryz.isAgg5
 z5 := Tryz.sizeOf5
 v5 := Tryz.zeroValue5
 t9 := Tryz.underlying9
 a9 := Tryz.isAgg9
 z9 := Tryz.sizeOf9
 v9 := Tryz.zeroValue9
 t46 := Tryz.underlying257
 a46 := Tryz.isAgg257
 z46 := Tryz.sizeOf257
 v46 := Tryz.zeroValue257
 t51 := Tryz.underlying316
 a51 := Tryz.isAgg316
 z51 := Tryz.sizeOf316
 v51 := Tryz.zeroValue316
 t53 := Tryz.underlying318
 a53 := Tryz.isAgg318
 z53 := Tryz.sizeOf318
 v53 := Tryz.zeroValue318 }
theorem bits_Len (x : Int) (w : World) (h0 : 0 ≤ x) (h1 : x ≤ 18446744073709551615) :
  Calls Tryz.prog 165 #[.int .u64 x] w fun e w' => e = .returned (.int .i64 (Lib.bitLen x.toNat)) ∧ w' = w := Any.bits_Len KS x w h0 h1
end Go.Proofs.YtefbaladomfccaaGreatDoor
end
