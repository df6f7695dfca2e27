/-
  CONTRACTS: the library's contract on slices.SortFunc, laid at this program (the laying's table by the kit's lay-plain).
-/
import Derived.Test.YtpjdfcigadnhcaaGreatDoorF6
import Derived.Shelf.SlSortCmp.WholeK
import Derived.Ground.SlsfProg
import Derived.Test.YtpjdfcigadnhcaaGreatDoorProg
set_option linter.all false
section
namespace Go.Proofs.YtpjdfcigadnhcaaGreatDoor
open Go.Sort Go.Shelf
def sortUs_ren : Go.Shelf.Ren := ⟨fun | 6 => 43 | 15 => 89 | 14 => 90 | 28 => 136 | 29 => 137 | 20 => 138 | 21 => 139 | 22 => 140 | 23 => 141 | 24 => 142 | 25 => 143 | 26 => 144 | 27 => 145 | 46 => 180 | 47 => 176 | 48 => 177 | 49 => 181 | 50 => 182 | 57 => 197 | n => n, fun | 22 => 59 | 24 => 65 | 25 => 67 | 3 => 3 | 39 => 125 | 0 => 0 | 53 => 160 | 55 => 162 | 4 => 4 | 46 => 152 | 45 => 151 | 50 => 157 | 5 => 5 | 9 => 9 | 66 => 180 | 70 => 184 | 76 => 194 | 77 => 195 | n => n, fun | n => n⟩
theorem sortUs : Go.Proofs.SlLaysF0.n6 Tryz.prog sortUs_ren := {
 mixed := by kernel_rfl
 f6 := ⟨Tryz.f43.name, by decide, Tryz.func43.trans (congrArg some (by kernel_rfl))⟩
 f14 := ⟨Tryz.f90.name, by decide, Tryz.func90.trans (congrArg some (by kernel_rfl))⟩
 f15 := Tryz.func89.trans (congrArg some (by kernel_rfl))
 f20 := ⟨Tryz.f138.name, by decide, Tryz.func138.trans (congrArg some (by kernel_rfl))⟩
 f21 := ⟨Tryz.f139.name, by decide, Tryz.func139.trans (congrArg some (by kernel_rfl))⟩
 f22 := ⟨Tryz.f140.name, by decide, Tryz.func140.trans (congrArg some (by kernel_rfl))⟩
 f23 := ⟨Tryz.f141.name, by decide, Tryz.func141.trans (congrArg some (by kernel_rfl))⟩
 f24 := ⟨Tryz.f142.name, by decide, Tryz.func142.trans (congrArg some (by kernel_rfl))⟩
 f25 := ⟨Tryz.f143.name, by decide, Tryz.func143.trans (congrArg some (by kernel_rfl))⟩
 f26 := ⟨Tryz.f144.name, by decide, Tryz.func144.trans (congrArg some (by kernel_rfl))⟩
 f27 := ⟨Tryz.f145.name, by decide, Tryz.func145.trans (congrArg some (by kernel_rfl))⟩
 f28 := Tryz.func136.trans (congrArg some (by kernel_rfl))
 f29 := Tryz.func137.trans (congrArg some (by kernel_rfl))
 f46 := ⟨Tryz.f180.name, by decide, Tryz.func180.trans (congrArg some (by kernel_rfl))⟩
 f47 := Tryz.func176.trans (congrArg some (by kernel_rfl))
 f48 := Tryz.func177.trans (congrArg some (by kernel_rfl))
 f49 := ⟨Tryz.f181.name, by decide, Tryz.func181.trans (congrArg some (by kernel_rfl))⟩
 f50 := ⟨Tryz.f182.name, by decide, Tryz.func182.trans (congrArg some (by kernel_rfl))⟩
 f57 := ⟨Tryz.f197.name, by decide, Tryz.func197.trans (congrArg some (by kernel_rfl))⟩
 t0 := Tryz.underlying0
 a0 := Tryz.isAgg0
 z0 := Tryz.sizeOf0
 v0 := Tryz.zeroValue0
 t3 := Tryz.underlying3
 a3 := Tryz.isAgg3
 z3 := Tryz.sizeOf3
 v3 := Tryz.zeroValue3
 t4 := Tryz.underlying4
 a4 := Tryz.isAgg4
 z4 := Tryz.sizeOf4
 v4 := Tryz.zeroValue4
 t5 := Tryz.underlying5
 a5 := Tryz.isAgg5
 z5 := Tryz.sizeOf5
 v5 := Tryz.zeroValue5
 t9 := Tryz.underlying9
 a9 := Tryz.isAgg9
 z9 := Tryz.sizeOf9
 v9 := Tryz.zeroValue9
 t22 := Tryz.underlying59
 a22 := Tryz.isAgg59
 z22 := Tryz.sizeOf59
 v22 := Tryz.zeroValue59
 t25 := Tryz.underlying67
 a25 := Tryz.isAgg67
 z25 := Tryz.sizeOf67
 v25 := Tryz.zeroValue67
 t39 := Tryz.underlying125
 a39 := Tryz.isAgg125
 z39 := Tryz.sizeOf125
 v39 := Tryz.zeroValue125
 t45 := Tryz.underlying151
 a45 := Tryz.isAgg151
 z45 := Tryz.sizeOf151
 v45 := Tryz.zeroValue151
 t46 := Tryz.underlying152
 a46 := Tryz.isAgg152
 z46 := Tryz.sizeOf152
 v46 := Tryz.zeroValue152
 t50 := Tryz.underlying157
 a50 := Tryz.isAgg157
 z50 := Tryz.sizeOf157
 v50 := Tryz.zeroValue157
 t53 := Tryz.underlying160
 a53 := Tryz.isAgg160
 z53 := Tryz.sizeOf160
 v53 := Tryz.zeroValue160
 t55 := Tryz.underlying162
 a55 := Tryz.isAgg162
 z55 := Tryz.sizeOf162
 v55 := Tryz.zeroValue162
 t66 := Tryz.underlying180
 a66 := Tryz.isAgg180
 z66 := Tryz.sizeOf180
 v66 := Tryz.zeroValue180
 t70 := Tryz.underlying184
 a70 := Tryz.isAgg184
 z70 := Tryz.sizeOf184
 v70 := Tryz.zeroValue184
 t76 := Tryz.underlying194
 a76 := Tryz.isAgg194
 z76 := Tryz.sizeOf194
 v76 := Tryz.zeroValue194
 t77 := Tryz.underlying195
 a77 := Tryz.isAgg195
 z77 := Tryz.sizeOf195
 v77 := Tryz.zeroValue195 }
end Go.Proofs.YtpjdfcigadnhcaaGreatDoor
end
