/-
  CONTRACTS: the library's contracts on strings and sorting, laid at this program (the layings' tables by the kit's lay-plain).
  CONTRACTS of the library's, taken over: looking for strings, splitting, sorting spans.
  CONTRACTS: names, versions of paths.
  CONTRACTS: paths.
-/
import Derived.Test.YtnfeacnbgbggfaaGreatDoorH2
import Derived.Shelf.Small.Bits
import Derived.Shelf.Strconv.Itoa0
import Derived.Shelf.Small.Wraps
import Derived.Shelf.Strings.Search3
import Derived.Shelf.Sort.Plain
import Derived.Shelf.Strings.LastIndex
import Derived.Shelf.Strings.Split
import Derived.Shelf.SlSortCmp.WholeK
import Derived.Ground.SlsfProg
import Derived.Test.YtnfeacnbgbggfaaGreatDoorProg
set_option linter.all false
section
namespace Go.Proofs.YtnfeacnbgbggfaaGreatDoor
open Go.RowKit Go.Lib Go.Sort Go.Shelf
def lays103_ren : Go.Shelf.Ren := ⟨fun | 103 => 150 | 210 => 175 | 206 => 189 | n => n, fun | 9 => 9 | 4 => 4 | 24 => 184 | 3 => 3 | n => n, fun | n => n⟩
theorem lays103 : Go.Proofs.Lays.n103 Tryz.prog lays103_ren := {
 mixed := by kernel_rfl
 f103 := Tryz.func150.trans (congrArg some (by kernel_rfl))
 f206 := Tryz.func189.trans (congrArg some (by kernel_rfl))
 f210 := Tryz.func175.trans (congrArg some (by kernel_rfl))
 t3 := Tryz.underlying3
 a3 := Tryz.isAgg3
 z3 := Tryz.sizeOf3
 v3 := Tryz.zeroValue3
 t4 := Tryz.underlying4
 a4 := Tryz.isAgg4
 z4 := Tryz.sizeOf4
 v4 := Tryz.zeroValue4
 t9 := Tryz.underlying9
 a9 := Tryz.isAgg9
 z9 := Tryz.sizeOf9
 v9 := Tryz.zeroValue9
 t24 := Tryz.underlying184
 a24 := Tryz.isAgg184
 z24 := Tryz.sizeOf184
 v24 := Tryz.zeroValue184 }
theorem strings_CutPrefix (s p : ByteArray) (w : World) :
  Calls Tryz.prog 150 #[.string s, .string p] w fun e w' => e = .returned (.tuple #[.string ⟨(Lib.trimPrefix s.data.toList p.data.toList).toArray⟩, .bool (Lib.hasPrefix s.data.toList p.data.toList)]) ∧ w' = w := Any.strings_CutPrefix lays103 s p w
def lays144_ren : Go.Shelf.Ren := ⟨fun | 144 => 177 | 143 => 174 | 219 => 188 | 217 => 195 | 225 => 196 | 224 => 197 | 267 => 198 | 266 => 200 | 314 => 201 | n => n, fun | 9 => 9 | 4 => 4 | 3 => 3 | 5 => 5 | 46 => 156 | 146 => 186 | 51 => 180 | n => n, fun | 1 => 0 | n => n⟩
theorem lays144 : Go.Proofs.Lays.n144 Tryz.prog lays144_ren := {
 mixed := by kernel_rfl
 f143 := Tryz.func174.trans (congrArg some (by kernel_rfl))
 f144 := Tryz.func177.trans (congrArg some (by kernel_rfl))
 f217 := Tryz.func195.trans (congrArg some (by kernel_rfl))
 f219 := Tryz.func188.trans (congrArg some (by kernel_rfl))
 f224 := Tryz.func197.trans (congrArg some (by kernel_rfl))
 f225 := Tryz.func196.trans (congrArg some (by kernel_rfl))
 f266 := Tryz.func200.trans (congrArg some (by kernel_rfl))
 f267 := Tryz.func198.trans (congrArg some (by kernel_rfl))
 f314 := Tryz.func201.trans (congrArg some (by kernel_rfl))
 t3 := Tryz.underlying3
 a3 := Tryz.isAgg3
 z3 := Tryz.sizeOf3
 v3 := Tryz.zeroValue3
 t4 := Tryz.underlying4
 a4 := Tryz.isAgg4
 z4 := Tryz.sizeOf4
 v4 := Tryz.zeroValue4
 t5 := Tryz.underlying5
 a5 := Tryz.isAgg5
 z5 := Tryz.sizeOf5
 v5 := Tryz.zeroValue5
 t9 := Tryz.underlying9
 a9 := Tryz.isAgg9
 z9 := Tryz.sizeOf9
 v9 := Tryz.zeroValue9
 t46 := Tryz.underlying156
 a46 := Tryz.isAgg156
 z46 := Tryz.sizeOf156
 v46 := Tryz.zeroValue156
 t51 := Tryz.underlying180
 a51 := Tryz.isAgg180
 z51 := Tryz.sizeOf180
 v51 := Tryz.zeroValue180
 t146 := Tryz.underlying186
 a146 := Tryz.isAgg186
 z146 := Tryz.sizeOf186
 v146 := Tryz.zeroValue186
 g1 := by kernel_rfl }
theorem strings_Contains (s sub : ByteArray) (m : Int) (w : World) (hs : s.size < 4294967281) (hm : w.cell? ⟨0, 0, none⟩ = some (.int .i64 m)) :
  Calls Tryz.prog 177 #[.string s, .string sub] w fun e w' => e = .returned (.bool (Lib.contains s.data.toList sub.data.toList)) ∧ w' = w := Any.strings_Contains lays144 s sub m w hs hm
def lays148_ren : Go.Shelf.Ren := ⟨fun | 148 => 103 | 222 => 129 | 223 => 130 | 269 => 153 | n => n, fun | 9 => 9 | 3 => 3 | 4 => 4 | 5 => 5 | 146 => 186 | 51 => 180 | 46 => 156 | n => n, fun | n => n⟩
theorem lays148 : Go.Proofs.Lays.n148 Tryz.prog lays148_ren := {
 mixed := by kernel_rfl
 f148 := Tryz.func103.trans (congrArg some (by kernel_rfl))
 f222 := Tryz.func129.trans (congrArg some (by kernel_rfl))
 f223 := Tryz.func130.trans (congrArg some (by kernel_rfl))
 f269 := Tryz.func153.trans (congrArg some (by kernel_rfl))
 t3 := Tryz.underlying3
 a3 := Tryz.isAgg3
 z3 := Tryz.sizeOf3
 v3 := Tryz.zeroValue3
 t4 := Tryz.underlying4
 a4 := Tryz.isAgg4
 z4 := Tryz.sizeOf4
 v4 := Tryz.zeroValue4
 t5 := Tryz.underlying5
 a5 := Tryz.isAgg5
 z5 := Tryz.sizeOf5
 v5 := Tryz.zeroValue5
 t9 := Tryz.underlying9
 a9 := Tryz.isAgg9
 z9 := Tryz.sizeOf9
 v9 := Tryz.zeroValue9
 t46 := Tryz.underlying156
 a46 := Tryz.isAgg156
 z46 := Tryz.sizeOf156
 v46 := Tryz.zeroValue156
 t51 := Tryz.underlying180
 a51 := Tryz.isAgg180
 z51 := Tryz.sizeOf180
 v51 := Tryz.zeroValue180
 t146 := Tryz.underlying186
 a146 := Tryz.isAgg186
 z146 := Tryz.sizeOf186
 v146 := Tryz.zeroValue186 }
theorem strings_LastIndex_one (s sub : ByteArray) (h1 : sub.size = 1) (hs : s.size < 4611686018427387904) (w : World) :
  Calls Tryz.prog 103 #[.string s, .string sub] w fun e w' => e = .returned (.int .i64 (Lib.lastIndexByte s ((sub[0]'(by omega)).toNat : Int))) ∧ w' = w := Any.strings_LastIndex_one lays148 s sub h1 hs w
def lays146_ren : Go.Shelf.Ren := ⟨fun | 146 => 122 | 221 => 149 | 268 => 172 | 138 => 173 | 143 => 174 | 195 => 185 | 197 => 186 | 218 => 187 | 219 => 188 | 260 => 194 | 217 => 195 | 225 => 196 | 224 => 197 | 267 => 198 | 266 => 200 | 314 => 201 | n => n, fun | 9 => 9 | 31 => 71 | 3 => 3 | 4 => 4 | 0 => 0 | 105 => 206 | 21 => 21 | 5 => 5 | 46 => 156 | 119 => 211 | 139 => 214 | 138 => 213 | 146 => 186 | 51 => 180 | n => n, fun | 1 => 0 | 3 => 1 | 4 => 2 | n => n⟩
theorem lays146 : Go.Proofs.Lays.n146 Tryz.prog lays146_ren := {
 mixed := by kernel_rfl
 f138 := Tryz.func173.trans (congrArg some (by kernel_rfl))
 f143 := Tryz.func174.trans (congrArg some (by kernel_rfl))
 f146 := Tryz.func122.trans (congrArg some (by kernel_rfl))
 f195 := Tryz.func185.trans (congrArg some (by kernel_rfl))
 f197 := Tryz.func186.trans (congrArg some (by kernel_rfl))
 f217 := Tryz.func195.trans (congrArg some (by kernel_rfl))
 f218 := Tryz.func187.trans (congrArg some (by kernel_rfl))
 f219 := Tryz.func188.trans (congrArg some (by kernel_rfl))
 f221 := Tryz.func149.trans (congrArg some (by kernel_rfl))
 f224 := Tryz.func197.trans (congrArg some (by kernel_rfl))
 f225 := Tryz.func196.trans (congrArg some (by kernel_rfl))
 f260 := Tryz.func194.trans (congrArg some (by kernel_rfl))
 f266 := Tryz.func200.trans (congrArg some (by kernel_rfl))
 f267 := Tryz.func198.trans (congrArg some (by kernel_rfl))
 f268 := Tryz.func172.trans (congrArg some (by kernel_rfl))
 f314 := Tryz.func201.trans (congrArg some (by kernel_rfl))
 t0 := Tryz.underlying0
 a0 := Tryz.isAgg0
 z0 := Tryz.sizeOf0
 v0 := Tryz.zeroValue0
 t3 := Tryz.underlying3
 a3 := Tryz.isAgg3
 z3 := Tryz.sizeOf3
 v3 := Tryz.zeroValue3
 t4 := Tryz.underlying4
 a4 := Tryz.isAgg4
 z4 := Tryz.sizeOf4
 v4 := Tryz.zeroValue4
 t5 := Tryz.underlying5
 a5 := Tryz.isAgg5
 z5 := Tryz.sizeOf5
 v5 := Tryz.zeroValue5
 t9 := Tryz.underlying9
 a9 := Tryz.isAgg9
 z9 := Tryz.sizeOf9
 v9 := Tryz.zeroValue9
 t21 := Tryz.underlying21
 a21 := Tryz.isAgg21
 z21 := Tryz.sizeOf21
 v21 := Tryz.zeroValue21
 t31 := Tryz.underlying71
 a31 := Tryz.isAgg71
 z31 := Tryz.sizeOf71
 v31 := Tryz.zeroValue71
 t46 := Tryz.underlying156
 a46 := Tryz.isAgg156
 z46 := Tryz.sizeOf156
 v46 := Tryz.zeroValue156
 t51 := Tryz.underlying180
 a51 := Tryz.isAgg180
 z51 := Tryz.sizeOf180
 v51 := Tryz.zeroValue180
 t105 := Tryz.underlying206
 a105 := Tryz.isAgg206
 z105 := Tryz.sizeOf206
 v105 := Tryz.zeroValue206
 t119 := Tryz.underlying211
 a119 := Tryz.isAgg211
 z119 := Tryz.sizeOf211
 t138 := Tryz.underlying213
 a138 := Tryz.isAgg213
 z138 := Tryz.sizeOf213
 v138 := Tryz.zeroValue213
 t139 := Tryz.underlying214
 a139 := Tryz.isAgg214
 z139 := Tryz.sizeOf214
 v139 := Tryz.zeroValue214
 t146 := Tryz.underlying186
 a146 := Tryz.isAgg186
 z146 := Tryz.sizeOf186
 v146 := Tryz.zeroValue186
 g1 := by kernel_rfl
 g3 := by kernel_rfl
 g4 := by kernel_rfl }
theorem strings_Split (s sep : ByteArray) (m : Int) (w : World) (hs : s.size < 4294967281) (hm : w.cell? ⟨0, 0, none⟩ = some (.int .i64 m)) (h1 : 1 ≤ sep.size) :
  Calls Tryz.prog 122 #[.string s, .string sep] w fun e w' =>
   e = .returned (.slice (some ⟨w.heap.size, 0, none⟩) (Lib.countB s sep + 1) (Lib.countB s sep + 1)) ∧ w' = w.alloc (.cells ((Lib.splitB sep 0 (Lib.countB s sep) s).map Value.string).toArray 9) := Any.strings_Split lays146 (by kernel_rfl) s sep m w hs hm h1
def sortSpn_ren : Go.Shelf.Ren := ⟨fun | 14 => 148 | 20 => 164 | 21 => 165 | 22 => 166 | 23 => 167 | 24 => 168 | 25 => 169 | 26 => 170 | 27 => 171 | 46 => 182 | 47 => 160 | 48 => 161 | 49 => 183 | 50 => 184 | 15 => 117 | 57 => 193 | 28 => 146 | 29 => 147 | n => n, fun | 24 => 78 | 22 => 48 | 3 => 3 | 25 => 158 | 4 => 4 | 0 => 0 | 46 => 173 | 45 => 172 | 50 => 162 | 66 => 189 | 39 => 156 | 55 => 136 | 70 => 193 | 76 => 201 | 77 => 202 | 53 => 180 | 5 => 5 | 9 => 9 | n => n, fun | n => n⟩
theorem sortSpn : Go.Proofs.SlLaysF0.n14 Tryz.prog sortSpn_ren := {
 mixed := by kernel_rfl
 f14 := ⟨Tryz.f148.name, by decide, Tryz.func148.trans (congrArg some (by kernel_rfl))⟩
 f15 := Tryz.func117.trans (congrArg some (by kernel_rfl))
 f20 := ⟨Tryz.f164.name, by decide, Tryz.func164.trans (congrArg some (by kernel_rfl))⟩
 f21 := ⟨Tryz.f165.name, by decide, Tryz.func165.trans (congrArg some (by kernel_rfl))⟩
 f22 := ⟨Tryz.f166.name, by decide, Tryz.func166.trans (congrArg some (by kernel_rfl))⟩
 f23 := ⟨Tryz.f167.name, by decide, Tryz.func167.trans (congrArg some (by kernel_rfl))⟩
 f24 := ⟨Tryz.f168.name, by decide, Tryz.func168.trans (congrArg some (by kernel_rfl))⟩
 f25 := ⟨Tryz.f169.name, by decide, Tryz.func169.trans (congrArg some (by kernel_rfl))⟩
 f26 := ⟨Tryz.f170.name, by decide, Tryz.func170.trans (congrArg some (by kernel_rfl))⟩
 f27 := ⟨Tryz.f171.name, by decide, Tryz.func171.trans (congrArg some (by kernel_rfl))⟩
 f28 := Tryz.func146.trans (congrArg some (by kernel_rfl))
 f29 := Tryz.func147.trans (congrArg some (by kernel_rfl))
 f46 := ⟨Tryz.f182.name, by decide, Tryz.func182.trans (congrArg some (by kernel_rfl))⟩
 f47 := Tryz.func160.trans (congrArg some (by kernel_rfl))
 f48 := Tryz.func161.trans (congrArg some (by kernel_rfl))
 f49 := ⟨Tryz.f183.name, by decide, Tryz.func183.trans (congrArg some (by kernel_rfl))⟩
 f50 := ⟨Tryz.f184.name, by decide, Tryz.func184.trans (congrArg some (by kernel_rfl))⟩
 f57 := ⟨Tryz.f193.name, by decide, Tryz.func193.trans (congrArg some (by kernel_rfl))⟩
 t0 := Tryz.underlying0
 a0 := Tryz.isAgg0
 z0 := Tryz.sizeOf0
 v0 := Tryz.zeroValue0
 t3 := Tryz.underlying3
 a3 := Tryz.isAgg3
 z3 := Tryz.sizeOf3
 v3 := Tryz.zeroValue3
 t4 := Tryz.underlying4
 a4 := Tryz.isAgg4
 z4 := Tryz.sizeOf4
 v4 := Tryz.zeroValue4
 t5 := Tryz.underlying5
 a5 := Tryz.isAgg5
 z5 := Tryz.sizeOf5
 v5 := Tryz.zeroValue5
 t9 := Tryz.underlying9
 a9 := Tryz.isAgg9
 z9 := Tryz.sizeOf9
 v9 := Tryz.zeroValue9
 t22 := Tryz.underlying48
 a22 := Tryz.isAgg48
 z22 := Tryz.sizeOf48
 v22 := Tryz.zeroValue48
 t25 := Tryz.underlying158
 a25 := Tryz.isAgg158
 z25 := Tryz.sizeOf158
 v25 := Tryz.zeroValue158
 t39 := Tryz.underlying156
 a39 := Tryz.isAgg156
 z39 := Tryz.sizeOf156
 v39 := Tryz.zeroValue156
 t45 := Tryz.underlying172
 a45 := Tryz.isAgg172
 z45 := Tryz.sizeOf172
 v45 := Tryz.zeroValue172
 t46 := Tryz.underlying173
 a46 := Tryz.isAgg173
 z46 := Tryz.sizeOf173
 v46 := Tryz.zeroValue173
 t50 := Tryz.underlying162
 a50 := Tryz.isAgg162
 z50 := Tryz.sizeOf162
 v50 := Tryz.zeroValue162
 t53 := Tryz.underlying180
 a53 := Tryz.isAgg180
 z53 := Tryz.sizeOf180
 v53 := Tryz.zeroValue180
 t55 := Tryz.underlying136
 a55 := Tryz.isAgg136
 z55 := Tryz.sizeOf136
 v55 := Tryz.zeroValue136
 t66 := Tryz.underlying189
 a66 := Tryz.isAgg189
 z66 := Tryz.sizeOf189
 v66 := Tryz.zeroValue189
 t70 := Tryz.underlying193
 a70 := Tryz.isAgg193
 z70 := Tryz.sizeOf193
 v70 := Tryz.zeroValue193
 t76 := Tryz.underlying201
 a76 := Tryz.isAgg201
 z76 := Tryz.sizeOf201
 v76 := Tryz.zeroValue201
 t77 := Tryz.underlying202
 a77 := Tryz.isAgg202
 z77 := Tryz.sizeOf202
 v77 := Tryz.zeroValue202 }
def lays125_ren : Go.Shelf.Ren := ⟨fun | 125 => 117 | 128 => 146 | 129 => 147 | n => n, fun | 46 => 156 | 3 => 3 | 51 => 180 | 53 => 136 | 4 => 4 | 5 => 5 | 9 => 9 | n => n, fun | n => n⟩
theorem lays125 : Go.Proofs.Lays.n125 Tryz.prog lays125_ren := {
 mixed := by kernel_rfl
 f125 := Tryz.func117.trans (congrArg some (by kernel_rfl))
 f128 := Tryz.func146.trans (congrArg some (by kernel_rfl))
 f129 := Tryz.func147.trans (congrArg some (by kernel_rfl))
 t3 := Tryz.underlying3
 a3 := Tryz.isAgg3
 z3 := Tryz.sizeOf3
 v3 := Tryz.zeroValue3
 t4 := Tryz.underlying4
 a4 := Tryz.isAgg4
 z4 := Tryz.sizeOf4
 v4 := Tryz.zeroValue4
 t5 := Tryz.underlying5
 a5 := Tryz.isAgg5
 z5 := Tryz.sizeOf5
 v5 := Tryz.zeroValue5
 t9 := Tryz.underlying9
 a9 := Tryz.isAgg9
 z9 := Tryz.sizeOf9
 v9 := Tryz.zeroValue9
 t46 := Tryz.underlying156
 a46 := Tryz.isAgg156
 z46 := Tryz.sizeOf156
 v46 := Tryz.zeroValue156
 t51 := Tryz.underlying180
 a51 := Tryz.isAgg180
 z51 := Tryz.sizeOf180
 v51 := Tryz.zeroValue180
 t53 := Tryz.underlying136
 a53 := Tryz.isAgg136
 z53 := Tryz.sizeOf136
 v53 := Tryz.zeroValue136 }
theorem bits_Len (x : Int) (w : World) (h0 : 0 ≤ x) (h1 : x ≤ 18446744073709551615) :
  Calls Tryz.prog 117 #[.int .u64 x] w fun e w' => e = .returned (.int .i64 (Lib.bitLen x.toNat)) ∧ w' = w := Any.bits_Len lays125 x w h0 h1
end Go.Proofs.YtnfeacnbgbggfaaGreatDoor
end

section
namespace Go.Eng
variable [Glob]
open Go.RowKit (Below)
theorem FnOk.of_same {P : Program} {f : FuncId} {l : List Value} {v : Value} (hc : ∀ (xs : Array Value) (w : World), (callFunc f xs).run P w = .ok (.enter f xs) w) (hG : Glob.g = some 0)
  (h : ∀ w : World, w.cell? ⟨0, 0, none⟩ = some (.int .i64 Glob.n) → Calls P f l.toArray w fun e w' => e = .returned v ∧ w' = w) : FnOk P f (l.map V.sc) (absV v) := by
 refine ⟨hc, fun F hg w xs hF hx => ?_⟩
 have hxs : xs = l.toArray := by
  rw [← Array.toArray_toList (xs := xs)]
  congr 1
  refine List.ext_getElem? fun i => ?_
  cases hi : l[i]? with
  | none =>
   have h1 := hx.1
   rw [List.length_map] at h1
   rw [List.getElem?_eq_none (by have := List.getElem?_eq_none_iff.1 hi; omega)]
  | some a =>
   obtain ⟨y, hy, hr⟩ := hx.get (i := i) (v := .sc a) (by rw [List.getElem?_map, hi]; rfl)
   rw [hy, rep_sc hr]
 rw [hxs]
 refine (h w (hF _ _ (hg.n 0 hG))).mono ?_
 rintro e w' ⟨rfl, rfl⟩
 exact ⟨F, _, rfl, fun _ _ h => h, hF, fun _ _ h => .inl h, ⟨hg, absV_rep _ _⟩, Below.refl _ _⟩
end Go.Eng
namespace Go.Proofs.YtnfeacnbgbggfaaGreatDoor
open Go.Eng
open Go.RowKit (Below)
open Go.Sort (SWO grow flatK HoldsK PermIn SortedIn)
variable [Glob]
theorem contains_ok (hG : Glob.g = some 0) (s t : ByteArray) (hs : s.size < 4294967281) : FnOk Tryz.prog 177 [str s, str t] (bl (Lib.contains s.data.toList t.data.toList)) :=
 FnOk.of_same (l := [.string s, .string t]) Tryz.call177 hG fun w hw => strings_Contains s t Glob.n w hs hw
theorem cutPre_ok (hG : Glob.g = some 0) (s t : ByteArray) : FnOk Tryz.prog 150 [str s, str t] (.tup [str ⟨(Lib.trimPrefix s.data.toList t.data.toList).toArray⟩, bl (Lib.hasPrefix s.data.toList t.data.toList)]) :=
 FnOk.of_same (l := [.string s, .string t]) Tryz.call150 hG fun w _ => strings_CutPrefix s t w
theorem lastIx_ok (hG : Glob.g = some 0) (s : ByteArray) (hs : s.size < 4611686018427387904) : FnOk Tryz.prog 103 [str s, str ⟨#[47]⟩] (num (Lib.lastIndexByte s 47)) :=
 FnOk.of_same (l := [.string s, .string ⟨#[47]⟩]) Tryz.call103 hG fun w _ => strings_LastIndex_one s ⟨#[47]⟩ rfl hs w
def pieces (s : ByteArray) : List ByteArray := Lib.splitB ⟨#[47]⟩ 0 (Lib.countB s ⟨#[47]⟩) s
theorem pieces_length (s : ByteArray) : (pieces s).length = Lib.countB s ⟨#[47]⟩ + 1 := Lib.splitB_all ⟨#[47]⟩ (by decide) 0 _ s rfl
theorem split_ok (hG : Glob.g = some 0) (s : ByteArray) (hs : s.size < 4294967281) : FnOk Tryz.prog 122 [str s, str ⟨#[47]⟩] (.slice ((pieces s).map str)) := by
 refine ⟨Tryz.call122, fun F hg w xs hF hx => ?_⟩
 obtain ⟨x, ys, hxs, hr, hrest⟩ := hx.of_cons
 obtain ⟨y, zs, hys, hr2, hz⟩ := hrest.of_cons
 have hzs := hz.of_nil
 subst hzs
 have h1 := rep_sc hr
 have h2 := rep_sc hr2
 subst h1; subst h2; subst hys
 obtain rfl : xs = #[.string s, .string ⟨#[47]⟩] := by rw [← Array.toArray_toList (xs := xs), hxs]
 refine (strings_Split s ⟨#[47]⟩ Glob.n w hs (hF _ _ (hg.n 0 hG)) (by decide)).mono ?_
 rintro e w' ⟨rfl, rfl⟩
 have hold : ∀ ad y, F ad = some y → ad.block ≠ w.heap.size := fun ad y h e => by
  have := World.block_lt_of_cell? w ad (hF ad y h); omega
 have hnew : ∀ o, (w.alloc (.cells ((pieces s).map Value.string).toArray 9)).cell? ⟨w.heap.size, o, none⟩ = ((pieces s).map Value.string)[o]? := fun o => by
  unfold World.cell? World.alloc
  simp
 let F' : Addr → Option Value := fun ad => if ad.block = w.heap.size then (w.alloc (.cells ((pieces s).map Value.string).toArray 9)).cell? ad else F ad
 have hFF : ∀ ad y, F ad = some y → F' ad = some y := fun ad y h => by
  show (if _ then _ else _) = _
  rw [if_neg (hold ad y h)]; exact h
 have hg' : Gl F' := hg.mono hFF
 refine ⟨F', _, rfl, hFF, fun ad y h => ?_, fun ad y h => ?_, ⟨hg', ?_⟩, (Below.refl _ _).alloc (Nat.le_refl _) _⟩
 ·by_cases hb : ad.block = w.heap.size
  ·rw [show F' ad = _ from if_pos hb] at h; exact h
  ·rw [show F' ad = _ from if_neg hb] at h
   have h3 := hF ad y h
   rw [← h3]
   have hlt := World.block_lt_of_cell? w ad h3
   unfold World.cell?
   rw [Below.heap_alloc w _ _ hlt]
 ·by_cases hb : ad.block = w.heap.size
  ·exact .inr (by omega)
  ·rw [show F' ad = _ from if_neg hb] at h; exact .inl h
 ·have hl : ((pieces s).map str).length = Lib.countB s ⟨#[47]⟩ + 1 := by rw [List.length_map, pieces_length]
  have := Rep.slice ⟨F', fun _ _ => none, hg'⟩ ((pieces s).map str) (some ⟨w.heap.size, 0, none⟩) (Lib.countB s ⟨#[47]⟩ + 1) 1 ⟨w.heap.size, 0, none⟩ (fun i _ => (((pieces s).map Value.string)[i]?).getD undef) (fun _ => rfl) (by rw [hl]; exact Nat.le_refl _)
   (fun i row hi => by rw [List.getElem?_map, Option.map_eq_some_iff] at hi; obtain ⟨u, -, rfl⟩ := hi; rfl)
   (fun i row j c hi hj => by
    rw [List.getElem?_map, Option.map_eq_some_iff] at hi
    obtain ⟨u, hu, rfl⟩ := hi
    match j, hj with
    | 0, hj =>
     show F' _ = _
     rw [add_lit, show F' _ = _ from if_pos rfl, hnew]
     simp [hu]
    | j + 1, hj => simp [V.cells] at hj)
   (fun i row j c hi hj => by
    rw [List.getElem?_map, Option.map_eq_some_iff] at hi
    obtain ⟨u, hu, rfl⟩ := hi
    simp [hu, Value.oneCell'])
   (fun i row j c hi hj => by
    rw [List.getElem?_map, Option.map_eq_some_iff] at hi
    obtain ⟨u, hu, rfl⟩ := hi
    match j, hj with
    | 0, hj =>
     cases hj
     simp only [List.getElem?_map,hu,Option.map_some,Option.getD_some]
     exact .sc _ _
    | j + 1, hj => simp [V.cells] at hj)
  rw [hl] at this
  exact this
end Go.Proofs.YtnfeacnbgbggfaaGreatDoor
end

section
namespace Go.Proofs.YtnfeacnbgbggfaaGreatDoor
open Go.Eng
open Nat (reduceAdd reduceLT reduceLeDiff reduceMul reduceEqDiff reduceSub)
variable [Glob]
set_option maxHeartbeats 4000000
set_option maxRecDepth 100000
attribute [local irreducible] runM stepM valD stepOp stepD callF callS
def kwTab : ByteArray := ⟨#[32,97,110,100,32,97,110,121,32,97,115,32,98,111,111,108,32,100,101,112,114,101,99,97,116,101,100,32,101,108,115,101,32,101,120,112,111,114,116,32,102,97,108,115,101,32,102,110,32,102,111,108,100,32,102,114,111,109,32,105,102,32,105,109,112,111,114,116,32,105,110,32,105,110,116,32,108,101,110,103,116,104,32,108,101,116,32,108,105,115,116,32,109,97,116,99,104,32,109,111,100,117,108,101,32,110,111,110,101,32,110,111,116,32,111,114,32,116,101,120,116,32,116,104,101,110,32,116,114,117,101,32,116,121,112,101,32,117,115,101,32]⟩
def kwB (s : ByteArray) : Bool := Lib.contains kwTab.data.toList (⟨#[32]⟩ ++ s ++ ⟨#[32]⟩ : ByteArray).data.toList
def nameB (s : ByteArray) : Bool := decide (1 ≤ s.size) && decide (s.size ≤ 32) && isSm (byteAt s 0) && allP isWd s && !kwB s
def segB (s : ByteArray) : Bool := nameB s && allP isSd s
def cutVee (s : ByteArray) : ByteArray := ⟨(Lib.trimPrefix s.data.toList [118]).toArray⟩
def hasVee (s : ByteArray) : Bool := Lib.hasPrefix s.data.toList [118]
def decL (t : ByteArray) : Nat → Int
 | 0 => 0
 | k + 1 => 10 * decL t k + (byteAt t k - 48)
def verT (t : ByteArray) : Bool := decide (1 ≤ t.size) && decide (t.size ≤ 3) && !(decide (1 < t.size) && decide (byteAt t 0 = 48)) && allP isDg t
def verOk (s : ByteArray) : Bool := hasVee s && verT (cutVee s)
def verN (s : ByteArray) : Int := decL (cutVee s) (cutVee s).size
theorem allP_get {p : Int → Bool} {s : ByteArray} (h : allP p s = true) {i : Nat} {c : UInt8} (hc : s[i]? = some c) : p c.toNat = true := List.all_eq_true.1 h c (List.mem_of_getElem? (byte_get hc))
theorem decL_bound {t : ByteArray} (h : allP isDg t = true) : ∀ k, k ≤ t.size → 0 ≤ decL t k ∧ decL t k < 10 ^ k
 | 0, _ => ⟨Int.le_refl _, by simp [decL]⟩
 | k + 1, hk => by
  obtain ⟨h1, h2⟩ := decL_bound h k (by omega)
  obtain ⟨c, hc⟩ := get_byte (s := t) (i := k) (by omega)
  have h3 := allP_get h hc
  unfold isDg at h3
  simp only [Bool.and_eq_true,decide_eq_true_eq] at h3
  rw [decL, byteAt_of hc, Int.pow_succ]
  omega
theorem decL_3 {t : ByteArray} (h : allP isDg t = true) (h3 : t.size ≤ 3) {k : Nat} (hk : k ≤ t.size) : 0 ≤ decL t k ∧ decL t k < 1000 := by
 obtain ⟨h1, h2⟩ := decL_bound h k hk
 refine ⟨h1, Int.lt_of_lt_of_le h2 ?_⟩
 have : k = 0 ∨ k = 1 ∨ k = 2 ∨ k = 3 := by omega
 rcases this with rfl | rfl | rfl | rfl <;> decide
theorem keyword_ok (hG : Glob.g = some 0) (s : ByteArray) (hs : s.size ≤ 1000000) : ∃ r_, (fun w => w = bl (kwB s)) r_ ∧ FnOk Tryz.prog 152 [str s] r_ := by
 refine fn_ex tt_ok (fn := Tryz.f152) Tryz.func152 rfl Tryz.call152 ?_
 simp only [ltb,startSt,Tryz.ntmps152,List.length_cons,List.length_nil,reduceAdd,reduceSub,List.replicate_succ,List.replicate_zero]
 have sa1 := fun x y => ev_sadd Tryz.prog 9 x y ⟨#[32]⟩ s (by rw [show (⟨#[32]⟩ : ByteArray).size = 1 from rfl, show IntKind.i64.max = 9223372036854775807 from rfl]; omega)
 have sa2 := fun x y => ev_sadd Tryz.prog 9 x y (⟨#[32]⟩ ++ s) ⟨#[32]⟩ (by rw [ByteArray.size_append, show (⟨#[32]⟩ : ByteArray).size = 1 from rfl, show IntKind.i64.max = 9223372036854775807 from rfl]; omega)
 refine ex_region_w tt_ok 7 [0,0,2] [] rfl rfl fun K hK => ?_
 simp only [ltb,go_sem]
 refine hK _ _ rfl ?_
 simp only [mwb,reduceAdd]
 refine ex_region_w tt_ok 7 [0,0,2,1,1,1,1] [] rfl rfl fun K hK => ?_
 try simp only [ltb]
 refine runX_cut 4 fun K1 hK1 => ?_
 simp only [ltb]
 simp only [sa1,sa2,go_sem,reduceLT,reduceEqDiff]
 refine callF_ex (⟨_, rfl, contains_ok hG _ _ (by decide)⟩) ?_
 rintro _ rfl
 try simp only [go_sem]
 refine hK1 _ ?_
 simp only [ltb,go_sem,reduceLT,reduceEqDiff]
 refine hK _ _ rfl ?_
 simp only [mwb,reduceAdd,reduceEqDiff]
 exact ex_ret ⟨.inl rfl, _, rfl, rfl⟩
theorem isName_ok (hG : Glob.g = some 0) (s : ByteArray) : ∃ r_, (fun w => w = bl (nameB s)) r_ ∧ FnOk Tryz.prog 124 [str s] r_ := by
 refine fn_ex tt_ok (fn := Tryz.f124) Tryz.func124 rfl Tryz.call124 ?_
 simp only [ltb,startSt,Tryz.ntmps124,List.length_cons,List.length_nil,reduceAdd,reduceSub,List.replicate_succ,List.replicate_zero]
 have hT9 : Tryz.prog.underlying 9 = some .string := by kernel_rfl
 have sl : ∀ (a : ByteArray) (ty : TypeId), liftL Tryz.prog (Builtin.len_ #[9] ty) [.sc (.string a)] = some (num a.size) := fun a ty => ev_slen (P := Tryz.prog) (tt := tt) (T := 9) a hT9 ty
 refine ex_region_w tt_ok 24 [0,0,2] [] rfl rfl fun K hK => ?_
 simp only [ltb,go_sem]
 refine hK _ _ rfl ?_
 simp only [mwb,reduceAdd]
 refine ex_region_w tt_ok 24 (0::0::2::(rp 21 1 [])) [(2, 5), (7, 10), (12, 15), (16, 19)] rfl rfl fun K hK => ?_
 refine runX_cut 3 fun K1 hK1 => ?_
 simp only [ltb,go_sem,reduceLT,reduceEqDiff]
 refine hK1 _ ?_
 refine runX_case 5 (by rfl) fun b hb1_2 => ?_
 cases b
 ·have h1 := size_eq0 rfl hb1_2
  refine runX_cut 8 fun K1 hK1 => ?_
  simp only [ltb,go_sem,reduceLT,reduceEqDiff]
  refine hK1 _ ?_
  refine runX_cut 8 fun K1 hK1 => ?_
  simp only [ltb,go_sem,reduceLT,reduceEqDiff]
  refine hK1 _ ?_
  simp only [ltb,go_sem,reduceLT,reduceEqDiff]
  refine hK _ _ rfl ?_
  simp only [mwb,reduceAdd,reduceEqDiff]
  exact ex_ret ⟨.inl rfl, _, congrArg bl (by simp_all [nameB] <;> (intros; omega)), rfl⟩
 ·have h1 := size_ne rfl hb1_2
  obtain ⟨cv0, hcbv0⟩ := get_byte (s := s) (i := (0 : Int).toNat) (by omega)
  have hixv0 := ev_index (P := Tryz.prog) s hT9 .i64 (0) (by omega) (c := cv0) hcbv0
  have hb0 : byteAt s 0 = cv0.toNat := byteAt_of hcbv0
  refine runX_cut 5 fun K1 hK1 => ?_
  simp only [ltb]
  simp only [sl,go_sem,reduceLT,reduceEqDiff,reduceCtorEq]
  refine hK1 _ ?_
  refine runX_case 10 (by rfl) fun b hb1_7 => ?_
  cases b
  ·refine runX_cut 8 fun K1 hK1 => ?_
   simp only [ltb,go_sem,reduceLT,reduceEqDiff]
   refine hK1 _ ?_
   simp only [ltb,go_sem,reduceLT,reduceEqDiff]
   refine hK _ _ rfl ?_
   simp only [mwb,reduceAdd,reduceEqDiff]
   exact ex_ret ⟨.inl rfl, _, congrArg bl (by simp_all [nameB] <;> (intros; omega)), rfl⟩
  ·refine runX_cut 3 fun K1 hK1 => ?_
   simp only [ltb]
   simp only [hixv0,go_sem,reduceLT,reduceEqDiff,reduceCtorEq]
   refine callF_ex (small_ex _) ?_
   rintro _ rfl
   try simp only [go_sem]
   refine hK1 _ ?_
   refine runX_cut 2 fun K1 hK1 => ?_
   simp only [ltb,go_sem,reduceLT,reduceEqDiff]
   refine hK1 _ ?_
   refine runX_case 15 (by rfl) fun b hb1_12 => ?_
   cases b
   ·refine runX_cut 8 fun K1 hK1 => ?_
    simp only [ltb,go_sem,reduceLT,reduceEqDiff]
    refine hK1 _ ?_
    simp only [ltb,go_sem,reduceLT,reduceEqDiff]
    refine hK _ _ rfl ?_
    simp only [mwb,reduceAdd,reduceEqDiff]
    exact ex_ret ⟨.inl rfl, _, congrArg bl (by simp_all [nameB] <;> (intros; omega)), rfl⟩
   ·refine runX_cut 2 fun K1 hK1 => ?_
    simp only [ltb,go_sem,reduceLT,reduceEqDiff,reduceCtorEq]
    refine callF_ex (all_ex 151 isWd word_ex s (by have := of_decide_eq_true hb1_7; omega)) ?_
    rintro _ rfl
    try simp only [go_sem]
    refine hK1 _ ?_
    refine runX_cut 2 fun K1 hK1 => ?_
    simp only [ltb,go_sem,reduceLT,reduceEqDiff]
    refine hK1 _ ?_
    refine runX_case 19 (by rfl) fun b hb1_16 => ?_
    cases b
    ·simp only [ltb,go_sem,reduceLT,reduceEqDiff]
     refine hK _ _ rfl ?_
     simp only [mwb,reduceAdd,reduceEqDiff]
     exact ex_ret ⟨.inl rfl, _, congrArg bl (by simp_all [nameB] <;> (intros; omega)), rfl⟩
    ·refine runX_cut 2 fun K1 hK1 => ?_
     simp only [ltb,go_sem,reduceLT,reduceEqDiff,reduceCtorEq]
     refine callF_ex (keyword_ok hG s (by have := of_decide_eq_true hb1_7; omega)) ?_
     rintro _ rfl
     try simp only [go_sem]
     refine hK1 _ ?_
     simp only [ltb,go_sem,reduceLT,reduceEqDiff]
     refine hK _ _ rfl ?_
     simp only [mwb,reduceAdd,reduceEqDiff]
     exact ex_ret ⟨.inl rfl, _, congrArg bl (by simp_all [nameB] <;> (intros; omega)), rfl⟩
theorem version_ok (hG : Glob.g = some 0) (s : ByteArray) : ∃ r_, (fun w => w = .tup [num (if verOk s = true then verN s else 0), bl (verOk s)]) r_ ∧ FnOk Tryz.prog 123 [str s] r_ := by
 refine fn_ex tt_ok (fn := Tryz.f123) Tryz.func123 rfl Tryz.call123 ?_
 simp only [ltb,startSt,Tryz.ntmps123,List.length_cons,List.length_nil,reduceAdd,reduceSub,List.replicate_succ,List.replicate_zero]
 have hT9 : Tryz.prog.underlying 9 = some .string := by kernel_rfl
 have sl : ∀ (a : ByteArray) (ty : TypeId), liftL Tryz.prog (Builtin.len_ #[9] ty) [.sc (.string a)] = some (num a.size) := fun a ty => ev_slen (P := Tryz.prog) (tt := tt) (T := 9) a hT9 ty
 have hT5 : Tryz.prog.underlying 5 = some (.int .u8) := by kernel_rfl
 have hT3 : Tryz.prog.underlying 3 = some (.int .i64) := by kernel_rfl
 have cv := fun (k : IntKind) (n : Int) => ev_conv (P := Tryz.prog) (src := 5) (dst := 3) hT5 hT3 k n
 refine ex_region_w tt_ok 53 [0,0,2,2] [] rfl rfl fun K hK => ?_
 simp only [ltb,go_sem]
 refine hK _ _ rfl ?_
 simp only [mwb,reduceAdd,reduceEqDiff]
 refine ex_region_w tt_ok 53 [2,0,0,0,2,0,0,1,1,1,1,1] [] rfl rfl fun K hK => ?_
 refine runX_cut 2 fun K1 hK1 => ?_
 simp only [ltb,go_sem,reduceLT]
 refine callF_ex (⟨_, rfl, cutPre_ok hG s ⟨#[118]⟩⟩) ?_
 rintro _ rfl
 try simp only [go_sem]
 obtain ⟨t, ht⟩ : ∃ t, t = cutVee s := ⟨_, rfl⟩
 obtain ⟨hv, hhv⟩ : ∃ b, b = hasVee s := ⟨_, rfl⟩
 have e1 : (⟨(Lib.trimPrefix s.data.toList [118]).toArray⟩ : ByteArray) = t := ht.symm
 have e2 : Lib.hasPrefix s.data.toList [118] = hv := hhv.symm
 have hvo : verOk s = (hv && verT t) := by rw [hhv, ht]; rfl
 simp only [e1,e2]
 refine hK1 _ ?_
 simp only [ltb,go_sem,reduceLT,reduceEqDiff,reduceCtorEq]
 refine hK _ _ rfl ?_
 simp only [mwb,reduceAdd,reduceEqDiff]
 refine ex_seq ?_
 refine ex_region_w tt_ok 53 (rp 12 0 (rp 25 1 [2])) [(2, 14), (6, 18), (11, 23), (15, 27), (21, 33)] rfl rfl fun K hK => ?_
 refine runX_cut 3 fun K1 hK1 => ?_
 simp only [ltb,go_sem,reduceLT,reduceEqDiff]
 refine hK1 _ ?_
 refine runX_case 14 (by rfl) fun b hb2_2 => ?_
 cases b
 ·refine runX_cut 4 fun K1 hK1 => ?_
  simp only [ltb,go_sem,reduceLT,reduceEqDiff,reduceCtorEq]
  refine hK1 _ ?_
  refine runX_case 18 (by rfl) fun b hb2_6 => ?_
  cases b
  ·have h1 : 1 ≤ t.size := size_ne (e := ⟨#[]⟩) rfl (by rw [hb2_6]; rfl)
   obtain ⟨cv0, hcbv0⟩ := get_byte (s := t) (i := (0 : Int).toNat) (by omega)
   have hixv0 := ev_index (P := Tryz.prog) t hT9 .i64 (0) (by omega) (c := cv0) hcbv0
   have hb0 : byteAt t 0 = cv0.toNat := byteAt_of hcbv0
   refine runX_cut 5 fun K1 hK1 => ?_
   simp only [ltb]
   simp only [sl,go_sem,reduceLT,reduceEqDiff,reduceCtorEq]
   refine hK1 _ ?_
   refine runX_case 23 (by rfl) fun b hb2_11 => ?_
   cases b
   ·refine runX_cut 4 fun K1 hK1 => ?_
    simp only [ltb]
    simp only [sl,go_sem,reduceLT,reduceEqDiff,reduceCtorEq]
    refine hK1 _ ?_
    refine runX_case 27 (by rfl) fun b hb2_15 => ?_
    cases b
    ·refine runX_cut 8 fun K1 hK1 => ?_
     simp only [ltb,go_sem,reduceLT,reduceEqDiff,reduceCtorEq]
     refine callF_ex (all_ex 128 isDg digit_ex t (by have := of_decide_eq_false hb2_11; omega)) ?_
     rintro _ rfl
     try simp only [go_sem]
     refine hK1 _ ?_
     simp only [ltb,go_sem,reduceLT,reduceEqDiff]
     refine hK _ _ rfl ?_
     simp only [mwb,reduceAdd,reduceEqDiff]
     refine ex_if rfl (fun hc37 => ?_) (fun hc37 => ?_)
     ·have hno : verOk s = false := by rw [hvo]; simp_all [verT] <;> (intros; omega)
      refine ex_region_w tt_ok 53 [0,0,2,2] [] rfl rfl fun K hK => ?_
      simp only [ltb,go_sem]
      refine hK _ _ rfl ?_
      simp only [mwb,reduceAdd,reduceEqDiff]
      refine ex_ret ?_
      refine ⟨.inl rfl, _, rfl, ?_⟩
      first
       | (rw [hno]; rfl)
       | (rw [hok]; subst hge; unfold verN; rw [← ht]; rfl)
     ·have hok : verOk s = true := by rw [hvo]; simp_all [verT] <;> (intros; omega)
      have hvt : verT t = true := by rw [hvo] at hok; simp at hok; exact hok.2
      have hdg : allP isDg t = true := by unfold verT at hvt; simp only [Bool.and_eq_true] at hvt; exact hvt.2
      have h3 : t.size ≤ 3 := by unfold verT at hvt; simp only [Bool.and_eq_true,decide_eq_true_eq] at hvt; exact hvt.1.1.2
      refine ex_skip ?_
      show Go.Eng.Ex _ _ _ _ _ _
      refine ex_region_w tt_ok 53 [0,0,0,0,0,2] [] rfl rfl fun K hK => ?_
      simp only [ltb,go_sem]
      refine hK _ _ rfl ?_
      simp only [mwb,reduceAdd]
      refine ex_seq ?_
      refine ex_region_w tt_ok 53 (rp 38 0 [1,2,2]) [] rfl rfl fun K hK => ?_
      try simp only [ltb]
      simp only [sl,go_sem,reduceLT]
      refine hK _ _ rfl ?_
      simp only [mwb,reduceAdd,reduceEqDiff]
      refine ex_block ?_
      refine ex_loopK [40,5] [num 0, num 0] 0 (true::false::true::true::false::true::(rp 31 false [true,false,true,true])) (fun vs => ((t.size : Int) - Go.Eng.intOf (vs.headD .undef)).toNat) (fun vs => ∃ i : Nat, vs = [num i, num (decL t i)] ∧ i ≤ t.size) (by omega) (by simp only [maskFr,belowV,mkb]) (by simp only [List.all_nil,List.take_nil]) (by rfl) (⟨0, rfl, Nat.zero_le _⟩) fun vs hI => ?_
      obtain ⟨i, rfl, hi⟩ := hI
      simp only [maskFr,putAll,List.set_cons_zero,List.set_cons_succ,mkb]
      refine ex_region_w tt_ok 53 (rp 41 0 [2]) [] rfl rfl fun K hK => ?_
      simp only [ltb,go_sem,reduceLT]
      refine hK _ _ rfl ?_
      simp only [mwb,reduceAdd]
      refine ex_seq ?_
      refine ex_if rfl (fun hc41 => ?_) (fun hc41 => ?_)
      ·have hlt : i < t.size := by simpa using hc41
       have hw := i64_succ i (by omega)
       obtain ⟨c, hcb⟩ := get_byte (s := t) (i := i) hlt
       have hix := ev_index (P := Tryz.prog) t hT9 .i64 (i : Int) (by omega) (c := c) (show t[((i : Nat) : Int).toNat]? = some c from hcb)
       have hcd := allP_get hdg hcb
       unfold isDg at hcd
       simp only [Bool.and_eq_true,decide_eq_true_eq] at hcd
       obtain ⟨hd0, hd1⟩ := decL_3 hdg h3 hi
       have hu : IntKind.u8.wrap ((c.toNat : Int) - 48) = (c.toNat : Int) - 48 := by have h := c.toNat_lt; simp only [IntKind.wrap,IntKind.bits,IntKind.signed]; simp; omega
       have hw48 : IntKind.i64.wrap ((c.toNat : Int) - 48) = (c.toNat : Int) - 48 := IntWalk.i64_in _ (by omega)
       have hw10 : IntKind.i64.wrap (10 * decL t i) = 10 * decL t i := IntWalk.i64_in _ (by omega)
       have hws : IntKind.i64.wrap (10 * decL t i + ((c.toNat : Int) - 48)) = decL t (i + 1) := by rw [decL, byteAt_of hcb]; exact IntWalk.i64_in _ (by omega)
       refine ex_skip ?_
       show Go.Eng.Ex _ _ _ _ _ _
       refine ex_seq ?_
       refine ex_block ?_
       refine ex_region_w tt_ok 53 (0::0::0::0::0::0::2::(rp 35 0 [1])) [] rfl rfl fun K hK => ?_
       simp only [ltb,go_sem,reduceLT]
       refine hK _ _ rfl ?_
       simp only [mwb,reduceAdd,reduceEqDiff]
       refine ex_last_region_w tt_ok 53 (0::0::0::0::0::2::(rp 37 0 (rp 8 2 []))) [] (by kernel_rfl) rfl rfl fun K hK => ?_
       refine runX_cut 8 fun K1 hK1 => ?_
       simp only [ltb]
       simp only [hix,hu,hw48,hw10,hws,cv,go_sem,reduceLT,reduceEqDiff,reduceCtorEq]
       refine hK1 _ ?_
       simp only [ltb,go_sem,reduceLT,reduceEqDiff]
       refine hK _ _ rfl ?_
       simp only [mwb,reduceAdd,reduceEqDiff]
       show Go.Eng.Ex _ _ _ _ _ _
       refine ex_last_region_w tt_ok 53 (rp 40 0 (2::(rp 10 0 [2]))) [] (by kernel_rfl) rfl rfl fun K hK => ?_
       try simp only [ltb]
       simp only [hw,go_sem,reduceLT]
       refine hK _ _ rfl ?_
       simp only [mwb,reduceAdd,reduceEqDiff]
       refine ⟨[_, _], ?_, ?_, 0, (true::false::true::true::false::true::(rp 31 false [true,false,true,true])), by omega, by simp only [maskFr,belowV,mkb], by simp only [List.all_nil,List.take_nil], by simp only [maskFr,putAll,List.set_cons_zero,List.set_cons_succ,mkb]; rfl⟩
       ·exact ⟨i + 1, rfl, hlt⟩
       ·simp only [Go.Eng.intOf,List.headD_cons]; omega
      ·have hge : i = t.size := Nat.le_antisymm hi (Nat.le_of_not_lt (by simpa using hc41))
       refine ex_exit ?_
       show Go.Eng.Ex _ _ _ _ _ _
       refine ex_region_w tt_ok 53 (0::0::2::2::(rp 48 0 [1])) [] rfl rfl fun K hK => ?_
       simp only [ltb,go_sem,reduceLT]
       refine hK _ _ rfl ?_
       simp only [mwb,reduceAdd,reduceEqDiff]
       refine ex_ret ?_
       refine ⟨.inl rfl, _, rfl, ?_⟩
       first
        | (rw [hno]; rfl)
        | (rw [hok]; subst hge; unfold verN; rw [← ht]; rfl)
    ·refine runX_cut 6 fun K1 hK1 => ?_
     simp only [ltb]
     simp only [hixv0,go_sem,reduceLT,reduceEqDiff,reduceCtorEq]
     refine hK1 _ ?_
     refine runX_case 33 (by rfl) fun b hb2_21 => ?_
     cases b
     ·refine runX_cut 2 fun K1 hK1 => ?_
      simp only [ltb,go_sem,reduceLT,reduceEqDiff,reduceCtorEq]
      refine callF_ex (all_ex 128 isDg digit_ex t (by have := of_decide_eq_false hb2_11; omega)) ?_
      rintro _ rfl
      try simp only [go_sem]
      refine hK1 _ ?_
      simp only [ltb,go_sem,reduceLT,reduceEqDiff]
      refine hK _ _ rfl ?_
      simp only [mwb,reduceAdd,reduceEqDiff]
      refine ex_if rfl (fun hc37 => ?_) (fun hc37 => ?_)
      ·have hno : verOk s = false := by rw [hvo]; simp_all [verT] <;> (intros; omega)
       refine ex_region_w tt_ok 53 [0,0,2,2] [] rfl rfl fun K hK => ?_
       simp only [ltb,go_sem]
       refine hK _ _ rfl ?_
       simp only [mwb,reduceAdd,reduceEqDiff]
       refine ex_ret ?_
       refine ⟨.inl rfl, _, rfl, ?_⟩
       first
        | (rw [hno]; rfl)
        | (rw [hok]; subst hge; unfold verN; rw [← ht]; rfl)
      ·have hok : verOk s = true := by rw [hvo]; simp_all [verT] <;> (intros; omega)
       have hvt : verT t = true := by rw [hvo] at hok; simp at hok; exact hok.2
       have hdg : allP isDg t = true := by unfold verT at hvt; simp only [Bool.and_eq_true] at hvt; exact hvt.2
       have h3 : t.size ≤ 3 := by unfold verT at hvt; simp only [Bool.and_eq_true,decide_eq_true_eq] at hvt; exact hvt.1.1.2
       refine ex_skip ?_
       show Go.Eng.Ex _ _ _ _ _ _
       refine ex_region_w tt_ok 53 [0,0,0,0,0,2] [] rfl rfl fun K hK => ?_
       simp only [ltb,go_sem]
       refine hK _ _ rfl ?_
       simp only [mwb,reduceAdd]
       refine ex_seq ?_
       refine ex_region_w tt_ok 53 (rp 38 0 [1,2,2]) [] rfl rfl fun K hK => ?_
       try simp only [ltb]
       simp only [sl,go_sem,reduceLT]
       refine hK _ _ rfl ?_
       simp only [mwb,reduceAdd,reduceEqDiff]
       refine ex_block ?_
       refine ex_loopK [40,5] [num 0, num 0] 0 (true::false::true::true::false::true::(rp 31 false [true,false,true,true])) (fun vs => ((t.size : Int) - Go.Eng.intOf (vs.headD .undef)).toNat) (fun vs => ∃ i : Nat, vs = [num i, num (decL t i)] ∧ i ≤ t.size) (by omega) (by simp only [maskFr,belowV,mkb]) (by simp only [List.all_nil,List.take_nil]) (by rfl) (⟨0, rfl, Nat.zero_le _⟩) fun vs hI => ?_
       obtain ⟨i, rfl, hi⟩ := hI
       simp only [maskFr,putAll,List.set_cons_zero,List.set_cons_succ,mkb]
       refine ex_region_w tt_ok 53 (rp 41 0 [2]) [] rfl rfl fun K hK => ?_
       simp only [ltb,go_sem,reduceLT]
       refine hK _ _ rfl ?_
       simp only [mwb,reduceAdd]
       refine ex_seq ?_
       refine ex_if rfl (fun hc41 => ?_) (fun hc41 => ?_)
       ·have hlt : i < t.size := by simpa using hc41
        have hw := i64_succ i (by omega)
        obtain ⟨c, hcb⟩ := get_byte (s := t) (i := i) hlt
        have hix := ev_index (P := Tryz.prog) t hT9 .i64 (i : Int) (by omega) (c := c) (show t[((i : Nat) : Int).toNat]? = some c from hcb)
        have hcd := allP_get hdg hcb
        unfold isDg at hcd
        simp only [Bool.and_eq_true,decide_eq_true_eq] at hcd
        obtain ⟨hd0, hd1⟩ := decL_3 hdg h3 hi
        have hu : IntKind.u8.wrap ((c.toNat : Int) - 48) = (c.toNat : Int) - 48 := by have h := c.toNat_lt; simp only [IntKind.wrap,IntKind.bits,IntKind.signed]; simp; omega
        have hw48 : IntKind.i64.wrap ((c.toNat : Int) - 48) = (c.toNat : Int) - 48 := IntWalk.i64_in _ (by omega)
        have hw10 : IntKind.i64.wrap (10 * decL t i) = 10 * decL t i := IntWalk.i64_in _ (by omega)
        have hws : IntKind.i64.wrap (10 * decL t i + ((c.toNat : Int) - 48)) = decL t (i + 1) := by rw [decL, byteAt_of hcb]; exact IntWalk.i64_in _ (by omega)
        refine ex_skip ?_
        show Go.Eng.Ex _ _ _ _ _ _
        refine ex_seq ?_
        refine ex_block ?_
        refine ex_region_w tt_ok 53 (0::0::0::0::0::0::2::(rp 35 0 [1])) [] rfl rfl fun K hK => ?_
        simp only [ltb,go_sem,reduceLT]
        refine hK _ _ rfl ?_
        simp only [mwb,reduceAdd,reduceEqDiff]
        refine ex_last_region_w tt_ok 53 (0::0::0::0::0::2::(rp 37 0 (rp 8 2 []))) [] (by kernel_rfl) rfl rfl fun K hK => ?_
        refine runX_cut 8 fun K1 hK1 => ?_
        simp only [ltb]
        simp only [hix,hu,hw48,hw10,hws,cv,go_sem,reduceLT,reduceEqDiff,reduceCtorEq]
        refine hK1 _ ?_
        simp only [ltb,go_sem,reduceLT,reduceEqDiff]
        refine hK _ _ rfl ?_
        simp only [mwb,reduceAdd,reduceEqDiff]
        show Go.Eng.Ex _ _ _ _ _ _
        refine ex_last_region_w tt_ok 53 (rp 40 0 (2::(rp 10 0 [2]))) [] (by kernel_rfl) rfl rfl fun K hK => ?_
        try simp only [ltb]
        simp only [hw,go_sem,reduceLT]
        refine hK _ _ rfl ?_
        simp only [mwb,reduceAdd,reduceEqDiff]
        refine ⟨[_, _], ?_, ?_, 0, (true::false::true::true::false::true::(rp 31 false [true,false,true,true])), by omega, by simp only [maskFr,belowV,mkb], by simp only [List.all_nil,List.take_nil], by simp only [maskFr,putAll,List.set_cons_zero,List.set_cons_succ,mkb]; rfl⟩
        ·exact ⟨i + 1, rfl, hlt⟩
        ·simp only [Go.Eng.intOf,List.headD_cons]; omega
       ·have hge : i = t.size := Nat.le_antisymm hi (Nat.le_of_not_lt (by simpa using hc41))
        refine ex_exit ?_
        show Go.Eng.Ex _ _ _ _ _ _
        refine ex_region_w tt_ok 53 (0::0::2::2::(rp 48 0 [1])) [] rfl rfl fun K hK => ?_
        simp only [ltb,go_sem,reduceLT]
        refine hK _ _ rfl ?_
        simp only [mwb,reduceAdd,reduceEqDiff]
        refine ex_ret ?_
        refine ⟨.inl rfl, _, rfl, ?_⟩
        first
         | (rw [hno]; rfl)
         | (rw [hok]; subst hge; unfold verN; rw [← ht]; rfl)
     ·simp only [ltb,go_sem,reduceLT,reduceEqDiff]
      refine hK _ _ rfl ?_
      simp only [mwb,reduceAdd,reduceEqDiff]
      refine ex_cond rfl ?_
      have hno : verOk s = false := by rw [hvo]; simp_all [verT] <;> (intros; omega)
      refine ex_region_w tt_ok 53 [0,0,2,2] [] rfl rfl fun K hK => ?_
      simp only [ltb,go_sem]
      refine hK _ _ rfl ?_
      simp only [mwb,reduceAdd,reduceEqDiff]
      refine ex_ret ?_
      refine ⟨.inl rfl, _, rfl, ?_⟩
      first
       | (rw [hno]; rfl)
       | (rw [hok]; subst hge; unfold verN; rw [← ht]; rfl)
   ·refine runX_cut 8 fun K1 hK1 => ?_
    simp only [ltb]
    simp only [hixv0,go_sem,reduceLT,reduceEqDiff,reduceCtorEq]
    refine hK1 _ ?_
    simp only [ltb,go_sem,reduceLT,reduceEqDiff]
    refine hK _ _ rfl ?_
    simp only [mwb,reduceAdd,reduceEqDiff]
    refine ex_cond rfl ?_
    have hno : verOk s = false := by rw [hvo]; simp_all [verT] <;> (intros; omega)
    refine ex_region_w tt_ok 53 [0,0,2,2] [] rfl rfl fun K hK => ?_
    simp only [ltb,go_sem]
    refine hK _ _ rfl ?_
    simp only [mwb,reduceAdd,reduceEqDiff]
    refine ex_ret ?_
    refine ⟨.inl rfl, _, rfl, ?_⟩
    first
     | (rw [hno]; rfl)
     | (rw [hok]; subst hge; unfold verN; rw [← ht]; rfl)
  ·have h1 : t.size = 0 := size_eq0 (e := ⟨#[]⟩) rfl (by rw [hb2_6]; rfl)
   refine runX_cut 8 fun K1 hK1 => ?_
   simp only [ltb,go_sem,reduceLT,reduceEqDiff]
   refine hK1 _ ?_
   refine runX_cut 8 fun K1 hK1 => ?_
   simp only [ltb,go_sem,reduceLT,reduceEqDiff,reduceCtorEq]
   refine hK1 _ ?_
   simp only [ltb,go_sem,reduceLT,reduceEqDiff]
   refine hK _ _ rfl ?_
   simp only [mwb,reduceAdd,reduceEqDiff]
   refine ex_cond rfl ?_
   have hno : verOk s = false := by rw [hvo]; simp_all [verT] <;> (intros; omega)
   refine ex_region_w tt_ok 53 [0,0,2,2] [] rfl rfl fun K hK => ?_
   simp only [ltb,go_sem]
   refine hK _ _ rfl ?_
   simp only [mwb,reduceAdd,reduceEqDiff]
   refine ex_ret ?_
   refine ⟨.inl rfl, _, rfl, ?_⟩
   first
    | (rw [hno]; rfl)
    | (rw [hok]; subst hge; unfold verN; rw [← ht]; rfl)
 ·refine runX_cut 8 fun K1 hK1 => ?_
  simp only [ltb,go_sem,reduceLT,reduceEqDiff]
  refine hK1 _ ?_
  refine runX_cut 8 fun K1 hK1 => ?_
  simp only [ltb,go_sem,reduceLT,reduceEqDiff,reduceCtorEq]
  refine hK1 _ ?_
  simp only [ltb,go_sem,reduceLT,reduceEqDiff]
  refine hK _ _ rfl ?_
  simp only [mwb,reduceAdd,reduceEqDiff]
  refine ex_cond rfl ?_
  have hno : verOk s = false := by rw [hvo]; simp_all [verT] <;> (intros; omega)
  refine ex_region_w tt_ok 53 [0,0,2,2] [] rfl rfl fun K hK => ?_
  simp only [ltb,go_sem]
  refine hK _ _ rfl ?_
  simp only [mwb,reduceAdd,reduceEqDiff]
  refine ex_ret ?_
  refine ⟨.inl rfl, _, rfl, ?_⟩
  first
   | (rw [hno]; rfl)
   | (rw [hok]; subst hge; unfold verN; rw [← ht]; rfl)
end Go.Proofs.YtnfeacnbgbggfaaGreatDoor
end

section
namespace Go.Proofs.YtnfeacnbgbggfaaGreatDoor
open Go.Eng
open Nat (reduceAdd reduceLT reduceLeDiff reduceMul reduceEqDiff reduceSub)
variable [Glob]
set_option maxHeartbeats 4000000
set_option maxRecDepth 100000
attribute [local irreducible] runM stepM valD stepOp stepD callF callS
def lastP (s : ByteArray) : ByteArray := (pieces s).getLast?.getD ⟨#[]⟩
def majOk (s : ByteArray) : Bool := verOk (lastP s) && decide (s.size ≤ 64) && decide (2 ≤ (pieces s).length) && (pieces s).all segB
def majN (s : ByteArray) : Int := if majOk s = true then verN (lastP s) else 0
def majE (s : ByteArray) : Int := if majOk s = true then 0 else 4
theorem pieces_le (s : ByteArray) : (pieces s).length ≤ s.size + 1 := by
 rw [pieces_length]
 have := Lib.countB_le ⟨#[47]⟩ (by decide) s.size s (Nat.le_refl _)
 omega
theorem lastP_at {s z : ByteArray} (h : (pieces s)[(pieces s).length - 1]? = some z) : lastP s = z := by
 unfold lastP
 rw [List.getLast?_eq_getElem?, h]; rfl
theorem all_of {α : Type} {q : α → Bool} {l : List α} (h : ∀ j < l.length, ∀ x, l[j]? = some x → q x = true) : l.all q = true := by
 rw [List.all_eq_true]
 intro x hx
 obtain ⟨j, hj⟩ := List.mem_iff_getElem?.1 hx
 exact h j (List.getElem?_eq_some_iff.1 hj).1 x hj
theorem all_no {α : Type} {q : α → Bool} {l : List α} {i : Nat} {x : α} (h : l[i]? = some x) (hq : q x = false) : l.all q = false := by
 cases ha : l.all q with
 | false => rfl
 | true => have := List.all_eq_true.1 ha x (List.mem_of_getElem? h); rw [hq] at this; cases this
theorem slash_of {s : ByteArray} (h : majOk s = true) : 0 ≤ Lib.lastIndexByte s 47 ∧ Lib.lastIndexByte s 47 ≤ s.size := by
 unfold majOk at h
 simp only [Bool.and_eq_true,decide_eq_true_eq] at h
 obtain ⟨⟨-, h2⟩, -⟩ := h
 rw [pieces_length] at h2
 have hc : Lib.countB s ⟨#[47]⟩ = s.data.toList.count 47 := by
  unfold Lib.countB
  exact Lib.count_one 47 s.data.toList
 have hm : (47 : UInt8) ∈ s.data.toList := List.count_pos_iff.1 (by omega)
 rcases Lib.lastIndexByte_spec s 47 with ⟨-, hno⟩ | ⟨i, hi, he, -⟩
 ·exfalso
  obtain ⟨j, hj⟩ := List.mem_iff_getElem?.1 hm
  have hjl : j < s.size := by have := (List.getElem?_eq_some_iff.1 hj).1; simpa using this
  refine hno j hjl ?_
  have h3 : s.data[j]? = some 47 := by simpa using hj
  rw [getElem!_pos s.data j (by simpa using hjl)]
  have := (Array.getElem?_eq_some_iff.1 h3).2
  rw [this]; rfl
 ·rw [he]; omega
theorem major_ok (hG : Glob.g = some 0) (s : ByteArray) (hs : s.size ≤ 1048576) : ∃ r_, (fun w => w = .tup [num (majN s), num (majE s)]) r_ ∧ FnOk Tryz.prog 101 [str s] r_ := by
 refine fn_ex tt_ok (fn := Tryz.f101) Tryz.func101 rfl Tryz.call101 ?_
 simp only [ltb,startSt,Tryz.ntmps101,List.length_cons,List.length_nil,reduceAdd,reduceSub,List.replicate_succ,List.replicate_zero]
 have hT9 : Tryz.prog.underlying 9 = some .string := by kernel_rfl
 have sl : ∀ (a : ByteArray) (ty : TypeId), liftL Tryz.prog (Builtin.len_ #[9] ty) [.sc (.string a)] = some (num a.size) := fun a ty => ev_slen (P := Tryz.prog) (tt := tt) (T := 9) a hT9 ty
 refine ex_region_w tt_ok 49 [0,0,2,2] [] rfl rfl fun K hK => ?_
 simp only [ltb,go_sem]
 refine hK _ _ rfl ?_
 simp only [mwb,reduceAdd,reduceEqDiff]
 refine ex_region_w tt_ok 49 [0,0,0,0,2,0,0,0,0,1,1] [] rfl rfl fun K hK => ?_
 refine runX_cut 2 fun K1 hK1 => ?_
 simp only [ltb,go_sem,reduceLT]
 refine callF_ex (⟨_, rfl, split_ok hG s (by omega)⟩) ?_
 rintro _ rfl
 try simp only [go_sem]
 obtain ⟨P, hP⟩ : ∃ P, P = pieces s := ⟨_, rfl⟩
 have hPl := pieces_le s
 have hP1 := pieces_length s
 rw [← hP]
 rw [← hP] at hPl hP1
 obtain ⟨z, hz⟩ : ∃ z, P[P.length - 1]? = some z := ⟨_, List.getElem?_eq_getElem (by omega)⟩
 have hlz : lastP s = z := lastP_at (by rw [← hP]; exact hz)
 have hwm : IntKind.i64.wrap ((P.length : Int) - 1) = ((P.length - 1 : Nat) : Int) := i64_c _ _ (by omega) (by omega)
 refine hK1 _ ?_
 simp only [ltb,go_sem,reduceLT,reduceEqDiff]
 refine hK _ _ rfl ?_
 simp only [mwb,reduceAdd,reduceEqDiff]
 refine ex_region_w tt_ok 49 [0,0,0,0,0,2,2,0,0,0,0,1,1,1,1,1,1,1,1,1,1] [] rfl rfl fun K hK => ?_
 refine runX_cut 7 fun K1 hK1 => ?_
 simp only [ltb]
 simp only [List.getElem?_map,hz,hwm,List.length_map,go_sem,reduceLT,reduceEqDiff]
 refine callF_ex (version_ok hG z) ?_
 rintro _ rfl
 try simp only [go_sem]
 refine hK1 _ ?_
 simp only [ltb,go_sem,reduceLT,reduceEqDiff]
 refine hK _ _ rfl ?_
 simp only [mwb,reduceAdd,reduceEqDiff]
 refine ex_seq ?_
 refine ex_region_w tt_ok 49 (rp 21 0 (rp 11 1 [2])) [(2, 23), (7, 28)] rfl rfl fun K hK => ?_
 refine runX_cut 3 fun K1 hK1 => ?_
 simp only [ltb,go_sem,reduceLT,reduceEqDiff]
 refine hK1 _ ?_
 refine runX_case 23 (by rfl) fun b hb3_2 => ?_
 cases b
 ·refine runX_cut 5 fun K1 hK1 => ?_
  simp only [ltb]
  simp only [sl,go_sem,reduceLT,reduceEqDiff,reduceCtorEq]
  refine hK1 _ ?_
  refine runX_case 28 (by rfl) fun b hb3_7 => ?_
  cases b
  ·try simp only [ltb]
   simp only [List.length_map,go_sem,reduceLT,reduceEqDiff]
   refine hK _ _ rfl ?_
   simp only [mwb,reduceAdd,reduceEqDiff]
   refine ex_if rfl (fun hc32 => ?_) (fun hc32 => ?_)
   ·have hno : majOk s = false := by unfold majOk; rw [hlz, ← hP]; simp_all <;> (intros; omega)
    refine ex_region_w tt_ok 49 [0,0,2,2] [] rfl rfl fun K hK => ?_
    simp only [ltb,go_sem]
    refine hK _ _ rfl ?_
    simp only [mwb,reduceAdd,reduceEqDiff]
    refine ex_ret ?_
    refine ⟨.inl rfl, _, rfl, ?_⟩
    first
     | (unfold majN majE; rw [hno]; rfl)
     | (unfold majN majE; rw [hok, hlz]; simp_all; done)
     | (unfold majN majE; rw [hok, hlz]; simp_all; rfl)
   ·refine ex_skip ?_
    show Go.Eng.Ex _ _ _ _ _ _
    refine ex_seq ?_
    refine ex_region_w tt_ok 49 (rp 33 0 [2,2,2]) [] rfl rfl fun K hK => ?_
    try simp only [ltb]
    simp only [List.length_map,go_sem,reduceLT]
    refine hK _ _ rfl ?_
    simp only [mwb,reduceAdd,reduceEqDiff]
    refine ex_block ?_
    refine ex_loopK [35] [num 0] 0 (false::false::true::true::false::true::(rp 26 false [true,true,true,true])) (fun vs => ((P.length : Int) - Go.Eng.intOf (vs.headD .undef)).toNat) (fun vs => ∃ i : Nat, vs = [num i] ∧ i ≤ P.length ∧ ∀ j < i, ∀ x, P[j]? = some x → segB x = true) (by omega) (by simp only [maskFr,belowV,mkb]) (by simp only [List.all_nil,List.take_nil]) (by rfl) (⟨0, rfl, Nat.zero_le _, fun j hj => absurd hj (Nat.not_lt_zero j)⟩) fun vs hI => ?_
    obtain ⟨i, rfl, hi, hall⟩ := hI
    simp only [maskFr,putAll,List.set_cons_zero,List.set_cons_succ,mkb]
    refine ex_region_w tt_ok 49 (rp 36 0 [2]) [] rfl rfl fun K hK => ?_
    simp only [ltb,go_sem,reduceLT]
    refine hK _ _ rfl ?_
    simp only [mwb,reduceAdd]
    refine ex_seq ?_
    refine ex_if rfl (fun hc36 => ?_) (fun hc36 => ?_)
    ·have hlt : i < P.length := by simpa using hc36
     have hw := i64_succ i (by omega)
     obtain ⟨x, hx⟩ : ∃ x, P[i]? = some x := ⟨_, List.getElem?_eq_getElem hlt⟩
     refine ex_skip ?_
     show Go.Eng.Ex _ _ _ _ _ _
     refine ex_seq ?_
     refine ex_block ?_
     refine ex_region_w tt_ok 49 (rp 8 0 (2::(rp 28 0 [1,1]))) [] rfl rfl fun K hK => ?_
     try simp only [ltb]
     simp only [List.getElem?_map,hx,go_sem,reduceLT,reduceEqDiff]
     refine hK _ _ rfl ?_
     simp only [mwb,reduceAdd,reduceEqDiff]
     refine ex_region_w tt_ok 49 (rp 39 0 [1,1,1,1,1,1,1,2]) [(3, 42)] rfl rfl fun K hK => ?_
     refine runX_cut 2 fun K1 hK1 => ?_
     simp only [ltb,go_sem,reduceLT]
     refine callF_ex (isName_ok hG x) ?_
     rintro _ rfl
     try simp only [go_sem]
     refine hK1 _ ?_
     refine runX_cut 2 fun K1 hK1 => ?_
     simp only [ltb,go_sem,reduceLT,reduceEqDiff]
     refine hK1 _ ?_
     refine runX_case 42 (by rfl) fun b hb8_3 => ?_
     cases b
     ·have hnm : nameB x = true := by simpa using hb8_3
      refine runX_cut 2 fun K1 hK1 => ?_
      simp only [ltb,go_sem,reduceLT,reduceEqDiff]
      refine callF_ex (all_ex 126 isSd sd_ex x (by have h := hnm; unfold nameB at h; simp only [Bool.and_eq_true,decide_eq_true_eq] at h; omega)) ?_
      rintro _ rfl
      try simp only [go_sem]
      refine hK1 _ ?_
      simp only [ltb,go_sem,reduceLT,reduceEqDiff]
      refine hK _ _ rfl ?_
      simp only [mwb,reduceAdd,reduceEqDiff]
      refine ex_if rfl (fun hc46 => ?_) (fun hc46 => ?_)
      ·have hno : majOk s = false := by
        have ha : P.all segB = false := all_no hx (by unfold segB; simp_all)
        unfold majOk; rw [← hP, ha]; simp
       refine ex_region_w tt_ok 49 [0,0,2,2] [] rfl rfl fun K hK => ?_
       simp only [ltb,go_sem]
       refine hK _ _ rfl ?_
       simp only [mwb,reduceAdd,reduceEqDiff]
       refine ex_ret ?_
       refine ⟨.inl rfl, _, rfl, ?_⟩
       first
        | (unfold majN majE; rw [hno]; rfl)
        | (unfold majN majE; rw [hok, hlz]; simp_all; done)
        | (unfold majN majE; rw [hok, hlz]; simp_all; rfl)
      ·refine ex_skip ?_
       show Go.Eng.Ex _ _ _ _ _ _
       refine ex_last_region_w tt_ok 49 (rp 35 0 (2::(rp 11 0 [2]))) [] (by kernel_rfl) rfl rfl fun K hK => ?_
       try simp only [ltb]
       simp only [hw,go_sem,reduceLT]
       refine hK _ _ rfl ?_
       simp only [mwb,reduceAdd,reduceEqDiff]
       refine ⟨[_], ?_, ?_, 0, (false::false::true::true::false::true::(rp 26 false [true,true,true,true])), by omega, by simp only [maskFr,belowV,mkb], by simp only [List.all_nil,List.take_nil], by simp only [maskFr,putAll,List.set_cons_zero,List.set_cons_succ,mkb]; rfl⟩
       ·refine ⟨i + 1, rfl, hlt, fun j hj => ?_⟩
        rcases Nat.lt_or_ge j i with h | h
        ·exact hall j h
        ·obtain rfl : j = i := by omega
         intro y hy
         rw [hx] at hy; cases hy; unfold segB; simp_all
       ·simp only [Go.Eng.intOf,List.headD_cons]; omega
     ·simp only [ltb,go_sem,reduceLT,reduceEqDiff]
      refine hK _ _ rfl ?_
      simp only [mwb,reduceAdd,reduceEqDiff]
      refine ex_cond rfl ?_
      have hno : majOk s = false := by
       have ha : P.all segB = false := all_no hx (by unfold segB; simp_all)
       unfold majOk; rw [← hP, ha]; simp
      refine ex_region_w tt_ok 49 [0,0,2,2] [] rfl rfl fun K hK => ?_
      simp only [ltb,go_sem]
      refine hK _ _ rfl ?_
      simp only [mwb,reduceAdd,reduceEqDiff]
      refine ex_ret ?_
      refine ⟨.inl rfl, _, rfl, ?_⟩
      first
       | (unfold majN majE; rw [hno]; rfl)
       | (unfold majN majE; rw [hok, hlz]; simp_all; done)
       | (unfold majN majE; rw [hok, hlz]; simp_all; rfl)
    ·have hge : ¬ i < P.length := by simpa using hc36
     have hok : majOk s = true := by
      have ha : P.all segB = true := all_of fun j hj => hall j (by omega)
      unfold majOk; rw [hlz, ← hP, ha]; simp_all <;> omega
     refine ex_exit ?_
     show Go.Eng.Ex _ _ _ _ _ _
     refine ex_region_w tt_ok 49 (0::0::2::2::(rp 44 0 [1])) [] rfl rfl fun K hK => ?_
     simp only [ltb,go_sem,reduceLT]
     refine hK _ _ rfl ?_
     simp only [mwb,reduceAdd,reduceEqDiff]
     refine ex_ret ?_
     refine ⟨.inl rfl, _, rfl, ?_⟩
     first
      | (unfold majN majE; rw [hno]; rfl)
      | (unfold majN majE; rw [hok, hlz]; simp_all; done)
      | (unfold majN majE; rw [hok, hlz]; simp_all; rfl)
  ·simp only [ltb,go_sem,reduceLT,reduceEqDiff]
   refine hK _ _ rfl ?_
   simp only [mwb,reduceAdd,reduceEqDiff]
   refine ex_cond rfl ?_
   have hno : majOk s = false := by unfold majOk; rw [hlz, ← hP]; simp_all <;> (intros; omega)
   refine ex_region_w tt_ok 49 [0,0,2,2] [] rfl rfl fun K hK => ?_
   simp only [ltb,go_sem]
   refine hK _ _ rfl ?_
   simp only [mwb,reduceAdd,reduceEqDiff]
   refine ex_ret ?_
   refine ⟨.inl rfl, _, rfl, ?_⟩
   first
    | (unfold majN majE; rw [hno]; rfl)
    | (unfold majN majE; rw [hok, hlz]; simp_all; done)
    | (unfold majN majE; rw [hok, hlz]; simp_all; rfl)
 ·refine runX_cut 8 fun K1 hK1 => ?_
  simp only [ltb,go_sem,reduceLT,reduceEqDiff]
  refine hK1 _ ?_
  simp only [ltb,go_sem,reduceLT,reduceEqDiff]
  refine hK _ _ rfl ?_
  simp only [mwb,reduceAdd,reduceEqDiff]
  refine ex_cond rfl ?_
  have hno : majOk s = false := by unfold majOk; rw [hlz, ← hP]; simp_all <;> (intros; omega)
  refine ex_region_w tt_ok 49 [0,0,2,2] [] rfl rfl fun K hK => ?_
  simp only [ltb,go_sem]
  refine hK _ _ rfl ?_
  simp only [mwb,reduceAdd,reduceEqDiff]
  refine ex_ret ?_
  refine ⟨.inl rfl, _, rfl, ?_⟩
  first
   | (unfold majN majE; rw [hno]; rfl)
   | (unfold majN majE; rw [hok, hlz]; simp_all; done)
   | (unfold majN majE; rw [hok, hlz]; simp_all; rfl)
theorem isPath_ok (hG : Glob.g = some 0) (s : ByteArray) (hs : s.size ≤ 1048576) : ∃ r_, (fun w => w = bl (majOk s)) r_ ∧ FnOk Tryz.prog 102 [str s] r_ := by
 refine fn_ex tt_ok (fn := Tryz.f102) Tryz.func102 rfl Tryz.call102 ?_
 simp only [ltb,startSt,Tryz.ntmps102,List.length_cons,List.length_nil,reduceAdd,reduceSub,List.replicate_succ,List.replicate_zero]
 refine ex_region_w tt_ok 12 [0,0,2] [] rfl rfl fun K hK => ?_
 simp only [ltb,go_sem]
 refine hK _ _ rfl ?_
 simp only [mwb,reduceAdd]
 refine ex_region_w tt_ok 12 [0,0,0,1,2,1,1,1,1,1] [] rfl rfl fun K hK => ?_
 refine runX_cut 2 fun K1 hK1 => ?_
 simp only [ltb,go_sem,reduceLT]
 refine callF_ex (major_ok hG s hs) ?_
 rintro _ rfl
 try simp only [go_sem]
 refine hK1 _ ?_
 simp only [ltb,go_sem,reduceLT,reduceEqDiff]
 refine hK _ _ rfl ?_
 simp only [mwb,reduceAdd,reduceEqDiff]
 refine ex_region_w tt_ok 12 [0,0,2,0,0,0,0,0,0,0,1,1] [] rfl rfl fun K hK => ?_
 simp only [ltb,go_sem,reduceLT,reduceEqDiff]
 refine hK _ _ rfl ?_
 simp only [mwb,reduceAdd,reduceEqDiff]
 exact ex_ret ⟨.inl rfl, _, congrArg bl (by unfold majE; by_cases h : majOk s = true <;> simp [h]), rfl⟩
theorem line_ok (hG : Glob.g = some 0) (s : ByteArray) (hs : s.size ≤ 1048576) : ∃ r_, (fun w => ∃ nm : ByteArray, w = .tup [str nm, num (majN s), num (majE s)]) r_ ∧ FnOk Tryz.prog 65 [str s] r_ := by
 refine fn_ex tt_ok (fn := Tryz.f65) Tryz.func65 rfl Tryz.call65 ?_
 simp only [ltb,startSt,Tryz.ntmps65,List.length_cons,List.length_nil,reduceAdd,reduceSub,List.replicate_succ,List.replicate_zero]
 have hT9 : Tryz.prog.underlying 9 = some .string := by kernel_rfl
 have sl : ∀ (a : ByteArray) (ty : TypeId), liftL Tryz.prog (Builtin.len_ #[9] ty) [.sc (.string a)] = some (num a.size) := fun a ty => ev_slen (P := Tryz.prog) (tt := tt) (T := 9) a hT9 ty
 refine ex_region_w tt_ok 24 [0,0,2,2,2] [] rfl rfl fun K hK => ?_
 simp only [ltb,go_sem]
 refine hK _ _ rfl ?_
 simp only [mwb,reduceAdd,reduceEqDiff]
 refine ex_region_w tt_ok 24 [0,0,0,0,0,2,2,1,1,1,1,1] [] rfl rfl fun K hK => ?_
 refine runX_cut 2 fun K1 hK1 => ?_
 simp only [ltb,go_sem,reduceLT]
 refine callF_ex (major_ok hG s hs) ?_
 rintro _ rfl
 try simp only [go_sem]
 refine hK1 _ ?_
 simp only [ltb,go_sem,reduceLT,reduceEqDiff]
 refine hK _ _ rfl ?_
 simp only [mwb,reduceAdd,reduceEqDiff]
 refine ex_seq ?_
 refine ex_region_w tt_ok 24 (rp 12 0 [1,1,1,1,1,1,2]) [(3, 15)] rfl rfl fun K hK => ?_
 refine runX_cut 2 fun K1 hK1 => ?_
 simp only [ltb,go_sem,reduceLT]
 refine callF_ex (isPath_ok hG s hs) ?_
 rintro _ rfl
 try simp only [go_sem]
 refine hK1 _ ?_
 refine runX_cut 2 fun K1 hK1 => ?_
 simp only [ltb,go_sem,reduceLT,reduceEqDiff]
 refine hK1 _ ?_
 refine runX_case 15 (by rfl) fun b hb2_3 => ?_
 cases b
 ·simp only [ltb,go_sem,reduceLT,reduceEqDiff]
  refine hK _ _ rfl ?_
  simp only [mwb,reduceAdd,reduceEqDiff]
  refine ex_if rfl (fun hc18 => ?_) (fun hc18 => ?_)
  ·have hno : majOk s = false := by simp_all [majE]
   have e1 : majN s = 0 := by unfold majN; rw [hno]; rfl
   have e2 : majE s = 4 := by unfold majE; rw [hno]; rfl
   refine ex_region_w tt_ok 24 [0,0,2,2,2] [] rfl rfl fun K hK => ?_
   simp only [ltb,go_sem]
   refine hK _ _ rfl ?_
   simp only [mwb,reduceAdd,reduceEqDiff]
   refine ex_ret ?_
   first
    | exact ⟨.inl rfl, _, ⟨⟨#[]⟩, by rw [e1, e2]; rfl⟩, rfl⟩
    | exact ⟨.inl rfl, _, ⟨_, by rw [e2]; rfl⟩, rfl⟩
  ·have hok : majOk s = true := by cases h : majOk s <;> simp_all [majE]
   obtain ⟨hx0, hx1⟩ := slash_of hok
   have hcm : lift2 Tryz.prog (fun a h => Instr.sliceAt 9 a none (some h) none) (.sc (.string s)) (.sc (.int .i64 (Lib.lastIndexByte s 47))) = some (.sc (.string (s.extract 0 (Lib.lastIndexByte s 47).toNat))) := ev_cutto (P := Tryz.prog) (tt := tt) (mem := []) (T := 9) s hT9 .i64 (Lib.lastIndexByte s 47) hx0 hx1
   have e2 : majE s = 0 := by unfold majE; rw [hok]; rfl
   refine ex_skip ?_
   show Go.Eng.Ex _ _ _ _ _ _
   refine ex_region_w tt_ok 24 (0::0::2::2::2::(rp 14 0 [1,1,1,1,1])) [] rfl rfl fun K hK => ?_
   refine runX_cut 3 fun K1 hK1 => ?_
   simp only [ltb,go_sem,reduceLT,reduceEqDiff,reduceCtorEq]
   refine callF_ex (⟨_, rfl, lastIx_ok hG s (by omega)⟩) ?_
   rintro _ rfl
   try simp only [go_sem]
   refine hK1 _ ?_
   try simp only [ltb]
   simp only [hcm,go_sem,reduceLT,reduceEqDiff]
   refine hK _ _ rfl ?_
   simp only [mwb,reduceAdd,reduceEqDiff]
   refine ex_ret ?_
   first
    | exact ⟨.inl rfl, _, ⟨⟨#[]⟩, by rw [e1, e2]; rfl⟩, rfl⟩
    | exact ⟨.inl rfl, _, ⟨_, by rw [e2]; rfl⟩, rfl⟩
 ·simp only [ltb,go_sem,reduceLT,reduceEqDiff]
  refine hK _ _ rfl ?_
  simp only [mwb,reduceAdd,reduceEqDiff]
  refine ex_cond rfl ?_
  have hno : majOk s = false := by simp_all []
  have e1 : majN s = 0 := by unfold majN; rw [hno]; rfl
  have e2 : majE s = 4 := by unfold majE; rw [hno]; rfl
  refine ex_region_w tt_ok 24 [0,0,2,2,2] [] rfl rfl fun K hK => ?_
  simp only [ltb,go_sem]
  refine hK _ _ rfl ?_
  simp only [mwb,reduceAdd,reduceEqDiff]
  refine ex_ret ?_
  first
   | exact ⟨.inl rfl, _, ⟨⟨#[]⟩, by rw [e1, e2]; rfl⟩, rfl⟩
   | exact ⟨.inl rfl, _, ⟨_, by rw [e2]; rfl⟩, rfl⟩
end Go.Proofs.YtnfeacnbgbggfaaGreatDoor
end
