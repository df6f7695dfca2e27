/-
  CONTRACTS: the library's contracts on strings and sorting, laid at this program (the layings' tables by the kit's lay-plain).
  CONTRACTS of the library's, taken over: looking for strings, splitting, sorting spans.
  CONTRACTS: names, versions of paths.
  CONTRACTS: paths.
-/
import Derived.Test.YtnfeacnbgbggfaaGreatDoorO2
import Derived.Shelf.Small.Bits
import Derived.Shelf.Strconv.Itoa0
import Derived.Shelf.Small.Wraps
import Derived.Shelf.Strings.Search3
import Derived.Shelf.Sort.Plain
import Derived.Shelf.Strings.LastIndex
import Derived.Shelf.Strings.Split
import Derived.Shelf.SlSortCmp.WholeK
import Derived.Ground.SlsfProg
import Derived.Test.YtnfeacnbgbggfaaGreatDoorProg
set_option linter.all false
section
namespace Go.Proofs.YtnfeacnbgbggfaaGreatDoor
open Go.RowKit Go.Lib Go.Sort Go.Shelf
def zu : Go.Shelf.Ren := ⟨fun | 103 => 150 | 210 => 175 | 206 => 189 | n => n, fun | 9 => 9 | 4 => 4 | 24 => 184 | 3 => 3 | n => n, fun | n => n⟩
theorem K3 : Go.Proofs.Lays.n103 Tryz.prog zu := {
 mixed := by kernel_rfl
 f103 := Tryz.func150.trans (congrArg some (by kernel_rfl))
 f206 := Tryz.func189.trans (congrArg some (by kernel_rfl))
 f210 := Tryz.func175.trans (congrArg some (by kernel_rfl))
 t3 := Tryz.underlying3
 a3 := Tryz.isAgg3
 z3 := Tryz.sizeOf3
 v3 := Tryz.zeroValue3
 t4 := Tryz.underlying4
 a4 := Tryz.isAgg4
 z4 := Tryz.sizeOf4
 v4 := Tryz.zeroValue4
 t9 := Tryz.underlying9
 a9 := Tryz.isAgg9
 z9 := Tryz.sizeOf9
 v9 := Tryz.zeroValue9
 t24 := Tryz.underlying184
 a24 := Tryz.isAgg184
 z24 := Tryz.sizeOf184
 v24 := Tryz.zeroValue184 }
theorem strings_CutPrefix (s p : ByteArray) (w : World) :
  Calls Tryz.prog 150 #[.string s, .string p] w fun e w' => e = .returned (.tuple #[.string ⟨(Lib.trimPrefix s.data.toList p.data.toList).toArray⟩, .bool (Lib.hasPrefix s.data.toList p.data.toList)]) ∧ w' = w := Any.strings_CutPrefix K3 s p w
def zv : Go.Shelf.Ren := ⟨fun | 144 => 177 | 143 => 174 | 219 => 188 | 217 => 195 | 225 => 196 | 224 => 197 | 267 => 198 | 266 => 200 | 314 => 201 | n => n, fun | 9 => 9 | 4 => 4 | 3 => 3 | 5 => 5 | 46 => 156 | 146 => 186 | 51 => 180 | n => n, fun | 1 => 0 | n => n⟩
theorem K4 : Go.Proofs.Lays.n144 Tryz.prog zv := {
 mixed := by kernel_rfl
 f143 := Tryz.func174.trans (congrArg some (by kernel_rfl))
 f144 := Tryz.func177.trans (congrArg some (by kernel_rfl))
 f217 := Tryz.func195.trans (congrArg some (by kernel_rfl))
 f219 := Tryz.func188.trans (congrArg some (by kernel_rfl))
 f224 := Tryz.func197.trans (congrArg some (by kernel_rfl))
 f225 := Tryz.func196.trans (congrArg some (by kernel_rfl))
 f266 := Tryz.func200.trans (congrArg some (by kernel_rfl))
 f267 := Tryz.func198.trans (congrArg some (by kernel_rfl))
 f314 := Tryz.func201.trans (congrArg some (by kernel_rfl))
 t3 := Tryz.underlying3
 a3 := Tryz.isAgg3
 z3 := Tryz.sizeOf3
 v3 := Tryz.zeroValue3
 t4 := Tryz.underlying4
 a4 := Tryz.isAgg4
 z4 := Tryz.sizeOf4
 v4 := Tryz.zeroValue4
 t5 := Tryz.underlying5
 a5 := Tryz.isAgg5
 z5 := Tryz.sizeOf5
 v5 := Tryz.zeroValue5
 t9 := Tryz.underlying9
 a9 := Tryz.isAgg9
 z9 := Tryz.sizeOf9
 v9 := Tryz.zeroValue9
 t46 := Tryz.underlying156
 a46 := Tryz.isAgg156
 z46 := Tryz.sizeOf156
 v46 := Tryz.zeroValue156
 t51 := Tryz.underlying180
 a51 := Tryz.isAgg180
 z51 := Tryz.sizeOf180
 v51 := Tryz.zeroValue180
 t146 := Tryz.underlying186
 a146 := Tryz.isAgg186
 z146 := Tryz.sizeOf186
 v146 := Tryz.zeroValue186
 g1 := by kernel_rfl }
theorem strings_Contains (s sub : ByteArray) (m : Int) (w : World) (hs : s.size < 4294967281) (hm : w.cell? ⟨0, 0, none⟩ = some (.int .i64 m)) :
  Calls Tryz.prog 177 #[.string s, .string sub] w fun e w' => e = .returned (.bool (Lib.contains s.data.toList sub.data.toList)) ∧ w' = w := Any.strings_Contains K4 s sub m w hs hm
def zw : Go.Shelf.Ren := ⟨fun | 148 => 103 | 222 => 129 | 223 => 130 | 269 => 153 | n => n, fun | 9 => 9 | 3 => 3 | 4 => 4 | 5 => 5 | 146 => 186 | 51 => 180 | 46 => 156 | n => n, fun | n => n⟩
theorem K5 : Go.Proofs.Lays.n148 Tryz.prog zw := {
 mixed := by kernel_rfl
 f148 := Tryz.func103.trans (congrArg some (by kernel_rfl))
 f222 := Tryz.func129.trans (congrArg some (by kernel_rfl))
 f223 := Tryz.func130.trans (congrArg some (by kernel_rfl))
 f269 := Tryz.func153.trans (congrArg some (by kernel_rfl))
 t3 := Tryz.underlying3
 a3 := Tryz.isAgg3
 z3 := Tryz.sizeOf3
 v3 := Tryz.zeroValue3
 t4 := Tryz.underlying4
 a4 := Tryz.isAgg4
 z4 := Tryz.sizeOf4
 v4 := Tryz.zeroValue4
 t5 := Tryz.underlying5
 a5 := Tryz.isAgg5
 z5 := Tryz.sizeOf5
 v5 := Tryz.zeroValue5
 t9 := Tryz.underlying9
 a9 := Tryz.isAgg9
 z9 := Tryz.sizeOf9
 v9 := Tryz.zeroValue9
 t46 := Tryz.underlying156
 a46 := Tryz.isAgg156
 z46 := Tryz.sizeOf156
 v46 := Tryz.zeroValue156
 t51 := Tryz.underlying180
 a51 := Tryz.isAgg180
 z51 := Tryz.sizeOf180
 v51 := Tryz.zeroValue180
 t146 := Tryz.underlying186
 a146 := Tryz.isAgg186
 z146 := Tryz.sizeOf186
 v146 := Tryz.zeroValue186 }
theorem strings_LastIndex_one (s sub : ByteArray) (h1 : sub.size = 1) (hs : s.size < 4611686018427387904) (w : World) :
  Calls Tryz.prog 103 #[.string s, .string sub] w fun e w' => e = .returned (.int .i64 (Lib.lastIndexByte s ((sub[0]'(by omega)).toNat : Int))) ∧ w' = w := Any.strings_LastIndex_one K5 s sub h1 hs w
def zx : Go.Shelf.Ren := ⟨fun | 146 => 122 | 221 => 149 | 268 => 172 | 138 => 173 | 143 => 174 | 195 => 185 | 197 => 186 | 218 => 187 | 219 => 188 | 260 => 194 | 217 => 195 | 225 => 196 | 224 => 197 | 267 => 198 | 266 => 200 | 314 => 201 | n => n, fun | 9 => 9 | 31 => 71 | 3 => 3 | 4 => 4 | 0 => 0 | 105 => 206 | 21 => 21 | 5 => 5 | 46 => 156 | 119 => 211 | 139 => 214 | 138 => 213 | 146 => 186 | 51 => 180 | n => n, fun | 1 => 0 | 3 => 1 | 4 => 2 | n => n⟩
theorem K6 : Go.Proofs.Lays.n146 Tryz.prog zx := {
 mixed := by kernel_rfl
 f138 := Tryz.func173.trans (congrArg some (by kernel_rfl))
 f143 := Tryz.func174.trans (congrArg some (by kernel_rfl))
 f146 := Tryz.func122.trans (congrArg some (by kernel_rfl))
 f195 := Tryz.func185.trans (congrArg some (by kernel_rfl))
 f197 := Tryz.func186.trans (congrArg some (by kernel_rfl))
 f217 := Tryz.func195.trans (congrArg some (by kernel_rfl))
 f218 := Tryz.func187.trans (congrArg some (by kernel_rfl))
 f219 := Tryz.func188.trans (congrArg some (by kernel_rfl))
 f221 := Tryz.func149.trans (congrArg some (by kernel_rfl))
 f224 := Tryz.func197.trans (congrArg some (by kernel_rfl))
 f225 := Tryz.func196.trans (congrArg some (by kernel_rfl))
 f260 := Tryz.func194.trans (congrArg some (by kernel_rfl))
 f266 := Tryz.func200.trans (congrArg some (by kernel_rfl))
 f267 := Tryz.func198.trans (congrArg some (by kernel_rfl))
 f268 := Tryz.func172.trans (congrArg some (by kernel_rfl))
 f314 := Tryz.func201.trans (congrArg some (by kernel_rfl))
 t0 := Tryz.underlying0
 a0 := Tryz.isAgg0
 z0 := Tryz.sizeOf0
 v0 := Tryz.zeroValue0
 t3 := Tryz.underlying3
 a3 := Tryz.isAgg3
 z3 := Tryz.sizeOf3
 v3 := Tryz.zeroValue3
 t4 := Tryz.underlying4
 a4 := Tryz.isAgg4
 z4 := Tryz.sizeOf4
 v4 := Tryz.zeroValue4
 t5 := Tryz.underlying5
 a5 := Tryz.isAgg5
 z5 := Tryz.sizeOf5
 v5 := Tryz.zeroValue5
 t9 := Tryz.underlying9
 a9 := Tryz.isAgg9
 z9 := Tryz.sizeOf9
 v9 := Tryz.zeroValue9
 t21 := Tryz.underlying21
 a21 := Tryz.isAgg21
 z21 := Tryz.sizeOf21
 v21 := Tryz.zeroValue21
 t31 := Tryz.underlying71
 a31 := Tryz.isAgg71
 z31 := Tryz.sizeOf71
 v31 := Tryz.zeroValue71
 t46 := Tryz.underlying156
 a46 := Tryz.isAgg156
 z46 := Tryz.sizeOf156
 v46 := Tryz.zeroValue156
 t51 := Tryz.underlying180
 a51 := Tryz.isAgg180
 z51 := Tryz.sizeOf180
 v51 := Tryz.zeroValue180
 t105 := Tryz.underlying206
 a105 := Tryz.isAgg206
 z105 := Tryz.sizeOf206
 v105 := Tryz.zeroValue206
 t119 := Tryz.underlying211
 a119 := Tryz.isAgg211
 z119 := Tryz.sizeOf211
 t138 := Tryz.underlying213
 a138 := Tryz.isAgg213
 z138 := Tryz.sizeOf213
 v138 := Tryz.zeroValue213
 t139 := Tryz.underlying214
 a139 := Tryz.isAgg214
 z139 := Tryz.sizeOf214
 v139 := Tryz.zeroValue214
 t146 := Tryz.underlying186
 a146 := Tryz.isAgg186
 z146 := Tryz.sizeOf186
 v146 := Tryz.zeroValue186
 g1 := by kernel_rfl
 g3 := by kernel_rfl
 g4 := by kernel_rfl }
theorem strings_Split (s sep : ByteArray) (m : Int) (w : World) (hs : s.size < 4294967281) (hm : w.cell? ⟨0, 0, none⟩ = some (.int .i64 m)) (h1 : 1 ≤ sep.size) :
  Calls Tryz.prog 122 #[.string s, .string sep] w fun e w' =>
   e = .returned (.slice (some ⟨w.heap.size, 0, none⟩) (Lib.countB s sep + 1) (Lib.countB s sep + 1)) ∧ w' = w.alloc (.cells ((Lib.splitB sep 0 (Lib.countB s sep) s).map Value.string).toArray 9) := Any.strings_Split K6 (by kernel_rfl) s sep m w hs hm h1
def zy : Go.Shelf.Ren := ⟨fun | 14 => 148 | 20 => 164 | 21 => 165 | 22 => 166 | 23 => 167 | 24 => 168 | 25 => 169 | 26 => 170 | 27 => 171 | 46 => 182 | 47 => 160 | 48 => 161 | 49 => 183 | 50 => 184 | 15 => 117 | 57 => 193 | 28 => 146 | 29 => 147 | n => n, fun | 24 => 78 | 22 => 48 | 3 => 3 | 25 => 158 | 4 => 4 | 0 => 0 | 46 => 173 | 45 => 172 | 50 => 162 | 66 => 189 | 39 => 156 | 55 => 136 | 70 => 193 | 76 => 201 | 77 => 202 | 53 => 180 | 5 => 5 | 9 => 9 | n => n, fun | n => n⟩
theorem K7 : Go.Proofs.SlLaysF0.n14 Tryz.prog zy := {
 mixed := by kernel_rfl
 f14 := ⟨Tryz.f148.name, by decide, Tryz.func148.trans (congrArg some (by kernel_rfl))⟩
 f15 := Tryz.func117.trans (congrArg some (by kernel_rfl))
 f20 := ⟨Tryz.f164.name, by decide, Tryz.func164.trans (congrArg some (by kernel_rfl))⟩
 f21 := ⟨Tryz.f165.name, by decide, Tryz.func165.trans (congrArg some (by kernel_rfl))⟩
 f22 := ⟨Tryz.f166.name, by decide, Tryz.func166.trans (congrArg some (by kernel_rfl))⟩
 f23 := ⟨Tryz.f167.name, by decide, Tryz.func167.trans (congrArg some (by kernel_rfl))⟩
 f24 := ⟨Tryz.f168.name, by decide, Tryz.func168.trans (congrArg some (by kernel_rfl))⟩
 f25 := ⟨Tryz.f169.name, by decide, Tryz.func169.trans (congrArg some (by kernel_rfl))⟩
 f26 := ⟨Tryz.f170.name, by decide, Tryz.func170.trans (congrArg some (by kernel_rfl))⟩
 f27 := ⟨Tryz.f171.name, by decide, Tryz.func171.trans (congrArg some (by kernel_rfl))⟩
 f28 := Tryz.func146.trans (congrArg some (by kernel_rfl))
 f29 := Tryz.func147.trans (congrArg some (by kernel_rfl))
 f46 := ⟨Tryz.f182.name, by decide, Tryz.func182.trans (congrArg some (by kernel_rfl))⟩
 f47 := Tryz.func160.trans (congrArg some (by kernel_rfl))
 f48 := Tryz.func161.trans (congrArg some (by kernel_rfl))
 f49 := ⟨Tryz.f183.name, by decide, Tryz.func183.trans (congrArg some (by kernel_rfl))⟩
 f50 := ⟨Tryz.f184.name, by decide, Tryz.func184.trans (congrArg some (by kernel_rfl))⟩
 f57 := ⟨Tryz.f193.name, by decide, Tryz.func193.trans (congrArg some (by kernel_rfl))⟩
 t0 := Tryz.underlying0
 a0 := Tryz.isAgg0
 z0 := Tryz.sizeOf0
 v0 := Tryz.zeroValue0
 t3 := Tryz.underlying3
 a3 := Tryz.isAgg3
 z3 := Tryz.sizeOf3
 v3 := Tryz.zeroValue3
 t4 := Tryz.underlying4
 a4 := Tryz.isAgg4
 z4 := Tryz.sizeOf4
 v4 := Tryz.zeroValue4
 t5 := Tryz.underlying5
 a5 := Tryz.isAgg5
 z5 := Tryz.sizeOf5
 v5 := Tryz.zeroValue5
 t9 := Tryz.underlying9
 a9 := Tryz.isAgg9
 z9 := Tryz.sizeOf9
 v9 := Tryz.zeroValue9
 t22 := Tryz.underlying48
 a22 := Tryz.isAgg48
 z22 := Tryz.sizeOf48
 v22 := Tryz.zeroValue48
 t25 := Tryz.underlying158
 a25 := Tryz.isAgg158
 z25 := Tryz.sizeOf158
 v25 := Tryz.zeroValue158
 t39 := Tryz.underlying156
 a39 := Tryz.isAgg156
 z39 := Tryz.sizeOf156
 v39 := Tryz.zeroValue156
 t45 := Tryz.underlying172
 a45 := Tryz.isAgg172
 z45 := Tryz.sizeOf172
 v45 := Tryz.zeroValue172
 t46 := Tryz.underlying173
 a46 := Tryz.isAgg173
 z46 := Tryz.sizeOf173
 v46 := Tryz.zeroValue173
 t50 := Tryz.underlying162
 a50 := Tryz.isAgg162
 z50 := Tryz.sizeOf162
 v50 := Tryz.zeroValue162
 t53 := Tryz.underlying180
 a53 := Tryz.isAgg180
 z53 := Tryz.sizeOf180
 v53 := Tryz.zeroValue180
 t55 := Tryz.underlying136
 a55 := Tryz.isAgg136
 z55 := Tryz.sizeOf136
 v55 := Tryz.zeroValue136
 t66 := Tryz.underlying189
 a66 := Tryz.isAgg189
 z66 := Tryz.sizeOf189
 v66 := Tryz.zeroValue189
 t70 := Tryz.underlying193
 a70 := Tryz.isAgg193
 z70 := Tryz.sizeOf193
 v70 := Tryz.zeroValue193
 t76 := Tryz.underlying201
 a76 := Tryz.isAgg201
 z76 := Tryz.sizeOf201
 v76 := Tryz.zeroValue201
 t77 := Tryz.underlying202
 a77 := Tryz.isAgg202
 z77 := Tryz.sizeOf202
 v77 := Tryz.zeroValue202 }
def zH : Go.Shelf.Ren := ⟨fun | 125 => 117 | 128 => 146 | 129 => 147 | n => n, fun | 46 => 156 | 3 => 3 | 51 => 180 | 53 => 136 | 4 => 4 | 5 => 5 | 9 => 9 | n => n, fun | n => n⟩
theorem K8 : Go.Proofs.Lays.n125 Tryz.prog zH := {
 mixed := by kernel_rfl
 f125 := Tryz.func117.trans (congrArg some (by kernel_rfl))
 f128 := Tryz.func146.trans (congrArg some (by kernel_rfl))
 f129 := Tryz.func147.trans (congrArg some (by kernel_rfl))
 t3 := Tryz.underlying3
 a3 := Tryz.isAgg3
 z3 := Tryz.sizeOf3
 v3 := Tryz.zeroValue3
 t4 := Tryz.underlying4
 a4 := Tryz.isAgg4
 z4 := Tryz.sizeOf4
 v4 := Tryz.zeroValue4
 t5 := Tryz.underlying5
 a5 := Tryz.isAgg5
 z5 := Tryz.sizeOf5
 v5 := Tryz.zeroValue5
 t9 := Tryz.underlying9
 a9 := Tryz.isAgg9
 z9 := Tryz.sizeOf9
 v9 := Tryz.zeroValue9
 t46 := Tryz.underlying156
 a46 := Tryz.isAgg156
 z46 := Tryz.sizeOf156
 v46 := Tryz.zeroValue156
 t51 := Tryz.underlying180
 a51 := Tryz.isAgg180
 z51 := Tryz.sizeOf180
 v51 := Tryz.zeroValue180
 t53 := Tryz.underlying136
 a53 := Tryz.isAgg136
 z53 := Tryz.sizeOf136
 v53 := Tryz.zeroValue136 }
theorem bits_Len (x : Int) (w : World) (h0 : 0 ≤ x) (h1 : x ≤ 18446744073709551615) :
  Calls Tryz.prog 117 #[.int .u64 x] w fun e w' => e = .returned (.int .i64 (Lib.bitLen x.toNat)) ∧ w' = w := Any.bits_Len K8 x w h0 h1
end Go.Proofs.YtnfeacnbgbggfaaGreatDoor
end

section
namespace Go.Eng
variable [aE]
open Go.RowKit (Below)
theorem aP.of_same {P : Program} {f : FuncId} {l : List Value} {v : Value} (hc : ∀ (xs : Array Value) (w : World), (callFunc f xs).run P w = .ok (.enter f xs) w) (hG : aE.g = some 0)
  (h : ∀ w : World, w.cell? ⟨0, 0, none⟩ = some (.int .i64 aE.n) → Calls P f l.toArray w fun e w' => e = .returned v ∧ w' = w) : aP P f (l.map V.sc) (dj v) := by
 refine ⟨hc, fun F hg w xs hF hx => ?_⟩
 have na : xs = l.toArray := by
  rw [← Array.toArray_toList (xs := xs)]
  congr 1
  refine List.ext_getElem? fun i => ?_
  cases hi : l[i]? with
  | none =>
   have h1 := hx.1
   rw [List.length_map] at h1
   rw [List.getElem?_eq_none (by have := List.getElem?_eq_none_iff.1 hi; omega)]
  | some a =>
   obtain ⟨y, hy, hr⟩ := hx.get (i := i) (v := .sc a) (by rw [List.getElem?_map, hi]; rfl)
   rw [hy, bN hr]
 rw [na]
 refine (h w (hF _ _ (hg.n 0 hG))).mono ?_
 rintro e w' ⟨rfl, rfl⟩
 exact ⟨F, _, rfl, fun _ _ h => h, hF, fun _ _ h => .inl h, ⟨hg, fE _ _⟩, Below.refl _ _⟩
end Go.Eng
namespace Go.Proofs.YtnfeacnbgbggfaaGreatDoor
open Go.Eng
open Go.RowKit (Below)
open Go.Sort (SWO grow flatK HoldsK PermIn SortedIn)
variable [aE]
theorem zI (hG : aE.g = some 0) (s t : ByteArray) (hs : s.size < 4294967281) : aP Tryz.prog 177 [str s, str t] (bl (Lib.contains s.data.toList t.data.toList)) :=
 aP.of_same (l := [.string s, .string t]) Tryz.call177 hG fun w hw => strings_Contains s t aE.n w hs hw
theorem Fa (hG : aE.g = some 0) (s t : ByteArray) : aP Tryz.prog 150 [str s, str t] (.bt [str ⟨(Lib.trimPrefix s.data.toList t.data.toList).toArray⟩, bl (Lib.hasPrefix s.data.toList t.data.toList)]) :=
 aP.of_same (l := [.string s, .string t]) Tryz.call150 hG fun w _ => strings_CutPrefix s t w
theorem Fb (hG : aE.g = some 0) (s : ByteArray) (hs : s.size < 4611686018427387904) : aP Tryz.prog 103 [str s, str ⟨#[47]⟩] (num (Lib.lastIndexByte s 47)) :=
 aP.of_same (l := [.string s, .string ⟨#[47]⟩]) Tryz.call103 hG fun w _ => strings_LastIndex_one s ⟨#[47]⟩ rfl hs w
def pieces (s : ByteArray) : List ByteArray := Lib.splitB ⟨#[47]⟩ 0 (Lib.countB s ⟨#[47]⟩) s
theorem dX (s : ByteArray) : (pieces s).length = Lib.countB s ⟨#[47]⟩ + 1 := Lib.splitB_all ⟨#[47]⟩ (by decide) 0 _ s rfl
theorem HP (hG : aE.g = some 0) (s : ByteArray) (hs : s.size < 4294967281) : aP Tryz.prog 122 [str s, str ⟨#[47]⟩] (.slice ((pieces s).map str)) := by
 refine ⟨Tryz.call122, fun F hg w xs hF hx => ?_⟩
 obtain ⟨x, ys, na, hr, vC⟩ := hx.of_cons
 obtain ⟨y, zs, Ws, Eo, hz⟩ := vC.of_cons
 have J1 := hz.of_nil
 subst J1
 have h1 := bN hr
 have h2 := bN Eo
 subst h1; subst h2; subst Ws
 obtain rfl : xs = #[.string s, .string ⟨#[47]⟩] := by rw [← Array.toArray_toList (xs := xs), na]
 refine (strings_Split s ⟨#[47]⟩ aE.n w hs (hF _ _ (hg.n 0 hG)) (by decide)).mono ?_
 rintro e w' ⟨rfl, rfl⟩
 have hold : ∀ ad y, F ad = some y → ad.block ≠ w.heap.size := fun ad y h e => by
  have := World.block_lt_of_cell? w ad (hF ad y h); omega
 have iD : ∀ o, (w.alloc (.cells ((pieces s).map Value.string).toArray 9)).cell? ⟨w.heap.size, o, none⟩ = ((pieces s).map Value.string)[o]? := fun o => by
  unfold World.cell? World.alloc
  simp
 let F' : Addr → Option Value := fun ad => if ad.block = w.heap.size then (w.alloc (.cells ((pieces s).map Value.string).toArray 9)).cell? ad else F ad
 have XL : ∀ ad y, F ad = some y → F' ad = some y := fun ad y h => by
  show (if _ then _ else _) = _
  rw [if_neg (hold ad y h)]; exact h
 have J6 : Gl F' := hg.mono XL
 refine ⟨F', _, rfl, XL, fun ad y h => ?_, fun ad y h => ?_, ⟨J6, ?_⟩, (Below.refl _ _).alloc (Nat.le_refl _) _⟩
 ·by_cases hb : ad.block = w.heap.size
  ·rw [show F' ad = _ from if_pos hb] at h; exact h
  ·rw [show F' ad = _ from if_neg hb] at h
   have h3 := hF ad y h
   rw [← h3]
   have aF := World.block_lt_of_cell? w ad h3
   unfold World.cell?
   rw [Below.heap_alloc w _ _ aF]
 ·by_cases hb : ad.block = w.heap.size
  ·exact .inr (by omega)
  ·rw [show F' ad = _ from if_neg hb] at h; exact .inl h
 ·have hl : ((pieces s).map str).length = Lib.countB s ⟨#[47]⟩ + 1 := by rw [List.length_map, dX]
  have := aT.slice ⟨F', fun _ _ => none, J6⟩ ((pieces s).map str) (some ⟨w.heap.size, 0, none⟩) (Lib.countB s ⟨#[47]⟩ + 1) 1 ⟨w.heap.size, 0, none⟩ (fun i _ => (((pieces s).map Value.string)[i]?).getD undef) (fun _ => rfl) (by rw [hl]; exact Nat.le_refl _)
   (fun i row hi => by rw [List.getElem?_map, Option.map_eq_some_iff] at hi; obtain ⟨u, -, rfl⟩ := hi; rfl)
   (fun i row j c hi hj => by
    rw [List.getElem?_map, Option.map_eq_some_iff] at hi
    obtain ⟨u, hu, rfl⟩ := hi
    match j, hj with
    | 0, hj =>
     show F' _ = _
     rw [add_lit, show F' _ = _ from if_pos rfl, iD]
     simp [hu]
    | j + 1, hj => simp [V.cells] at hj)
   (fun i row j c hi hj => by
    rw [List.getElem?_map, Option.map_eq_some_iff] at hi
    obtain ⟨u, hu, rfl⟩ := hi
    simp [hu, Value.oneCell'])
   (fun i row j c hi hj => by
    rw [List.getElem?_map, Option.map_eq_some_iff] at hi
    obtain ⟨u, hu, rfl⟩ := hi
    match j, hj with
    | 0, hj =>
     cases hj
     simp only [List.getElem?_map,hu,Option.map_some,Option.getD_some]
     exact .sc _ _
    | j + 1, hj => simp [V.cells] at hj)
  rw [hl] at this
  exact this
end Go.Proofs.YtnfeacnbgbggfaaGreatDoor
end

section
namespace Go.Proofs.YtnfeacnbgbggfaaGreatDoor
open Go.Eng
open Nat renaming reduceAdd → zA, reduceLT → zB, reduceLeDiff → zC, reduceMul → zD, reduceEqDiff → zE, reduceSub → zF
variable [aE]
set_option maxHeartbeats 4000000
set_option maxRecDepth 100000
def ng : ByteArray := ⟨#[32,97,110,100,32,97,110,121,32,97,115,32,98,111,111,108,32,100,101,112,114,101,99,97,116,101,100,32,101,108,115,101,32,101,120,112,111,114,116,32,102,97,108,115,101,32,102,110,32,102,111,108,100,32,102,114,111,109,32,105,102,32,105,109,112,111,114,116,32,105,110,32,105,110,116,32,108,101,110,103,116,104,32,108,101,116,32,108,105,115,116,32,109,97,116,99,104,32,109,111,100,117,108,101,32,110,111,110,101,32,110,111,116,32,111,114,32,116,101,120,116,32,116,104,101,110,32,116,114,117,101,32,116,121,112,101,32,117,115,101,32]⟩
def Ux (s : ByteArray) : Bool := Lib.contains ng.data.toList (⟨#[32]⟩ ++ s ++ ⟨#[32]⟩ : ByteArray).data.toList
def jU (s : ByteArray) : Bool := decide (1 ≤ s.size) && decide (s.size ≤ 32) && uP (cC s 0) && gj kJ s && !Ux s
def mR (s : ByteArray) : Bool := jU s && gj tu s
def gp (s : ByteArray) : ByteArray := ⟨(Lib.trimPrefix s.data.toList [118]).toArray⟩
def lT (s : ByteArray) : Bool := Lib.hasPrefix s.data.toList [118]
def dz (t : ByteArray) : Nat → Int
 | 0 => 0
 | k + 1 => 10 * dz t k + (cC t k - 48)
def lU (t : ByteArray) : Bool := decide (1 ≤ t.size) && decide (t.size ≤ 3) && !(decide (1 < t.size) && decide (cC t 0 = 48)) && gj ew t
def cf (s : ByteArray) : Bool := lT s && lU (gp s)
def jc (s : ByteArray) : Int := dz (gp s) (gp s).size
theorem tB {p : Int → Bool} {s : ByteArray} (h : gj p s = true) {i : Nat} {c : UInt8} (hc : s[i]? = some c) : p c.toNat = true := List.all_eq_true.1 h c (List.mem_of_getElem? (jS hc))
theorem nJ {t : ByteArray} (h : gj ew t = true) : ∀ k, k ≤ t.size → 0 ≤ dz t k ∧ dz t k < 10 ^ k
 | 0, _ => ⟨Int.le_refl _, by simp [dz]⟩
 | k + 1, hk => by
  obtain ⟨h1, h2⟩ := nJ h k (by omega)
  obtain ⟨c, hc⟩ := bI (s := t) (i := k) (by omega)
  have h3 := tB h hc
  unfold ew at h3
  simp only [Bool.and_eq_true,decide_eq_true_eq] at h3
  rw [dz, cX hc, Int.pow_succ]
  omega
theorem HQ {t : ByteArray} (h : gj ew t = true) (h3 : t.size ≤ 3) {k : Nat} (hk : k ≤ t.size) : 0 ≤ dz t k ∧ dz t k < 1000 := by
 obtain ⟨h1, h2⟩ := nJ h k hk
 refine ⟨h1, Int.lt_of_lt_of_le h2 ?_⟩
 have : k = 0 ∨ k = 1 ∨ k = 2 ∨ k = 3 := by omega
 rcases this with rfl | rfl | rfl | rfl <;> decide
theorem BQ (hG : aE.g = some 0) (s : ByteArray) (hs : s.size ≤ 1000000) : ∃ r_, (fun w => w = bl (Ux s)) r_ ∧ aP Tryz.prog 152 [str s] r_ := by
 refine ek tt_ok [] 7 [.tmp 2] (fn := Tryz.f152) Tryz.func152 rfl Tryz.call152 ⟨rfl, rfl, by simp⟩ fun K hK => ?_
 have XM := fun x y => kB Tryz.prog 9 x y ⟨#[32]⟩ s (by rw [show (⟨#[32]⟩ : ByteArray).size = 1 from rfl, show IntKind.i64.max = 9223372036854775807 from rfl]; omega)
 have XN := fun x y => kB Tryz.prog 9 x y (⟨#[32]⟩ ++ s) ⟨#[32]⟩ (by rw [ByteArray.size_append, show (⟨#[32]⟩ : ByteArray).size = 1 from rfl, show IntKind.i64.max = 9223372036854775807 from rfl]; omega)
 simp only [XM,XN,go_sem,reduceIte,zA,zB,zC,zD,zE,zF,reduceCtorEq]
 refine cF (⟨_, rfl, zI hG _ _ (by decide)⟩) ?_
 rintro _ rfl
 simp only [XM,XN,go_sem,reduceIte,zA,zB,zC,zD,zE,zF,reduceCtorEq]
 exact hK _ rfl
theorem Fc (hG : aE.g = some 0) (s : ByteArray) : ∃ r_, (fun w => w = bl (jU s)) r_ ∧ aP Tryz.prog 124 [str s] r_ := by
 refine ek tt_ok [] 24 [.tmp 2] (fn := Tryz.f124) Tryz.func124 rfl Tryz.call124 ⟨rfl, rfl, by simp⟩ fun K hK => ?_
 have eE : Tryz.prog.underlying 9 = some .string := by kernel_rfl
 have sl : ∀ (a : ByteArray) (ty : TypeId), cd Tryz.prog (Builtin.len_ #[9] ty) [.sc (.string a)] = some (num a.size) := fun a ty => bE (P := Tryz.prog) (tt := tt) (T := 9) a eE ty
 simp only [sl,go_sem,reduceIte,zA,zB,zC,zD,zE,zF,reduceCtorEq]
 refine aL (fun dS => ?_) (fun dS => ?_)
 ·have h1 := Du rfl dS
  obtain ⟨S5, lV⟩ := bI (s := s) (i := (0 : Int).toNat) (by omega)
  have aU := cx (P := Tryz.prog) s eE .i64 (0) (by omega) (c := S5) lV
  have Wt : cC s 0 = S5.toNat := cX lV
  simp only [aU,sl,go_sem,reduceIte,zA,zB,zC,zD,zE,zF,reduceCtorEq]
  refine aL (fun HR => ?_) (fun HR => ?_)
  ·simp only [aU,sl,go_sem,reduceIte,zA,zB,zC,zD,zE,zF,reduceCtorEq]
   refine cF (tv _) ?_
   rintro _ rfl
   simp only [aU,sl,go_sem,reduceIte,zA,zB,zC,zD,zE,zF,reduceCtorEq]
   refine aL (fun BR => ?_) (fun BR => ?_)
   ·simp only [aU,sl,go_sem,reduceIte,zA,zB,zC,zD,zE,zF,reduceCtorEq]
    refine cF (xl 151 kJ KW s (by have := of_decide_eq_true HR; omega)) ?_
    rintro _ rfl
    simp only [aU,sl,go_sem,reduceIte,zA,zB,zC,zD,zE,zF,reduceCtorEq]
    refine aL (fun Pc => ?_) (fun Pc => ?_)
    ·simp only [aU,sl,go_sem,reduceIte,zA,zB,zC,zD,zE,zF,reduceCtorEq]
     refine cF (BQ hG s (by have := of_decide_eq_true HR; omega)) ?_
     rintro _ rfl
     simp only [aU,sl,go_sem,reduceIte,zA,zB,zC,zD,zE,zF,reduceCtorEq]
     exact hK _ (congrArg bl (by simp_all [jU] <;> (intros; omega)))
    ·simp only [aU,sl,go_sem,reduceIte,zA,zB,zC,zD,zE,zF,reduceCtorEq]
     exact hK _ (congrArg bl (by simp_all [jU] <;> (intros; omega)))
   ·simp only [aU,sl,go_sem,reduceIte,zA,zB,zC,zD,zE,zF,reduceCtorEq]
    exact hK _ (congrArg bl (by simp_all [jU] <;> (intros; omega)))
  ·simp only [aU,sl,go_sem,reduceIte,zA,zB,zC,zD,zE,zF,reduceCtorEq]
   exact hK _ (congrArg bl (by simp_all [jU] <;> (intros; omega)))
 ·have h1 := zn rfl dS
  simp only [sl,go_sem,reduceIte,zA,zB,zC,zD,zE,zF,reduceCtorEq]
  exact hK _ (congrArg bl (by simp_all [jU] <;> (intros; omega)))
theorem BS (hG : aE.g = some 0) (s : ByteArray) : ∃ r_, (fun w => w = .bt [num (if cf s = true then jc s else 0), bl (cf s)]) r_ ∧ aP Tryz.prog 123 [str s] r_ := by
 refine ek tt_ok [] 53 [.tmp 2, .tmp 3] (fn := Tryz.f123) Tryz.func123 rfl Tryz.call123 ⟨rfl, rfl, by simp⟩ fun K hK => ?_
 have eE : Tryz.prog.underlying 9 = some .string := by kernel_rfl
 have sl : ∀ (a : ByteArray) (ty : TypeId), cd Tryz.prog (Builtin.len_ #[9] ty) [.sc (.string a)] = some (num a.size) := fun a ty => bE (P := Tryz.prog) (tt := tt) (T := 9) a eE ty
 have tC : Tryz.prog.underlying 5 = some (.int .u8) := by kernel_rfl
 have rU : Tryz.prog.underlying 3 = some (.int .i64) := by kernel_rfl
 have cv := fun (k : IntKind) (n : Int) => bJ (P := Tryz.prog) (src := 5) (dst := 3) tC rU k n
 simp only [sl,cv,go_sem,reduceIte,zA,zB,zC,zD,zE,zF,reduceCtorEq]
 refine cF (⟨_, rfl, Fa hG s ⟨#[118]⟩⟩) ?_
 rintro _ rfl
 obtain ⟨t, ht⟩ : ∃ t, t = gp s := ⟨_, rfl⟩
 obtain ⟨hv, T8⟩ : ∃ b, b = lT s := ⟨_, rfl⟩
 have e1 : (⟨(Lib.trimPrefix s.data.toList [118]).toArray⟩ : ByteArray) = t := ht.symm
 have e2 : Lib.hasPrefix s.data.toList [118] = hv := T8.symm
 have AJ : cf s = (hv && lU t) := by rw [T8, ht]; rfl
 simp only [e1,e2]
 simp only [sl,cv,go_sem,reduceIte,zA,zB,zC,zD,zE,zF,reduceCtorEq]
 refine aL (fun oY => ?_) (fun oY => ?_)
 ·have dH : cf s = false := by rw [AJ]; simp_all [lU] <;> (intros; omega)
  simp only [sl,cv,go_sem,reduceIte,zA,zB,zC,zD,zE,zF,reduceCtorEq]
  refine hK _ ?_
  first
   | (rw [dH]; rfl)
   | (rw [bB]; subst dg; unfold jc; rw [← ht]; rfl)
 ·simp only [sl,cv,go_sem,reduceIte,zA,zB,zC,zD,zE,zF,reduceCtorEq]
  refine aL (fun HS => ?_) (fun HS => ?_)
  ·have h1 : t.size = 0 := zn (e := ⟨#[]⟩) rfl (by rw [HS]; rfl)
   have dH : cf s = false := by rw [AJ]; simp_all [lU] <;> (intros; omega)
   simp only [sl,cv,go_sem,reduceIte,zA,zB,zC,zD,zE,zF,reduceCtorEq]
   refine hK _ ?_
   first
    | (rw [dH]; rfl)
    | (rw [bB]; subst dg; unfold jc; rw [← ht]; rfl)
  ·have h1 : 1 ≤ t.size := Du (e := ⟨#[]⟩) rfl (by rw [HS]; rfl)
   obtain ⟨S5, lV⟩ := bI (s := t) (i := (0 : Int).toNat) (by omega)
   have aU := cx (P := Tryz.prog) t eE .i64 (0) (by omega) (c := S5) lV
   have Wt : cC t 0 = S5.toNat := cX lV
   simp only [aU,sl,cv,go_sem,reduceIte,zA,zB,zC,zD,zE,zF,reduceCtorEq]
   refine aL (fun BT => ?_) (fun BT => ?_)
   ·have dH : cf s = false := by rw [AJ]; simp_all [lU] <;> (intros; omega)
    simp only [aU,sl,cv,go_sem,reduceIte,zA,zB,zC,zD,zE,zF,reduceCtorEq]
    refine hK _ ?_
    first
     | (rw [dH]; rfl)
     | (rw [bB]; subst dg; unfold jc; rw [← ht]; rfl)
   ·simp only [aU,sl,cv,go_sem,reduceIte,zA,zB,zC,zD,zE,zF,reduceCtorEq]
    refine aL (fun Pd => ?_) (fun Pd => ?_)
    ·simp only [aU,sl,cv,go_sem,reduceIte,zA,zB,zC,zD,zE,zF,reduceCtorEq]
     refine aL (fun Pe => ?_) (fun Pe => ?_)
     ·have dH : cf s = false := by rw [AJ]; simp_all [lU] <;> (intros; omega)
      simp only [aU,sl,cv,go_sem,reduceIte,zA,zB,zC,zD,zE,zF,reduceCtorEq]
      refine hK _ ?_
      first
       | (rw [dH]; rfl)
       | (rw [bB]; subst dg; unfold jc; rw [← ht]; rfl)
     ·simp only [aU,sl,cv,go_sem,reduceIte,zA,zB,zC,zD,zE,zF,reduceCtorEq]
      refine cF (xl 128 ew oW t (by have := of_decide_eq_false BT; omega)) ?_
      rintro _ rfl
      simp only [aU,sl,cv,go_sem,reduceIte,zA,zB,zC,zD,zE,zF,reduceCtorEq]
      refine aL (fun oZ => ?_) (fun oZ => ?_)
      ·have dH : cf s = false := by rw [AJ]; simp_all [lU] <;> (intros; omega)
       simp only [aU,sl,cv,go_sem,reduceIte,zA,zB,zC,zD,zE,zF,reduceCtorEq]
       refine hK _ ?_
       first
        | (rw [dH]; rfl)
        | (rw [bB]; subst dg; unfold jc; rw [← ht]; rfl)
      ·have bB : cf s = true := by rw [AJ]; simp_all [lU] <;> (intros; omega)
       have Fe : lU t = true := by rw [AJ] at bB; simp at bB; exact bB.2
       have zJ : gj ew t = true := by unfold lU at Fe; simp only [Bool.and_eq_true] at Fe; exact Fe.2
       have h3 : t.size ≤ 3 := by unfold lU at Fe; simp only [Bool.and_eq_true,decide_eq_true_eq] at Fe; exact Fe.1.1.2
       simp only [aU,sl,cv,go_sem,reduceIte,zA,zB,zC,zD,zE,zF,reduceCtorEq]
       refine bO tt_ok [] [40,5] 0 [0,2,3,37,39] (fun vs => ((t.size : Int) - Go.Eng.intOf (vs.headD .undef)).toNat) (fun vs => ∃ i : Nat, vs = [num i, num (dz t i)] ∧ i ≤ t.size) (by omega) (by simp only [aU,sl,cv,go_sem,reduceIte,zA,zB,zC,zD,zE,zF,reduceCtorEq]) (⟨0, rfl, Nat.zero_le _⟩) fun vs hI Z1 cE => ?_
       obtain ⟨i, rfl, hi⟩ := hI
       simp only [aU,sl,cv,go_sem,reduceIte,zA,zB,zC,zD,zE,zF,reduceCtorEq]
       refine aL (fun mS => ?_) (fun mS => ?_)
       ·have aF : i < t.size := by simpa using mS
        have hw := aC i (by omega)
        obtain ⟨c, jD⟩ := bI (s := t) (i := i) aF
        have ca := cx (P := Tryz.prog) t eE .i64 (i : Int) (by omega) (c := c) (show t[((i : Nat) : Int).toNat]? = some c from jD)
        have K9 := tB zJ jD
        unfold ew at K9
        simp only [Bool.and_eq_true,decide_eq_true_eq] at K9
        obtain ⟨RS, NY⟩ := HQ zJ h3 hi
        have hu : IntKind.u8.wrap ((c.toNat : Int) - 48) = (c.toNat : Int) - 48 := by have h := c.toNat_lt; simp only [IntKind.wrap,IntKind.bits,IntKind.signed]; simp; omega
        have tD : IntKind.i64.wrap ((c.toNat : Int) - 48) = (c.toNat : Int) - 48 := IntWalk.i64_in _ (by omega)
        have tE : IntKind.i64.wrap (10 * dz t i) = 10 * dz t i := IntWalk.i64_in _ (by omega)
        have vH : IntKind.i64.wrap (10 * dz t i + ((c.toNat : Int) - 48)) = dz t (i + 1) := by rw [dz, cX jD]; exact IntWalk.i64_in _ (by omega)
        simp only [aU,hw,ca,hu,tD,tE,vH,sl,cv,go_sem,reduceIte,zA,zB,zC,zD,zE,zF,reduceCtorEq]
        refine cE _ (eR (by omega) (by simp only [aU,hw,ca,hu,tD,tE,vH,sl,cv,go_sem,reduceIte,zA,zB,zC,zD,zE,zF,reduceCtorEq]) ?_ ?_) <;> simp only [ja,lk,reduceIte,zE]
        ·exact ⟨i + 1, rfl, aF⟩
        ·simp only [Go.Eng.intOf,List.headD_cons]; omega
       ·have dg : i = t.size := Nat.le_antisymm hi (Nat.le_of_not_lt (by simpa using mS))
        simp only [aU,sl,cv,go_sem,reduceIte,zA,zB,zC,zD,zE,zF,reduceCtorEq]
        refine hK _ ?_
        first
         | (rw [dH]; rfl)
         | (rw [bB]; subst dg; unfold jc; rw [← ht]; rfl)
    ·simp only [aU,sl,cv,go_sem,reduceIte,zA,zB,zC,zD,zE,zF,reduceCtorEq]
     refine cF (xl 128 ew oW t (by have := of_decide_eq_false BT; omega)) ?_
     rintro _ rfl
     simp only [aU,sl,cv,go_sem,reduceIte,zA,zB,zC,zD,zE,zF,reduceCtorEq]
     refine aL (fun oZ => ?_) (fun oZ => ?_)
     ·have dH : cf s = false := by rw [AJ]; simp_all [lU] <;> (intros; omega)
      simp only [aU,sl,cv,go_sem,reduceIte,zA,zB,zC,zD,zE,zF,reduceCtorEq]
      refine hK _ ?_
      first
       | (rw [dH]; rfl)
       | (rw [bB]; subst dg; unfold jc; rw [← ht]; rfl)
     ·have bB : cf s = true := by rw [AJ]; simp_all [lU] <;> (intros; omega)
      have Fe : lU t = true := by rw [AJ] at bB; simp at bB; exact bB.2
      have zJ : gj ew t = true := by unfold lU at Fe; simp only [Bool.and_eq_true] at Fe; exact Fe.2
      have h3 : t.size ≤ 3 := by unfold lU at Fe; simp only [Bool.and_eq_true,decide_eq_true_eq] at Fe; exact Fe.1.1.2
      simp only [aU,sl,cv,go_sem,reduceIte,zA,zB,zC,zD,zE,zF,reduceCtorEq]
      refine bO tt_ok [] [40,5] 0 [0,2,3,37,39] (fun vs => ((t.size : Int) - Go.Eng.intOf (vs.headD .undef)).toNat) (fun vs => ∃ i : Nat, vs = [num i, num (dz t i)] ∧ i ≤ t.size) (by omega) (by simp only [aU,sl,cv,go_sem,reduceIte,zA,zB,zC,zD,zE,zF,reduceCtorEq]) (⟨0, rfl, Nat.zero_le _⟩) fun vs hI Z2 pn => ?_
      obtain ⟨i, rfl, hi⟩ := hI
      simp only [aU,sl,cv,go_sem,reduceIte,zA,zB,zC,zD,zE,zF,reduceCtorEq]
      refine aL (fun mS => ?_) (fun mS => ?_)
      ·have aF : i < t.size := by simpa using mS
       have hw := aC i (by omega)
       obtain ⟨c, jD⟩ := bI (s := t) (i := i) aF
       have ca := cx (P := Tryz.prog) t eE .i64 (i : Int) (by omega) (c := c) (show t[((i : Nat) : Int).toNat]? = some c from jD)
       have K9 := tB zJ jD
       unfold ew at K9
       simp only [Bool.and_eq_true,decide_eq_true_eq] at K9
       obtain ⟨RS, NY⟩ := HQ zJ h3 hi
       have hu : IntKind.u8.wrap ((c.toNat : Int) - 48) = (c.toNat : Int) - 48 := by have h := c.toNat_lt; simp only [IntKind.wrap,IntKind.bits,IntKind.signed]; simp; omega
       have tD : IntKind.i64.wrap ((c.toNat : Int) - 48) = (c.toNat : Int) - 48 := IntWalk.i64_in _ (by omega)
       have tE : IntKind.i64.wrap (10 * dz t i) = 10 * dz t i := IntWalk.i64_in _ (by omega)
       have vH : IntKind.i64.wrap (10 * dz t i + ((c.toNat : Int) - 48)) = dz t (i + 1) := by rw [dz, cX jD]; exact IntWalk.i64_in _ (by omega)
       simp only [aU,hw,ca,hu,tD,tE,vH,sl,cv,go_sem,reduceIte,zA,zB,zC,zD,zE,zF,reduceCtorEq]
       refine pn _ (eR (by omega) (by simp only [aU,hw,ca,hu,tD,tE,vH,sl,cv,go_sem,reduceIte,zA,zB,zC,zD,zE,zF,reduceCtorEq]) ?_ ?_) <;> simp only [ja,lk,reduceIte,zE]
       ·exact ⟨i + 1, rfl, aF⟩
       ·simp only [Go.Eng.intOf,List.headD_cons]; omega
      ·have dg : i = t.size := Nat.le_antisymm hi (Nat.le_of_not_lt (by simpa using mS))
       simp only [aU,sl,cv,go_sem,reduceIte,zA,zB,zC,zD,zE,zF,reduceCtorEq]
       refine hK _ ?_
       first
        | (rw [dH]; rfl)
        | (rw [bB]; subst dg; unfold jc; rw [← ht]; rfl)
end Go.Proofs.YtnfeacnbgbggfaaGreatDoor
end

section
namespace Go.Proofs.YtnfeacnbgbggfaaGreatDoor
open Go.Eng
open Nat renaming reduceAdd → zA, reduceLT → zB, reduceLeDiff → zC, reduceMul → zD, reduceEqDiff → zE, reduceSub → zF
variable [aE]
set_option maxHeartbeats 4000000
set_option maxRecDepth 100000
def vI (s : ByteArray) : ByteArray := (pieces s).getLast?.getD ⟨#[]⟩
def bu (s : ByteArray) : Bool := cf (vI s) && decide (s.size ≤ 64) && decide (2 ≤ (pieces s).length) && (pieces s).all mR
def bF (s : ByteArray) : Int := if bu s = true then jc (vI s) else 0
def bw (s : ByteArray) : Int := if bu s = true then 0 else 4
theorem vJ (s : ByteArray) : (pieces s).length ≤ s.size + 1 := by
 rw [dX]
 have := Lib.countB_le ⟨#[47]⟩ (by decide) s.size s (Nat.le_refl _)
 omega
theorem zK {s z : ByteArray} (h : (pieces s)[(pieces s).length - 1]? = some z) : vI s = z := by
 unfold vI
 rw [List.getLast?_eq_getElem?, h]; rfl
theorem HT {α : Type} {q : α → Bool} {l : List α} (h : ∀ j < l.length, ∀ x, l[j]? = some x → q x = true) : l.all q = true := by
 rw [List.all_eq_true]
 intro x hx
 obtain ⟨j, hj⟩ := List.mem_iff_getElem?.1 hx
 exact h j (List.getElem?_eq_some_iff.1 hj).1 x hj
theorem BU {α : Type} {q : α → Bool} {l : List α} {i : Nat} {x : α} (h : l[i]? = some x) (hq : q x = false) : l.all q = false := by
 cases ha : l.all q with
 | false => rfl
 | true => have := List.all_eq_true.1 ha x (List.mem_of_getElem? h); rw [hq] at this; cases this
theorem HU {s : ByteArray} (h : bu s = true) : 0 ≤ Lib.lastIndexByte s 47 ∧ Lib.lastIndexByte s 47 ≤ s.size := by
 unfold bu at h
 simp only [Bool.and_eq_true,decide_eq_true_eq] at h
 obtain ⟨⟨-, h2⟩, -⟩ := h
 rw [dX] at h2
 have hc : Lib.countB s ⟨#[47]⟩ = s.data.toList.count 47 := by
  unfold Lib.countB
  exact Lib.count_one 47 s.data.toList
 have hm : (47 : UInt8) ∈ s.data.toList := List.count_pos_iff.1 (by omega)
 rcases Lib.lastIndexByte_spec s 47 with ⟨-, dH⟩ | ⟨i, hi, he, -⟩
 ·exfalso
  obtain ⟨j, hj⟩ := List.mem_iff_getElem?.1 hm
  have qw : j < s.size := by have := (List.getElem?_eq_some_iff.1 hj).1; simpa using this
  refine dH j qw ?_
  have h3 : s.data[j]? = some 47 := by simpa using hj
  rw [getElem!_pos s.data j (by simpa using qw)]
  have := (Array.getElem?_eq_some_iff.1 h3).2
  rw [this]; rfl
 ·rw [he]; omega
theorem zL (hG : aE.g = some 0) (s : ByteArray) (hs : s.size ≤ 1048576) : ∃ r_, (fun w => w = .bt [num (bF s), num (bw s)]) r_ ∧ aP Tryz.prog 101 [str s] r_ := by
 refine ek tt_ok [] 49 [.tmp 2, .tmp 3] (fn := Tryz.f101) Tryz.func101 rfl Tryz.call101 ⟨rfl, rfl, by simp⟩ fun K hK => ?_
 have eE : Tryz.prog.underlying 9 = some .string := by kernel_rfl
 have sl : ∀ (a : ByteArray) (ty : TypeId), cd Tryz.prog (Builtin.len_ #[9] ty) [.sc (.string a)] = some (num a.size) := fun a ty => bE (P := Tryz.prog) (tt := tt) (T := 9) a eE ty
 simp only [sl,List.length_map,go_sem,reduceIte,zA,zB,zC,zD,zE,zF,reduceCtorEq]
 refine cF (⟨_, rfl, HP hG s (by omega)⟩) ?_
 rintro _ rfl
 obtain ⟨P, hP⟩ : ∃ P, P = pieces s := ⟨_, rfl⟩
 have Wu := vJ s
 have Wv := dX s
 rw [← hP]
 rw [← hP] at Wu Wv
 obtain ⟨z, hz⟩ : ∃ z, P[P.length - 1]? = some z := ⟨_, List.getElem?_eq_getElem (by omega)⟩
 have ob : vI s = z := zK (by rw [← hP]; exact hz)
 have gq : IntKind.i64.wrap ((P.length : Int) - 1) = ((P.length - 1 : Nat) : Int) := oS _ _ (by omega) (by omega)
 simp only [List.getElem?_map,hz,gq,sl,List.length_map,go_sem,reduceIte,zA,zB,zC,zD,zE,zF,reduceCtorEq]
 refine cF (BS hG z) ?_
 rintro _ rfl
 simp only [List.getElem?_map,hz,gq,sl,List.length_map,go_sem,reduceIte,zA,zB,zC,zD,zE,zF,reduceCtorEq]
 refine aL (fun S6 => ?_) (fun S6 => ?_)
 ·have dH : bu s = false := by unfold bu; rw [ob, ← hP]; simp_all <;> (intros; omega)
  simp only [List.getElem?_map,hz,gq,sl,List.length_map,go_sem,reduceIte,zA,zB,zC,zD,zE,zF,reduceCtorEq]
  refine hK _ ?_
  first
   | (unfold bF bw; rw [dH]; rfl)
   | (unfold bF bw; rw [bB, ob]; simp_all; done)
   | (unfold bF bw; rw [bB, ob]; simp_all; rfl)
 ·simp only [List.getElem?_map,hz,gq,sl,List.length_map,go_sem,reduceIte,zA,zB,zC,zD,zE,zF,reduceCtorEq]
  refine aL (fun zM => ?_) (fun zM => ?_)
  ·have dH : bu s = false := by unfold bu; rw [ob, ← hP]; simp_all <;> (intros; omega)
   simp only [List.getElem?_map,hz,gq,sl,List.length_map,go_sem,reduceIte,zA,zB,zC,zD,zE,zF,reduceCtorEq]
   refine hK _ ?_
   first
    | (unfold bF bw; rw [dH]; rfl)
    | (unfold bF bw; rw [bB, ob]; simp_all; done)
    | (unfold bF bw; rw [bB, ob]; simp_all; rfl)
  ·simp only [List.getElem?_map,hz,gq,sl,List.length_map,go_sem,reduceIte,zA,zB,zC,zD,zE,zF,reduceCtorEq]
   refine aL (fun Ww => ?_) (fun Ww => ?_)
   ·have dH : bu s = false := by unfold bu; rw [ob, ← hP]; simp_all <;> (intros; omega)
    simp only [List.getElem?_map,hz,gq,sl,List.length_map,go_sem,reduceIte,zA,zB,zC,zD,zE,zF,reduceCtorEq]
    refine hK _ ?_
    first
     | (unfold bF bw; rw [dH]; rfl)
     | (unfold bF bw; rw [bB, ob]; simp_all; done)
     | (unfold bF bw; rw [bB, ob]; simp_all; rfl)
   ·simp only [List.getElem?_map,hz,gq,sl,List.length_map,go_sem,reduceIte,zA,zB,zC,zD,zE,zF,reduceCtorEq]
    refine bO tt_ok [] [35] 0 [5,32,33,34] (fun vs => ((P.length : Int) - Go.Eng.intOf (vs.headD .undef)).toNat) (fun vs => ∃ i : Nat, vs = [num i] ∧ i ≤ P.length ∧ ∀ j < i, ∀ x, P[j]? = some x → mR x = true) (by omega) (by simp only [List.getElem?_map,hz,gq,sl,List.length_map,go_sem,reduceIte,zA,zB,zC,zD,zE,zF,reduceCtorEq]) (⟨0, rfl, Nat.zero_le _, fun j hj => absurd hj (Nat.not_lt_zero j)⟩) fun vs hI Z1 cE => ?_
    obtain ⟨i, rfl, hi, bn⟩ := hI
    simp only [List.getElem?_map,hz,gq,sl,List.length_map,go_sem,reduceIte,zA,zB,zC,zD,zE,zF,reduceCtorEq]
    refine aL (fun qb => ?_) (fun qb => ?_)
    ·have aF : i < P.length := by simpa using qb
     have hw := aC i (by omega)
     obtain ⟨x, hx⟩ : ∃ x, P[i]? = some x := ⟨_, List.getElem?_eq_getElem aF⟩
     simp only [List.getElem?_map,hz,gq,hw,hx,sl,List.length_map,go_sem,reduceIte,zA,zB,zC,zD,zE,zF,reduceCtorEq]
     refine cF (Fc hG x) ?_
     rintro _ rfl
     simp only [List.getElem?_map,hz,gq,hw,hx,sl,List.length_map,go_sem,reduceIte,zA,zB,zC,zD,zE,zF,reduceCtorEq]
     refine aL (fun M7 => ?_) (fun M7 => ?_)
     ·have dH : bu s = false := by
       have ha : P.all mR = false := BU hx (by unfold mR; simp_all)
       unfold bu; rw [← hP, ha]; simp
      simp only [List.getElem?_map,hz,gq,hw,hx,sl,List.length_map,go_sem,reduceIte,zA,zB,zC,zD,zE,zF,reduceCtorEq]
      refine hK _ ?_
      first
       | (unfold bF bw; rw [dH]; rfl)
       | (unfold bF bw; rw [bB, ob]; simp_all; done)
       | (unfold bF bw; rw [bB, ob]; simp_all; rfl)
     ·have Zp : jU x = true := by simpa using M7
      simp only [List.getElem?_map,hz,gq,hw,hx,sl,List.length_map,go_sem,reduceIte,zA,zB,zC,zD,zE,zF,reduceCtorEq]
      refine cF (xl 126 tu SV x (by have h := Zp; unfold jU at h; simp only [Bool.and_eq_true,decide_eq_true_eq] at h; omega)) ?_
      rintro _ rfl
      simp only [List.getElem?_map,hz,gq,hw,hx,sl,List.length_map,go_sem,reduceIte,zA,zB,zC,zD,zE,zF,reduceCtorEq]
      refine aL (fun xn => ?_) (fun xn => ?_)
      ·have dH : bu s = false := by
        have ha : P.all mR = false := BU hx (by unfold mR; simp_all)
        unfold bu; rw [← hP, ha]; simp
       simp only [List.getElem?_map,hz,gq,hw,hx,sl,List.length_map,go_sem,reduceIte,zA,zB,zC,zD,zE,zF,reduceCtorEq]
       refine hK _ ?_
       first
        | (unfold bF bw; rw [dH]; rfl)
        | (unfold bF bw; rw [bB, ob]; simp_all; done)
        | (unfold bF bw; rw [bB, ob]; simp_all; rfl)
      ·simp only [List.getElem?_map,hz,gq,hw,hx,sl,List.length_map,go_sem,reduceIte,zA,zB,zC,zD,zE,zF,reduceCtorEq]
       refine cE _ (eR (by omega) (by simp only [List.getElem?_map,hz,gq,hw,hx,sl,List.length_map,go_sem,reduceIte,zA,zB,zC,zD,zE,zF,reduceCtorEq]) ?_ ?_) <;> simp only [ja,lk,reduceIte,zE]
       ·refine ⟨i + 1, rfl, aF, fun j hj => ?_⟩
        rcases Nat.lt_or_ge j i with h | h
        ·exact bn j h
        ·obtain rfl : j = i := by omega
         intro y hy
         rw [hx] at hy; cases hy; unfold mR; simp_all
       ·simp only [Go.Eng.intOf,List.headD_cons]; omega
    ·have dg : ¬ i < P.length := by simpa using qb
     have bB : bu s = true := by
      have ha : P.all mR = true := HT fun j hj => bn j (by omega)
      unfold bu; rw [ob, ← hP, ha]; simp_all <;> omega
     simp only [List.getElem?_map,hz,gq,sl,List.length_map,go_sem,reduceIte,zA,zB,zC,zD,zE,zF,reduceCtorEq]
     refine hK _ ?_
     first
      | (unfold bF bw; rw [dH]; rfl)
      | (unfold bF bw; rw [bB, ob]; simp_all; done)
      | (unfold bF bw; rw [bB, ob]; simp_all; rfl)
theorem Ff (hG : aE.g = some 0) (s : ByteArray) (hs : s.size ≤ 1048576) : ∃ r_, (fun w => w = bl (bu s)) r_ ∧ aP Tryz.prog 102 [str s] r_ := by
 refine ek tt_ok [] 12 [.tmp 2] (fn := Tryz.f102) Tryz.func102 rfl Tryz.call102 ⟨rfl, rfl, by simp⟩ fun K hK => ?_
 simp only [go_sem,reduceIte,zA,zB,zC,zD,zE,zF,reduceCtorEq]
 refine cF (zL hG s hs) ?_
 rintro _ rfl
 simp only [go_sem,reduceIte,zA,zB,zC,zD,zE,zF,reduceCtorEq]
 exact hK _ (congrArg bl (by unfold bw; by_cases h : bu s = true <;> simp [h]))
theorem rV (hG : aE.g = some 0) (s : ByteArray) (hs : s.size ≤ 1048576) : ∃ r_, (fun w => ∃ nm : ByteArray, w = .bt [str nm, num (bF s), num (bw s)]) r_ ∧ aP Tryz.prog 65 [str s] r_ := by
 refine ek tt_ok [] 24 [.tmp 2, .tmp 3, .tmp 4] (fn := Tryz.f65) Tryz.func65 rfl Tryz.call65 ⟨rfl, rfl, by simp⟩ fun K hK => ?_
 have eE : Tryz.prog.underlying 9 = some .string := by kernel_rfl
 have sl : ∀ (a : ByteArray) (ty : TypeId), cd Tryz.prog (Builtin.len_ #[9] ty) [.sc (.string a)] = some (num a.size) := fun a ty => bE (P := Tryz.prog) (tt := tt) (T := 9) a eE ty
 simp only [sl,go_sem,reduceIte,zA,zB,zC,zD,zE,zF,reduceCtorEq]
 refine cF (zL hG s hs) ?_
 rintro _ rfl
 simp only [sl,go_sem,reduceIte,zA,zB,zC,zD,zE,zF,reduceCtorEq]
 refine cF (Ff hG s hs) ?_
 rintro _ rfl
 simp only [sl,go_sem,reduceIte,zA,zB,zC,zD,zE,zF,reduceCtorEq]
 refine aL (fun tF => ?_) (fun tF => ?_)
 ·have dH : bu s = false := by simp_all [bw]
  have e1 : bF s = 0 := by unfold bF; rw [dH]; rfl
  have e2 : bw s = 4 := by unfold bw; rw [dH]; rfl
  simp only [sl,go_sem,reduceIte,zA,zB,zC,zD,zE,zF,reduceCtorEq]
  first
   | exact hK _ ⟨⟨#[]⟩, by rw [e1, e2] <;> rfl⟩
   | exact hK _ ⟨_, by rw [e2] <;> rfl⟩
 ·simp only [sl,go_sem,reduceIte,zA,zB,zC,zD,zE,zF,reduceCtorEq]
  refine aL (fun HV => ?_) (fun HV => ?_)
  ·have dH : bu s = false := by simp_all [bw]
   have e1 : bF s = 0 := by unfold bF; rw [dH]; rfl
   have e2 : bw s = 4 := by unfold bw; rw [dH]; rfl
   simp only [sl,go_sem,reduceIte,zA,zB,zC,zD,zE,zF,reduceCtorEq]
   first
    | exact hK _ ⟨⟨#[]⟩, by rw [e1, e2] <;> rfl⟩
    | exact hK _ ⟨_, by rw [e2] <;> rfl⟩
  ·have bB : bu s = true := by cases h : bu s <;> simp_all [bw]
   obtain ⟨Az, uA⟩ := HU bB
   have JI : aQ Tryz.prog (fun a h => Instr.sliceAt 9 a none (some h) none) (.sc (.string s)) (.sc (.int .i64 (Lib.lastIndexByte s 47))) = some (.sc (.string (s.extract 0 (Lib.lastIndexByte s 47).toNat))) := yH (P := Tryz.prog) (tt := tt) (mem := []) (T := 9) s eE .i64 (Lib.lastIndexByte s 47) Az uA
   have e2 : bw s = 0 := by unfold bw; rw [bB]; rfl
   simp only [JI,sl,go_sem,reduceIte,zA,zB,zC,zD,zE,zF,reduceCtorEq]
   refine cF (⟨_, rfl, Fb hG s (by omega)⟩) ?_
   rintro _ rfl
   simp only [JI,sl,go_sem,reduceIte,zA,zB,zC,zD,zE,zF,reduceCtorEq]
   first
    | exact hK _ ⟨⟨#[]⟩, by rw [e1, e2] <;> rfl⟩
    | exact hK _ ⟨_, by rw [e2] <;> rfl⟩
end Go.Proofs.YtnfeacnbgbggfaaGreatDoor
end
