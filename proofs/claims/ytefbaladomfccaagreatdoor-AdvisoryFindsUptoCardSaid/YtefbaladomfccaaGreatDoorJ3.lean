/-
  CONTRACTS: the library's contracts on strings and sorting, laid at this program (the layings' tables by the kit's lay-plain).
  CONTRACTS of the library's, taken over: looking for strings, splitting, sorting spans.
-/
import Derived.Test.YtefbaladomfccaaGreatDoorJ2
import Derived.Shelf.Small.Wraps
import Derived.Shelf.Strings.Search3
import Derived.Shelf.Strings.LastIndex
import Derived.Shelf.Strings.Split
import Derived.Test.YtefbaladomfccaaGreatDoorProg
set_option linter.all false
section
namespace Go.Proofs.YtefbaladomfccaaGreatDoor
open Go.RowKit Go.Lib Go.Shelf
def y3 : Go.Shelf.Ren := ⟨fun | 103 => 220 | 210 => 269 | 206 => 301 | n => n, fun | 9 => 9 | 4 => 4 | 24 => 278 | 3 => 3 | n => n, fun | n => n⟩
theorem KN : Go.Proofs.Lays.n103 Tryz.prog y3 := {
 mixed := by kernel_rfl
 f103 := Tryz.func220.trans (congrArg some (by kernel_rfl))
 f206 := Tryz.func301.trans (congrArg some (by kernel_rfl))
 f210 := Tryz.func269.trans (congrArg some (by kernel_rfl))
 t3 := Tryz.underlying3
 a3 := Tryz.isAgg3
 z3 := Tryz.sizeOf3
 v3 := Tryz.zeroValue3
 t4 := Tryz.underlying4
 a4 := Tryz.isAgg4
 z4 := Tryz.sizeOf4
 v4 := Tryz.zeroValue4
 t9 := Tryz.underlying9
 a9 := Tryz.isAgg9
 z9 := Tryz.sizeOf9
 v9 := Tryz.zeroValue9
 t24 := Tryz.underlying278
 a24 := Tryz.isAgg278
 z24 := Tryz.sizeOf278
 v24 := Tryz.zeroValue278 }
theorem strings_CutPrefix (s p : ByteArray) (w : World) :
  Calls Tryz.prog 220 #[.string s, .string p] w fun e w' => e = .returned (.tuple #[.string ⟨(Lib.trimPrefix s.data.toList p.data.toList).toArray⟩, .bool (Lib.hasPrefix s.data.toList p.data.toList)]) ∧ w' = w := Any.strings_CutPrefix KN s p w
def y4 : Go.Shelf.Ren := ⟨fun | 144 => 271 | 143 => 268 | 219 => 300 | 217 => 311 | 225 => 312 | 224 => 313 | 267 => 314 | 266 => 326 | 314 => 327 | n => n, fun | 9 => 9 | 4 => 4 | 3 => 3 | 5 => 5 | 46 => 257 | 146 => 321 | 51 => 316 | n => n, fun | 1 => 0 | n => n⟩
theorem KO : Go.Proofs.Lays.n144 Tryz.prog y4 := {
 mixed := by kernel_rfl
 f143 := Tryz.func268.trans (congrArg some (by kernel_rfl))
 f144 := Tryz.func271.trans (congrArg some (by kernel_rfl))
 f217 := Tryz.func311.trans (congrArg some (by kernel_rfl))
 f219 := Tryz.func300.trans (congrArg some (by kernel_rfl))
 f224 := Tryz.func313.trans (congrArg some (by kernel_rfl))
 f225 := Tryz.func312.trans (congrArg some (by kernel_rfl))
 f266 := Tryz.func326.trans (congrArg some (by kernel_rfl))
 f267 := Tryz.func314.trans (congrArg some (by kernel_rfl))
 f314 := Tryz.func327.trans (congrArg some (by kernel_rfl))
 t3 := Tryz.underlying3
 a3 := Tryz.isAgg3
 z3 := Tryz.sizeOf3
 v3 := Tryz.zeroValue3
 t4 := Tryz.underlying4
 a4 := Tryz.isAgg4
 z4 := Tryz.sizeOf4
 v4 := Tryz.zeroValue4
 t5 := Tryz.underlying5
 a5 := Tryz.isAgg5
 z5 := Tryz.sizeOf5
 v5 := Tryz.zeroValue5
 t9 := Tryz.underlying9
 a9 := Tryz.isAgg9
 z9 := Tryz.sizeOf9
 v9 := Tryz.zeroValue9
 t46 := Tryz.underlying257
 a46 := Tryz.isAgg257
 z46 := Tryz.sizeOf257
 v46 := Tryz.zeroValue257
 t51 := Tryz.underlying316
 a51 := Tryz.isAgg316
 z51 := Tryz.sizeOf316
 v51 := Tryz.zeroValue316
 t146 := Tryz.underlying321
 a146 := Tryz.isAgg321
 z146 := Tryz.sizeOf321
 v146 := Tryz.zeroValue321
 g1 := by kernel_rfl }
theorem strings_Contains (s sub : ByteArray) (m : Int) (w : World) (hs : s.size < 4294967281) (hm : w.cell? ⟨0, 0, none⟩ = some (.int .i64 m)) :
  Calls Tryz.prog 271 #[.string s, .string sub] w fun e w' => e = .returned (.bool (Lib.contains s.data.toList sub.data.toList)) ∧ w' = w := Any.strings_Contains KO s sub m w hs hm
def y5 : Go.Shelf.Ren := ⟨fun | 148 => 120 | 222 => 174 | 223 => 175 | 269 => 223 | n => n, fun | 9 => 9 | 3 => 3 | 4 => 4 | 5 => 5 | 146 => 321 | 51 => 316 | 46 => 257 | n => n, fun | n => n⟩
theorem KP : Go.Proofs.Lays.n148 Tryz.prog y5 := {
 mixed := by kernel_rfl
 f148 := Tryz.func120.trans (congrArg some (by kernel_rfl))
 f222 := Tryz.func174.trans (congrArg some (by kernel_rfl))
 f223 := Tryz.func175.trans (congrArg some (by kernel_rfl))
 f269 := Tryz.func223.trans (congrArg some (by kernel_rfl))
 t3 := Tryz.underlying3
 a3 := Tryz.isAgg3
 z3 := Tryz.sizeOf3
 v3 := Tryz.zeroValue3
 t4 := Tryz.underlying4
 a4 := Tryz.isAgg4
 z4 := Tryz.sizeOf4
 v4 := Tryz.zeroValue4
 t5 := Tryz.underlying5
 a5 := Tryz.isAgg5
 z5 := Tryz.sizeOf5
 v5 := Tryz.zeroValue5
 t9 := Tryz.underlying9
 a9 := Tryz.isAgg9
 z9 := Tryz.sizeOf9
 v9 := Tryz.zeroValue9
 t46 := Tryz.underlying257
 a46 := Tryz.isAgg257
 z46 := Tryz.sizeOf257
 v46 := Tryz.zeroValue257
 t51 := Tryz.underlying316
 a51 := Tryz.isAgg316
 z51 := Tryz.sizeOf316
 v51 := Tryz.zeroValue316
 t146 := Tryz.underlying321
 a146 := Tryz.isAgg321
 z146 := Tryz.sizeOf321
 v146 := Tryz.zeroValue321 }
theorem strings_LastIndex_one (s sub : ByteArray) (h1 : sub.size = 1) (hs : s.size < 4611686018427387904) (w : World) :
  Calls Tryz.prog 120 #[.string s, .string sub] w fun e w' => e = .returned (.int .i64 (Lib.lastIndexByte s ((sub[0]'(by omega)).toNat : Int))) ∧ w' = w := Any.strings_LastIndex_one KP s sub h1 hs w
def y6 : Go.Shelf.Ren := ⟨fun | 146 => 167 | 221 => 219 | 268 => 266 | 138 => 267 | 143 => 268 | 195 => 297 | 197 => 298 | 218 => 299 | 219 => 300 | 260 => 310 | 217 => 311 | 225 => 312 | 224 => 313 | 267 => 314 | 266 => 326 | 314 => 327 | n => n, fun | 9 => 9 | 31 => 49 | 3 => 3 | 4 => 4 | 0 => 0 | 105 => 375 | 21 => 21 | 5 => 5 | 46 => 257 | 119 => 391 | 139 => 394 | 138 => 393 | 146 => 321 | 51 => 316 | n => n, fun | 1 => 0 | 3 => 1 | 4 => 2 | n => n⟩
theorem KQ : Go.Proofs.Lays.n146 Tryz.prog y6 := {
 mixed := by kernel_rfl
 f138 := Tryz.func267.trans (congrArg some (by kernel_rfl))
 f143 := Tryz.func268.trans (congrArg some (by kernel_rfl))
 f146 := Tryz.func167.trans (congrArg some (by kernel_rfl))
 f195 := Tryz.func297.trans (congrArg some (by kernel_rfl))
 f197 := Tryz.func298.trans (congrArg some (by kernel_rfl))
 f217 := Tryz.func311.trans (congrArg some (by kernel_rfl))
 f218 := Tryz.func299.trans (congrArg some (by kernel_rfl))
 f219 := Tryz.func300.trans (congrArg some (by kernel_rfl))
 f221 := Tryz.func219.trans (congrArg some (by kernel_rfl))
 f224 := Tryz.func313.trans (congrArg some (by kernel_rfl))
 f225 := Tryz.func312.trans (congrArg some (by kernel_rfl))
 f260 := Tryz.func310.trans (congrArg some (by kernel_rfl))
 f266 := Tryz.func326.trans (congrArg some (by kernel_rfl))
 f267 := Tryz.func314.trans (congrArg some (by kernel_rfl))
 f268 := Tryz.func266.trans (congrArg some (by kernel_rfl))
 f314 := Tryz.func327.trans (congrArg some (by kernel_rfl))
 t0 := Tryz.underlying0
 a0 := Tryz.isAgg0
 z0 := Tryz.sizeOf0
 v0 := Tryz.zeroValue0
 t3 := Tryz.underlying3
 a3 := Tryz.isAgg3
 z3 := Tryz.sizeOf3
 v3 := Tryz.zeroValue3
 t4 := Tryz.underlying4
 a4 := Tryz.isAgg4
 z4 := Tryz.sizeOf4
 v4 := Tryz.zeroValue4
 t5 := Tryz.underlying5
 a5 := Tryz.isAgg5
 z5 := Tryz.sizeOf5
 v5 := Tryz.zeroValue5
 t9 := Tryz.underlying9
 a9 := Tryz.isAgg9
 z9 := Tryz.sizeOf9
 v9 := Tryz.zeroValue9
 t21 := Tryz.underlying21
 a21 := Tryz.isAgg21
 z21 := Tryz.sizeOf21
 v21 := Tryz.zeroValue21
 t31 := Tryz.underlying49
 a31 := Tryz.isAgg49
 z31 := Tryz.sizeOf49
 v31 := Tryz.zeroValue49
 t46 := Tryz.underlying257
 a46 := Tryz.isAgg257
 z46 := Tryz.sizeOf257
 v46 := Tryz.zeroValue257
 t51 := Tryz.underlying316
 a51 := Tryz.isAgg316
 z51 := Tryz.sizeOf316
 v51 := Tryz.zeroValue316
 t105 := Tryz.underlying375
 a105 := Tryz.isAgg375
 z105 := Tryz.sizeOf375
 v105 := Tryz.zeroValue375
 t119 := Tryz.underlying391
 a119 := Tryz.isAgg391
 z119 := Tryz.sizeOf391
 t138 := Tryz.underlying393
 a138 := Tryz.isAgg393
 z138 := Tryz.sizeOf393
 v138 := Tryz.zeroValue393
 t139 := Tryz.underlying394
 a139 := Tryz.isAgg394
 z139 := Tryz.sizeOf394
 v139 := Tryz.zeroValue394
 t146 := Tryz.underlying321
 a146 := Tryz.isAgg321
 z146 := Tryz.sizeOf321
 v146 := Tryz.zeroValue321
 g1 := by kernel_rfl
 g3 := by kernel_rfl
 g4 := by kernel_rfl }
theorem strings_Split (s sep : ByteArray) (m : Int) (w : World) (hs : s.size < 4294967281) (hm : w.cell? ⟨0, 0, none⟩ = some (.int .i64 m)) (h1 : 1 ≤ sep.size) :
  Calls Tryz.prog 167 #[.string s, .string sep] w fun e w' =>
   e = .returned (.slice (some ⟨w.heap.size, 0, none⟩) (Lib.countB s sep + 1) (Lib.countB s sep + 1)) ∧ w' = w.alloc (.cells ((Lib.splitB sep 0 (Lib.countB s sep) s).map Value.string).toArray 9) := Any.strings_Split KQ (by kernel_rfl) s sep m w hs hm h1
end Go.Proofs.YtefbaladomfccaaGreatDoor
end

section
namespace Go.Eng
variable [aK]
open Go.RowKit (Below)
theorem aR.of_same {P : Program} {f : FuncId} {l : List Value} {v : Value} (hc : ∀ (xs : Array Value) (w : World), (callFunc f xs).run P w = .ok (.enter f xs) w) (hG : aK.g = some 0)
  (h : ∀ w : World, w.cell? ⟨0, 0, none⟩ = some (.int .i64 aK.n) → Calls P f l.toArray w fun e w' => e = .returned v ∧ w' = w) : aR P f (l.map V.sc) (fg v) := by
 refine ⟨hc, fun F hg w xs hF hx => ?_⟩
 have kG : xs = l.toArray := by
  rw [← Array.toArray_toList (xs := xs)]
  congr 1
  refine List.ext_getElem? fun i => ?_
  cases hi : l[i]? with
  | none =>
   have h1 := hx.1
   rw [List.length_map] at h1
   rw [List.getElem?_eq_none (by have := List.getElem?_eq_none_iff.1 hi; omega)]
  | some a =>
   obtain ⟨y, hy, hr⟩ := hx.get (i := i) (v := .sc a) (by rw [List.getElem?_map, hi]; rfl)
   rw [hy, bS hr]
 rw [kG]
 refine (h w (hF _ _ (hg.n 0 hG))).mono ?_
 rintro e w' ⟨rfl, rfl⟩
 exact ⟨F, _, rfl, fun _ _ h => h, hF, fun _ _ h => .inl h, ⟨hg, fR _ _⟩, Below.refl _ _⟩
end Go.Eng
namespace Go.Proofs.YtefbaladomfccaaGreatDoor
open Go.Eng
open Go.RowKit (Below)
variable [aK]
theorem y7 (hG : aK.g = some 0) (s t : ByteArray) (hs : s.size < 4294967281) : aR Tryz.prog 271 [str s, str t] (bl (Lib.contains s.data.toList t.data.toList)) :=
 aR.of_same (l := [.string s, .string t]) Tryz.call271 hG fun w hw => strings_Contains s t aK.n w hs hw
theorem ES (hG : aK.g = some 0) (s t : ByteArray) : aR Tryz.prog 220 [str s, str t] (.ch [str ⟨(Lib.trimPrefix s.data.toList t.data.toList).toArray⟩, bl (Lib.hasPrefix s.data.toList t.data.toList)]) :=
 aR.of_same (l := [.string s, .string t]) Tryz.call220 hG fun w _ => strings_CutPrefix s t w
theorem u9 (hG : aK.g = some 0) (s : ByteArray) (hs : s.size < 4611686018427387904) : aR Tryz.prog 120 [str s, str ⟨#[47]⟩] (num (Lib.lastIndexByte s 47)) :=
 aR.of_same (l := [.string s, .string ⟨#[47]⟩]) Tryz.call120 hG fun w _ => strings_LastIndex_one s ⟨#[47]⟩ rfl hs w
def pieces (s : ByteArray) : List ByteArray := Lib.splitB ⟨#[47]⟩ 0 (Lib.countB s ⟨#[47]⟩) s
theorem eP (s : ByteArray) : (pieces s).length = Lib.countB s ⟨#[47]⟩ + 1 := Lib.splitB_all ⟨#[47]⟩ (by decide) 0 _ s rfl
theorem HJ (hG : aK.g = some 0) (s : ByteArray) (hs : s.size < 4294967281) : aR Tryz.prog 167 [str s, str ⟨#[47]⟩] (.slice ((pieces s).map str)) := by
 refine ⟨Tryz.call167, fun F hg w xs hF hx => ?_⟩
 obtain ⟨x, ys, kG, hr, pb⟩ := hx.of_cons
 obtain ⟨y, zs, KF, Ea, hz⟩ := pb.of_cons
 have D8 := hz.of_nil
 subst D8
 have h1 := bS hr
 have h2 := bS Ea
 subst h1; subst h2; subst KF
 obtain rfl : xs = #[.string s, .string ⟨#[47]⟩] := by rw [← Array.toArray_toList (xs := xs), kG]
 refine (strings_Split s ⟨#[47]⟩ aK.n w hs (hF _ _ (hg.n 0 hG)) (by decide)).mono ?_
 rintro e w' ⟨rfl, rfl⟩
 have hold : ∀ ad y, F ad = some y → ad.block ≠ w.heap.size := fun ad y h e => by
  have := World.block_lt_of_cell? w ad (hF ad y h); omega
 have gZ : ∀ o, (w.alloc (.cells ((pieces s).map Value.string).toArray 9)).cell? ⟨w.heap.size, o, none⟩ = ((pieces s).map Value.string)[o]? := fun o => by
  unfold World.cell? World.alloc
  simp
 let F' : Addr → Option Value := fun ad => if ad.block = w.heap.size then (w.alloc (.cells ((pieces s).map Value.string).toArray 9)).cell? ad else F ad
 have Y6 : ∀ ad y, F ad = some y → F' ad = some y := fun ad y h => by
  show (if _ then _ else _) = _
  rw [if_neg (hold ad y h)]; exact h
 have JY : Gl F' := hg.mono Y6
 refine ⟨F', _, rfl, Y6, fun ad y h => ?_, fun ad y h => ?_, ⟨JY, ?_⟩, (Below.refl _ _).alloc (Nat.le_refl _) _⟩
 ·by_cases hb : ad.block = w.heap.size
  ·rw [show F' ad = _ from if_pos hb] at h; exact h
  ·rw [show F' ad = _ from if_neg hb] at h
   have h3 := hF ad y h
   rw [← h3]
   have aL := World.block_lt_of_cell? w ad h3
   unfold World.cell?
   rw [Below.heap_alloc w _ _ aL]
 ·by_cases hb : ad.block = w.heap.size
  ·exact .inr (by omega)
  ·rw [show F' ad = _ from if_neg hb] at h; exact .inl h
 ·have hl : ((pieces s).map str).length = Lib.countB s ⟨#[47]⟩ + 1 := by rw [List.length_map, eP]
  have := a8.slice ⟨F', fun _ _ => none, JY⟩ ((pieces s).map str) (some ⟨w.heap.size, 0, none⟩) (Lib.countB s ⟨#[47]⟩ + 1) 1 ⟨w.heap.size, 0, none⟩ (fun i _ => (((pieces s).map Value.string)[i]?).getD undef) (fun _ => rfl) (by rw [hl]; exact Nat.le_refl _)
   (fun i row hi => by rw [List.getElem?_map, Option.map_eq_some_iff] at hi; obtain ⟨u, -, rfl⟩ := hi; rfl)
   (fun i row j c hi hj => by
    rw [List.getElem?_map, Option.map_eq_some_iff] at hi
    obtain ⟨u, hu, rfl⟩ := hi
    match j, hj with
    | 0, hj =>
     show F' _ = _
     rw [add_lit, show F' _ = _ from if_pos rfl, gZ]
     simp [hu]
    | j + 1, hj => simp [V.cells] at hj)
   (fun i row j c hi hj => by
    rw [List.getElem?_map, Option.map_eq_some_iff] at hi
    obtain ⟨u, hu, rfl⟩ := hi
    simp [hu, Value.oneCell'])
   (fun i row j c hi hj => by
    rw [List.getElem?_map, Option.map_eq_some_iff] at hi
    obtain ⟨u, hu, rfl⟩ := hi
    match j, hj with
    | 0, hj =>
     cases hj
     simp only [List.getElem?_map,hu,Option.map_some,Option.getD_some]
     exact .sc _ _
    | j + 1, hj => simp [V.cells] at hj)
  rw [hl] at this
  exact this
end Go.Proofs.YtefbaladomfccaaGreatDoor
end
