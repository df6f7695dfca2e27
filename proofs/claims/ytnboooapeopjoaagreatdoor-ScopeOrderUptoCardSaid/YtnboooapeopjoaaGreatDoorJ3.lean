/-
  CONTRACTS: the library's contracts on strings and sorting, laid at this program (the layings' tables by the kit's lay-plain).
  CONTRACTS of the library's, taken over: looking for strings, splitting, sorting spans.
  CONTRACTS: names, versions of paths.
  CONTRACTS: paths.
  PLAIN: keywords, segments and versions of paths, as the reference of layer 3 finds them.
  CONTRACTS: names, by the reference.
  CONTRACTS: versions of paths, by the reference.
  CONTRACTS: paths, by the reference.
  CONTRACTS: names of types and variables; modules of names.
  THE DATA of types, and the abstract values that stand for them (law27).
  CONTRACTS: the reference's Parts, TypeSize, TypeDepth.
  CONTRACTS: slices.Clone; the parts of a type; the depth of a type.
  CONTRACTS: the depth of a type.
  CONTRACTS: the walk over a type's nodes.
  CONTRACTS: a range over a type's nodes.
  CONTRACTS: the size of a type.
  THE FORM OF TREES, plainly: the errors that the checks of types, expressions, declarations and modules give.
-/
import Derived.Test.YtnboooapeopjoaaGreatDoorJ2
import Derived.Shelf.Small.Wraps
import Derived.Shelf.Strings.Search3
import Derived.Shelf.Strings.Split
import Derived.Test.YtnboooapeopjoaaGreatDoorProg
import Derived.IntWalk
set_option linter.all false
section
namespace Go.Proofs.YtnboooapeopjoaaGreatDoor
open Go.RowKit Go.Lib Go.Shelf
def AE : Go.Shelf.Ren := ⟨fun | 103 => 249 | 210 => 282 | 206 => 308 | n => n, fun | 9 => 9 | 4 => 4 | 24 => 129 | 3 => 3 | n => n, fun | n => n⟩
theorem MI : Go.Proofs.Lays.n103 Tryz.prog AE := {
 mixed := by kernel_rfl
 f103 := Tryz.func249.trans (congrArg some (by kernel_rfl))
 f206 := Tryz.func308.trans (congrArg some (by kernel_rfl))
 f210 := Tryz.func282.trans (congrArg some (by kernel_rfl))
 t3 := Tryz.underlying3
 a3 := Tryz.isAgg3
 z3 := Tryz.sizeOf3
 v3 := Tryz.zeroValue3
 t4 := Tryz.underlying4
 a4 := Tryz.isAgg4
 z4 := Tryz.sizeOf4
 v4 := Tryz.zeroValue4
 t9 := Tryz.underlying9
 a9 := Tryz.isAgg9
 z9 := Tryz.sizeOf9
 v9 := Tryz.zeroValue9
 t24 := Tryz.underlying129
 a24 := Tryz.isAgg129
 z24 := Tryz.sizeOf129
 v24 := Tryz.zeroValue129 }
theorem strings_CutPrefix (s p : ByteArray) (w : World) :
  Calls Tryz.prog 249 #[.string s, .string p] w fun e w' => e = .returned (.tuple #[.string ⟨(Lib.trimPrefix s.data.toList p.data.toList).toArray⟩, .bool (Lib.hasPrefix s.data.toList p.data.toList)]) ∧ w' = w := Any.strings_CutPrefix MI s p w
def AF : Go.Shelf.Ren := ⟨fun | 144 => 231 | 143 => 270 | 219 => 301 | 217 => 316 | 225 => 317 | 224 => 318 | 267 => 319 | 266 => 322 | 314 => 323 | n => n, fun | 9 => 9 | 4 => 4 | 3 => 3 | 5 => 5 | 46 => 219 | 146 => 295 | 51 => 252 | n => n, fun | n => n⟩
theorem MJ : Go.Proofs.Lays.n144 Tryz.prog AF := {
 mixed := by kernel_rfl
 f143 := Tryz.func270.trans (congrArg some (by kernel_rfl))
 f144 := Tryz.func231.trans (congrArg some (by kernel_rfl))
 f217 := Tryz.func316.trans (congrArg some (by kernel_rfl))
 f219 := Tryz.func301.trans (congrArg some (by kernel_rfl))
 f224 := Tryz.func318.trans (congrArg some (by kernel_rfl))
 f225 := Tryz.func317.trans (congrArg some (by kernel_rfl))
 f266 := Tryz.func322.trans (congrArg some (by kernel_rfl))
 f267 := Tryz.func319.trans (congrArg some (by kernel_rfl))
 f314 := Tryz.func323.trans (congrArg some (by kernel_rfl))
 t3 := Tryz.underlying3
 a3 := Tryz.isAgg3
 z3 := Tryz.sizeOf3
 v3 := Tryz.zeroValue3
 t4 := Tryz.underlying4
 a4 := Tryz.isAgg4
 z4 := Tryz.sizeOf4
 v4 := Tryz.zeroValue4
 t5 := Tryz.underlying5
 a5 := Tryz.isAgg5
 z5 := Tryz.sizeOf5
 v5 := Tryz.zeroValue5
 t9 := Tryz.underlying9
 a9 := Tryz.isAgg9
 z9 := Tryz.sizeOf9
 v9 := Tryz.zeroValue9
 t46 := Tryz.underlying219
 a46 := Tryz.isAgg219
 z46 := Tryz.sizeOf219
 v46 := Tryz.zeroValue219
 t51 := Tryz.underlying252
 a51 := Tryz.isAgg252
 z51 := Tryz.sizeOf252
 v51 := Tryz.zeroValue252
 t146 := Tryz.underlying295
 a146 := Tryz.isAgg295
 z146 := Tryz.sizeOf295
 v146 := Tryz.zeroValue295
 g1 := by kernel_rfl }
theorem strings_Contains (s sub : ByteArray) (m : Int) (w : World) (hs : s.size < 4294967281) (hm : w.cell? ⟨1, 0, none⟩ = some (.int .i64 m)) :
  Calls Tryz.prog 231 #[.string s, .string sub] w fun e w' => e = .returned (.bool (Lib.contains s.data.toList sub.data.toList)) ∧ w' = w := Any.strings_Contains MJ s sub m w hs hm
def AH : Go.Shelf.Ren := ⟨fun | 146 => 195 | 221 => 248 | 268 => 280 | 138 => 281 | 143 => 270 | 195 => 305 | 197 => 306 | 218 => 307 | 219 => 301 | 260 => 321 | 217 => 316 | 225 => 317 | 224 => 318 | 267 => 319 | 266 => 322 | 314 => 323 | n => n, fun | 9 => 9 | 31 => 36 | 3 => 3 | 4 => 4 | 0 => 0 | 105 => 286 | 21 => 21 | 5 => 5 | 46 => 219 | 119 => 297 | 139 => 300 | 138 => 299 | 146 => 295 | 51 => 252 | n => n, fun | 1 => 1 | 3 => 4 | 4 => 5 | n => n⟩
theorem MK : Go.Proofs.Lays.n146 Tryz.prog AH := {
 mixed := by kernel_rfl
 f138 := Tryz.func281.trans (congrArg some (by kernel_rfl))
 f143 := Tryz.func270.trans (congrArg some (by kernel_rfl))
 f146 := Tryz.func195.trans (congrArg some (by kernel_rfl))
 f195 := Tryz.func305.trans (congrArg some (by kernel_rfl))
 f197 := Tryz.func306.trans (congrArg some (by kernel_rfl))
 f217 := Tryz.func316.trans (congrArg some (by kernel_rfl))
 f218 := Tryz.func307.trans (congrArg some (by kernel_rfl))
 f219 := Tryz.func301.trans (congrArg some (by kernel_rfl))
 f221 := Tryz.func248.trans (congrArg some (by kernel_rfl))
 f224 := Tryz.func318.trans (congrArg some (by kernel_rfl))
 f225 := Tryz.func317.trans (congrArg some (by kernel_rfl))
 f260 := Tryz.func321.trans (congrArg some (by kernel_rfl))
 f266 := Tryz.func322.trans (congrArg some (by kernel_rfl))
 f267 := Tryz.func319.trans (congrArg some (by kernel_rfl))
 f268 := Tryz.func280.trans (congrArg some (by kernel_rfl))
 f314 := Tryz.func323.trans (congrArg some (by kernel_rfl))
 t0 := Tryz.underlying0
 a0 := Tryz.isAgg0
 z0 := Tryz.sizeOf0
 v0 := Tryz.zeroValue0
 t3 := Tryz.underlying3
 a3 := Tryz.isAgg3
 z3 := Tryz.sizeOf3
 v3 := Tryz.zeroValue3
 t4 := Tryz.underlying4
 a4 := Tryz.isAgg4
 z4 := Tryz.sizeOf4
 v4 := Tryz.zeroValue4
 t5 := Tryz.underlying5
 a5 := Tryz.isAgg5
 z5 := Tryz.sizeOf5
 v5 := Tryz.zeroValue5
 t9 := Tryz.underlying9
 a9 := Tryz.isAgg9
 z9 := Tryz.sizeOf9
 v9 := Tryz.zeroValue9
 t21 := Tryz.underlying21
 a21 := Tryz.isAgg21
 z21 := Tryz.sizeOf21
 v21 := Tryz.zeroValue21
 t31 := Tryz.underlying36
 a31 := Tryz.isAgg36
 z31 := Tryz.sizeOf36
 v31 := Tryz.zeroValue36
 t46 := Tryz.underlying219
 a46 := Tryz.isAgg219
 z46 := Tryz.sizeOf219
 v46 := Tryz.zeroValue219
 t51 := Tryz.underlying252
 a51 := Tryz.isAgg252
 z51 := Tryz.sizeOf252
 v51 := Tryz.zeroValue252
 t105 := Tryz.underlying286
 a105 := Tryz.isAgg286
 z105 := Tryz.sizeOf286
 v105 := Tryz.zeroValue286
 t119 := Tryz.underlying297
 a119 := Tryz.isAgg297
 z119 := Tryz.sizeOf297
 t138 := Tryz.underlying299
 a138 := Tryz.isAgg299
 z138 := Tryz.sizeOf299
 v138 := Tryz.zeroValue299
 t139 := Tryz.underlying300
 a139 := Tryz.isAgg300
 z139 := Tryz.sizeOf300
 v139 := Tryz.zeroValue300
 t146 := Tryz.underlying295
 a146 := Tryz.isAgg295
 z146 := Tryz.sizeOf295
 v146 := Tryz.zeroValue295
 g1 := by kernel_rfl
 g3 := by kernel_rfl
 g4 := by kernel_rfl }
theorem strings_Split (s sep : ByteArray) (m : Int) (w : World) (hs : s.size < 4294967281) (hm : w.cell? ⟨1, 0, none⟩ = some (.int .i64 m)) (h1 : 1 ≤ sep.size) :
  Calls Tryz.prog 195 #[.string s, .string sep] w fun e w' =>
   e = .returned (.slice (some ⟨w.heap.size, 0, none⟩) (Lib.countB s sep + 1) (Lib.countB s sep + 1)) ∧ w' = w.alloc (.cells ((Lib.splitB sep 0 (Lib.countB s sep) s).map Value.string).toArray 9) := Any.strings_Split MK (by kernel_rfl) s sep m w hs hm h1
end Go.Proofs.YtnboooapeopjoaaGreatDoor
end

section
namespace Go.Eng
variable [aA]
open Go.RowKit (Below)
theorem aT.of_same {P : Program} {f : FuncId} {l : List Value} {v : Value} (hc : ∀ (xs : Array Value) (w : World), (callFunc f xs).run P w = .ok (.enter f xs) w) (hG : aA.g = some 1)
  (h : ∀ w : World, w.cell? ⟨1, 0, none⟩ = some (.int .i64 aA.n) → Calls P f l.toArray w fun e w' => e = .returned v ∧ w' = w) : aT P f (l.map V.sc) (gO v) := by
 refine ⟨hc, fun F hg w xs hF hx => ?_⟩
 have rq : xs = l.toArray := by
  rw [← Array.toArray_toList (xs := xs)]
  congr 1
  refine List.ext_getElem? fun i => ?_
  cases hi : l[i]? with
  | none =>
   have h1 := hx.1
   rw [List.length_map] at h1
   rw [List.getElem?_eq_none (by have := List.getElem?_eq_none_iff.1 hi; omega)]
  | some a =>
   obtain ⟨y, hy, hr⟩ := hx.get (i := i) (v := .sc a) (by rw [List.getElem?_map, hi]; rfl)
   rw [hy, dk hr]
 rw [rq]
 refine (h w (hF _ _ (hg.n 1 hG))).mono ?_
 rintro e w' ⟨rfl, rfl⟩
 exact ⟨F, _, rfl, fun _ _ h => h, hF, fun _ _ h => .inl h, ⟨hg, gC _ _⟩, Below.refl _ _⟩
end Go.Eng
namespace Go.Proofs.YtnboooapeopjoaaGreatDoor
open Go.Eng
open Go.RowKit (Below)
variable [aA]
theorem nG (hG : aA.g = some 1) (s t : ByteArray) (hs : s.size < 4294967281) : aT Tryz.prog 231 [str s, str t] (bl (Lib.contains s.data.toList t.data.toList)) :=
 aT.of_same (l := [.string s, .string t]) Tryz.call231 hG fun w hw => strings_Contains s t aA.n w hs hw
theorem FM (hG : aA.g = some 1) (s t : ByteArray) : aT Tryz.prog 249 [str s, str t] (.cC [str ⟨(Lib.trimPrefix s.data.toList t.data.toList).toArray⟩, bl (Lib.hasPrefix s.data.toList t.data.toList)]) :=
 aT.of_same (l := [.string s, .string t]) Tryz.call249 hG fun w _ => strings_CutPrefix s t w
def pieces (s : ByteArray) : List ByteArray := Lib.splitB ⟨#[47]⟩ 0 (Lib.countB s ⟨#[47]⟩) s
theorem lh (s : ByteArray) : (pieces s).length = Lib.countB s ⟨#[47]⟩ + 1 := Lib.splitB_all ⟨#[47]⟩ (by decide) 0 _ s rfl
theorem IU (hG : aA.g = some 1) (s : ByteArray) (hs : s.size < 4294967281) : aT Tryz.prog 195 [str s, str ⟨#[47]⟩] (.slice ((pieces s).map str)) := by
 refine ⟨Tryz.call195, fun F hg w xs hF hx => ?_⟩
 obtain ⟨x, ys, rq, hr, Uv⟩ := hx.of_cons
 obtain ⟨y, zs, hys, Cm, hz⟩ := Uv.of_cons
 have Pb := hz.of_nil
 subst Pb
 have h1 := dk hr
 have h2 := dk Cm
 subst h1; subst h2; subst hys
 obtain rfl : xs = #[.string s, .string ⟨#[47]⟩] := by rw [← Array.toArray_toList (xs := xs), rq]
 refine (strings_Split s ⟨#[47]⟩ aA.n w hs (hF _ _ (hg.n 1 hG)) (by decide)).mono ?_
 rintro e w' ⟨rfl, rfl⟩
 have hold : ∀ ad y, F ad = some y → ad.block ≠ w.heap.size := fun ad y h e => by
  have := World.block_lt_of_cell? w ad (hF ad y h); omega
 have kZ : ∀ o, (w.alloc (.cells ((pieces s).map Value.string).toArray 9)).cell? ⟨w.heap.size, o, none⟩ = ((pieces s).map Value.string)[o]? := fun o => by
  unfold World.cell? World.alloc
  simp
 let F' : Addr → Option Value := fun ad => if ad.block = w.heap.size then (w.alloc (.cells ((pieces s).map Value.string).toArray 9)).cell? ad else F ad
 have hFF : ∀ ad y, F ad = some y → F' ad = some y := fun ad y h => by
  show (if _ then _ else _) = _
  rw [if_neg (hold ad y h)]; exact h
 have zJ : Gl F' := hg.mono hFF
 refine ⟨F', _, rfl, hFF, fun ad y h => ?_, fun ad y h => ?_, ⟨zJ, ?_⟩, (Below.refl _ _).alloc (Nat.le_refl _) _⟩
 ·by_cases hb : ad.block = w.heap.size
  ·rw [show F' ad = _ from if_pos hb] at h; exact h
  ·rw [show F' ad = _ from if_neg hb] at h
   have h3 := hF ad y h
   rw [← h3]
   have aZ := World.block_lt_of_cell? w ad h3
   unfold World.cell?
   rw [Below.heap_alloc w _ _ aZ]
 ·by_cases hb : ad.block = w.heap.size
  ·exact .inr (by omega)
  ·rw [show F' ad = _ from if_neg hb] at h; exact .inl h
 ·have hl : ((pieces s).map str).length = Lib.countB s ⟨#[47]⟩ + 1 := by rw [List.length_map, lh]
  have := bC.slice ⟨F', fun _ _ => none, zJ⟩ ((pieces s).map str) (some ⟨w.heap.size, 0, none⟩) (Lib.countB s ⟨#[47]⟩ + 1) 1 ⟨w.heap.size, 0, none⟩ (fun i _ => (((pieces s).map Value.string)[i]?).getD undef) (fun _ => rfl) (by rw [hl]; exact Nat.le_refl _)
   (fun i row hi => by rw [List.getElem?_map, Option.map_eq_some_iff] at hi; obtain ⟨u, -, rfl⟩ := hi; rfl)
   (fun i row j c hi hj => by
    rw [List.getElem?_map, Option.map_eq_some_iff] at hi
    obtain ⟨u, hu, rfl⟩ := hi
    match j, hj with
    | 0, hj =>
     show F' _ = _
     rw [add_lit, show F' _ = _ from if_pos rfl, kZ]
     simp [hu]
    | j + 1, hj => simp [V.cells] at hj)
   (fun i row j c hi hj => by
    rw [List.getElem?_map, Option.map_eq_some_iff] at hi
    obtain ⟨u, hu, rfl⟩ := hi
    simp [hu, Value.oneCell'])
   (fun i row j c hi hj => by
    rw [List.getElem?_map, Option.map_eq_some_iff] at hi
    obtain ⟨u, hu, rfl⟩ := hi
    match j, hj with
    | 0, hj =>
     cases hj
     simp only [List.getElem?_map,hu,Option.map_some,Option.getD_some]
     exact .sc _ _
    | j + 1, hj => simp [V.cells] at hj)
  rw [hl] at this
  exact this
end Go.Proofs.YtnboooapeopjoaaGreatDoor
end

section
namespace Go.Proofs.YtnboooapeopjoaaGreatDoor
open Go.Eng
open Nat renaming reduceAdd → zA, reduceLT → zB, reduceLeDiff → zC, reduceMul → zD, reduceEqDiff → zE, reduceSub → zF
variable [aA]
set_option maxHeartbeats 4000000
set_option maxRecDepth 100000
def oR : ByteArray := ⟨#[32,97,110,100,32,97,110,121,32,97,115,32,98,111,111,108,32,100,101,112,114,101,99,97,116,101,100,32,101,108,115,101,32,101,120,112,111,114,116,32,102,97,108,115,101,32,102,110,32,102,111,108,100,32,102,114,111,109,32,105,102,32,105,109,112,111,114,116,32,105,110,32,105,110,116,32,108,101,110,103,116,104,32,108,101,116,32,108,105,115,116,32,109,97,116,99,104,32,109,111,100,117,108,101,32,110,111,110,101,32,110,111,116,32,111,114,32,116,101,120,116,32,116,104,101,110,32,116,114,117,101,32,116,121,112,101,32,117,115,101,32]⟩
def Yb (s : ByteArray) : Bool := Lib.contains oR.data.toList (⟨#[32]⟩ ++ s ++ ⟨#[32]⟩ : ByteArray).data.toList
def bM (s : ByteArray) : Bool := decide (1 ≤ s.size) && decide (s.size ≤ 32) && wu (gx s 0) && lf ld s && !Yb s
def AI (s : ByteArray) : Bool := bM s && lf IN s
def yu (s : ByteArray) : ByteArray := ⟨(Lib.trimPrefix s.data.toList [118]).toArray⟩
def IV (s : ByteArray) : Bool := Lib.hasPrefix s.data.toList [118]
def lO (t : ByteArray) : Nat → Int
 | 0 => 0
 | k + 1 => 10 * lO t k + (gx t k - 48)
def oD (t : ByteArray) : Bool := decide (1 ≤ t.size) && decide (t.size ≤ 3) && !(decide (1 < t.size) && decide (gx t 0 = 48)) && lf mM t
def mI (s : ByteArray) : Bool := IV s && oD (yu s)
def wv (s : ByteArray) : Int := lO (yu s) (yu s).size
theorem u1 {p : Int → Bool} {s : ByteArray} (h : lf p s = true) {i : Nat} {c : UInt8} (hc : s[i]? = some c) : p c.toNat = true := List.all_eq_true.1 h c (List.mem_of_getElem? (uV hc))
theorem u2 {t : ByteArray} (h : lf mM t = true) : ∀ k, k ≤ t.size → 0 ≤ lO t k ∧ lO t k < 10 ^ k
 | 0, _ => ⟨Int.le_refl _, by simp [lO]⟩
 | k + 1, hk => by
  obtain ⟨h1, h2⟩ := u2 h k (by omega)
  obtain ⟨c, hc⟩ := eQ (s := t) (i := k) (by omega)
  have h3 := u1 h hc
  unfold mM at h3
  simp only [Bool.and_eq_true,decide_eq_true_eq] at h3
  rw [lO, gp hc, Int.pow_succ]
  omega
theorem IW {t : ByteArray} (h : lf mM t = true) (h3 : t.size ≤ 3) {k : Nat} (hk : k ≤ t.size) : 0 ≤ lO t k ∧ lO t k < 1000 := by
 obtain ⟨h1, h2⟩ := u2 h k hk
 refine ⟨h1, Int.lt_of_lt_of_le h2 ?_⟩
 have : k = 0 ∨ k = 1 ∨ k = 2 ∨ k = 3 := by omega
 rcases this with rfl | rfl | rfl | rfl <;> decide
theorem C2 (hG : aA.g = some 1) (s : ByteArray) (hs : s.size ≤ 1000000) : ∃ r_, (fun w => w = bl (Yb s)) r_ ∧ aT Tryz.prog 179 [str s] r_ := by
 refine gG tt_ok [] 7 [.tmp 2] (fn := Tryz.f179) Tryz.func179 rfl Tryz.call179 ⟨rfl, rfl, by simp⟩ fun K hK => ?_
 have sa1 := fun x y => Ea Tryz.prog 9 x y ⟨#[32]⟩ s (by rw [show (⟨#[32]⟩ : ByteArray).size = 1 from rfl, show IntKind.i64.max = 9223372036854775807 from rfl]; omega)
 have sa2 := fun x y => Ea Tryz.prog 9 x y (⟨#[32]⟩ ++ s) ⟨#[32]⟩ (by rw [ByteArray.size_append, show (⟨#[32]⟩ : ByteArray).size = 1 from rfl, show IntKind.i64.max = 9223372036854775807 from rfl]; omega)
 simp only [sa1,sa2,go_sem]
 refine cF (⟨_, rfl, nG hG _ _ (by decide)⟩) ?_
 rintro _ rfl
 simp only [sa1,sa2,go_sem]
 exact hK _ rfl
theorem eR (hG : aA.g = some 1) (s : ByteArray) : ∃ r_, (fun w => w = bl (bM s)) r_ ∧ aT Tryz.prog 130 [str s] r_ := by
 refine gG tt_ok [] 24 [.tmp 2] (fn := Tryz.f130) Tryz.func130 rfl Tryz.call130 ⟨rfl, rfl, by simp⟩ fun K hK => ?_
 have oQ : Tryz.prog.underlying 9 = some .string := by kernel_rfl
 have sl : ∀ (a : ByteArray) (ty : TypeId), ib Tryz.prog (Builtin.len_ #[9] ty) [.sc (.string a)] = some (num a.size) := fun a ty => iF (P := Tryz.prog) (tt := tt) (T := 9) a oQ ty
 simp only [sl,go_sem]
 refine aV (fun dQ => ?_) (fun dQ => ?_)
 ·have h1 := yq rfl dQ
  obtain ⟨IX, kS⟩ := eQ (s := s) (i := (0 : Int).toNat) (by omega)
  have bY := gE (P := Tryz.prog) s oQ .i64 (0) (by omega) (c := IX) kS
  have fU : gx s 0 = IX.toNat := gp kS
  simp only [bY,sl,go_sem]
  refine aV (fun oS => ?_) (fun oS => ?_)
  ·simp only [bY,sl,go_sem]
   refine cF (uY _) ?_
   rintro _ rfl
   simp only [bY,sl,go_sem]
   refine aV (fun u3 => ?_) (fun u3 => ?_)
   ·simp only [bY,sl,go_sem]
    refine cF (u0 170 ld EG s (by have := of_decide_eq_true oS; omega)) ?_
    rintro _ rfl
    simp only [bY,sl,go_sem]
    refine aV (fun C3 => ?_) (fun C3 => ?_)
    ·simp only [bY,sl,go_sem]
     refine cF (C2 hG s (by have := of_decide_eq_true oS; omega)) ?_
     rintro _ rfl
     simp only [bY,sl,go_sem]
     exact hK _ (congrArg bl (by simp_all [bM] <;> (intros; omega)))
    ·simp only [bY,sl,go_sem]
     exact hK _ (congrArg bl (by simp_all [bM] <;> (intros; omega)))
   ·simp only [bY,sl,go_sem]
    exact hK _ (congrArg bl (by simp_all [bM] <;> (intros; omega)))
  ·simp only [bY,sl,go_sem]
   exact hK _ (congrArg bl (by simp_all [bM] <;> (intros; omega)))
 ·have h1 := uX rfl dQ
  simp only [sl,go_sem]
  exact hK _ (congrArg bl (by simp_all [bM] <;> (intros; omega)))
theorem C4 (hG : aA.g = some 1) (s : ByteArray) : ∃ r_, (fun w => w = .cC [num (if mI s = true then wv s else 0), bl (mI s)]) r_ ∧ aT Tryz.prog 196 [str s] r_ := by
 refine gG tt_ok [] 53 [.tmp 2, .tmp 3] (fn := Tryz.f196) Tryz.func196 rfl Tryz.call196 ⟨rfl, rfl, by simp⟩ fun K hK => ?_
 have oQ : Tryz.prog.underlying 9 = some .string := by kernel_rfl
 have sl : ∀ (a : ByteArray) (ty : TypeId), ib Tryz.prog (Builtin.len_ #[9] ty) [.sc (.string a)] = some (num a.size) := fun a ty => iF (P := Tryz.prog) (tt := tt) (T := 9) a oQ ty
 have hT5 : Tryz.prog.underlying 5 = some (.int .u8) := by kernel_rfl
 have hT3 : Tryz.prog.underlying 3 = some (.int .i64) := by kernel_rfl
 have cv := fun (k : IntKind) (n : Int) => L0 (P := Tryz.prog) (src := 5) (dst := 3) hT5 hT3 k n
 simp only [sl,cv,go_sem]
 refine cF (⟨_, rfl, FM hG s ⟨#[118]⟩⟩) ?_
 rintro _ rfl
 obtain ⟨t, ht⟩ : ∃ t, t = yu s := ⟨_, rfl⟩
 obtain ⟨hv, XN⟩ : ∃ b, b = IV s := ⟨_, rfl⟩
 have e1 : (⟨(Lib.trimPrefix s.data.toList [118]).toArray⟩ : ByteArray) = t := ht.symm
 have e2 : Lib.hasPrefix s.data.toList [118] = hv := XN.symm
 have LC : mI s = (hv && oD t) := by rw [XN, ht]; rfl
 simp only [e1,e2]
 simp only [sl,cv,go_sem]
 refine aV (fun qI => ?_) (fun qI => ?_)
 ·have mH : mI s = false := by rw [LC]; simp_all [oD] <;> (intros; omega)
  simp only [sl,cv,go_sem]
  refine hK _ ?_
  first
   | (rw [mH]; rfl)
   | (rw [dx]; subst gv; unfold wv; rw [← ht]; rfl)
 ·simp only [sl,cv,go_sem]
  refine aV (fun IY => ?_) (fun IY => ?_)
  ·have h1 : t.size = 0 := uX (e := ⟨#[]⟩) rfl (by rw [IY]; rfl)
   have mH : mI s = false := by rw [LC]; simp_all [oD] <;> (intros; omega)
   simp only [sl,cv,go_sem]
   refine hK _ ?_
   first
    | (rw [mH]; rfl)
    | (rw [dx]; subst gv; unfold wv; rw [← ht]; rfl)
  ·have h1 : 1 ≤ t.size := yq (e := ⟨#[]⟩) rfl (by rw [IY]; rfl)
   obtain ⟨IX, kS⟩ := eQ (s := t) (i := (0 : Int).toNat) (by omega)
   have bY := gE (P := Tryz.prog) t oQ .i64 (0) (by omega) (c := IX) kS
   have fU : gx t 0 = IX.toNat := gp kS
   simp only [bY,sl,cv,go_sem]
   refine aV (fun C5 => ?_) (fun C5 => ?_)
   ·have mH : mI s = false := by rw [LC]; simp_all [oD] <;> (intros; omega)
    simp only [bY,sl,cv,go_sem]
    refine hK _ ?_
    first
     | (rw [mH]; rfl)
     | (rw [dx]; subst gv; unfold wv; rw [← ht]; rfl)
   ·simp only [bY,sl,cv,go_sem]
    refine aV (fun QI => ?_) (fun QI => ?_)
    ·simp only [bY,sl,cv,go_sem]
     refine aV (fun QJ => ?_) (fun QJ => ?_)
     ·have mH : mI s = false := by rw [LC]; simp_all [oD] <;> (intros; omega)
      simp only [bY,sl,cv,go_sem]
      refine hK _ ?_
      first
       | (rw [mH]; rfl)
       | (rw [dx]; subst gv; unfold wv; rw [← ht]; rfl)
     ·simp only [bY,sl,cv,go_sem]
      refine cF (u0 198 mM qG t (by have := of_decide_eq_false C5; omega)) ?_
      rintro _ rfl
      simp only [bY,sl,cv,go_sem]
      refine aV (fun C6 => ?_) (fun C6 => ?_)
      ·have mH : mI s = false := by rw [LC]; simp_all [oD] <;> (intros; omega)
       simp only [bY,sl,cv,go_sem]
       refine hK _ ?_
       first
        | (rw [mH]; rfl)
        | (rw [dx]; subst gv; unfold wv; rw [← ht]; rfl)
      ·have dx : mI s = true := by rw [LC]; simp_all [oD] <;> (intros; omega)
       have FN : oD t = true := by rw [LC] at dx; simp at dx; exact dx.2
       have Uw : lf mM t = true := by unfold oD at FN; simp only [Bool.and_eq_true] at FN; exact FN.2
       have h3 : t.size ≤ 3 := by unfold oD at FN; simp only [Bool.and_eq_true,decide_eq_true_eq] at FN; exact FN.1.1.2
       simp only [bY,sl,cv,go_sem]
       refine eA tt_ok [] [40,5] 0 [0,2,3,37,39] (fun vs => ((t.size : Int) - Go.Eng.intOf (vs.headD .undef)).toNat) (fun vs => ∃ i : Nat, vs = [num i, num (lO t i)] ∧ i ≤ t.size) (by omega) (by simp only [bY,sl,cv,go_sem]) (⟨0, rfl, Nat.zero_le _⟩) fun vs hI Z1 cJ => ?_
       obtain ⟨i, rfl, hi⟩ := hI
       simp only [bY,sl,cv,go_sem]
       refine aV (fun C7 => ?_) (fun C7 => ?_)
       ·have aZ : i < t.size := by simpa using C7
        have hw := aU i (by omega)
        obtain ⟨c, C1⟩ := eQ (s := t) (i := i) aZ
        have AA := gE (P := Tryz.prog) t oQ .i64 (i : Int) (by omega) (c := c) (show t[((i : Nat) : Int).toNat]? = some c from C1)
        have Ux := u1 Uw C1
        unfold mM at Ux
        simp only [Bool.and_eq_true,decide_eq_true_eq] at Ux
        obtain ⟨Y4, Pp⟩ := IW Uw h3 hi
        have hu : IntKind.u8.wrap ((c.toNat : Int) - 48) = (c.toNat : Int) - 48 := by have h := c.toNat_lt; simp only [IntKind.wrap,IntKind.bits,IntKind.signed]; simp; omega
        have IZ : IntKind.i64.wrap ((c.toNat : Int) - 48) = (c.toNat : Int) - 48 := IntWalk.i64_in _ (by omega)
        have I0 : IntKind.i64.wrap (10 * lO t i) = 10 * lO t i := IntWalk.i64_in _ (by omega)
        have AJ : IntKind.i64.wrap (10 * lO t i + ((c.toNat : Int) - 48)) = lO t (i + 1) := by rw [lO, gp C1]; exact IntWalk.i64_in _ (by omega)
        simp only [bY,hw,AA,hu,IZ,I0,AJ,sl,cv,go_sem]
        refine cJ _ (kB (by omega) (by simp only [bY,hw,AA,hu,IZ,I0,AJ,sl,cv,go_sem]) ?_ ?_) <;> simp only [dr,lk,reduceIte,zE]
        ·exact ⟨i + 1, rfl, aZ⟩
        ·simp only [Go.Eng.intOf,List.headD_cons]; omega
       ·have gv : i = t.size := Nat.le_antisymm hi (Nat.le_of_not_lt (by simpa using C7))
        simp only [bY,sl,cv,go_sem]
        refine hK _ ?_
        first
         | (rw [mH]; rfl)
         | (rw [dx]; subst gv; unfold wv; rw [← ht]; rfl)
    ·simp only [bY,sl,cv,go_sem]
     refine cF (u0 198 mM qG t (by have := of_decide_eq_false C5; omega)) ?_
     rintro _ rfl
     simp only [bY,sl,cv,go_sem]
     refine aV (fun C6 => ?_) (fun C6 => ?_)
     ·have mH : mI s = false := by rw [LC]; simp_all [oD] <;> (intros; omega)
      simp only [bY,sl,cv,go_sem]
      refine hK _ ?_
      first
       | (rw [mH]; rfl)
       | (rw [dx]; subst gv; unfold wv; rw [← ht]; rfl)
     ·have dx : mI s = true := by rw [LC]; simp_all [oD] <;> (intros; omega)
      have FN : oD t = true := by rw [LC] at dx; simp at dx; exact dx.2
      have Uw : lf mM t = true := by unfold oD at FN; simp only [Bool.and_eq_true] at FN; exact FN.2
      have h3 : t.size ≤ 3 := by unfold oD at FN; simp only [Bool.and_eq_true,decide_eq_true_eq] at FN; exact FN.1.1.2
      simp only [bY,sl,cv,go_sem]
      refine eA tt_ok [] [40,5] 0 [0,2,3,37,39] (fun vs => ((t.size : Int) - Go.Eng.intOf (vs.headD .undef)).toNat) (fun vs => ∃ i : Nat, vs = [num i, num (lO t i)] ∧ i ≤ t.size) (by omega) (by simp only [bY,sl,cv,go_sem]) (⟨0, rfl, Nat.zero_le _⟩) fun vs hI Z2 kT => ?_
      obtain ⟨i, rfl, hi⟩ := hI
      simp only [bY,sl,cv,go_sem]
      refine aV (fun C7 => ?_) (fun C7 => ?_)
      ·have aZ : i < t.size := by simpa using C7
       have hw := aU i (by omega)
       obtain ⟨c, C1⟩ := eQ (s := t) (i := i) aZ
       have AA := gE (P := Tryz.prog) t oQ .i64 (i : Int) (by omega) (c := c) (show t[((i : Nat) : Int).toNat]? = some c from C1)
       have Ux := u1 Uw C1
       unfold mM at Ux
       simp only [Bool.and_eq_true,decide_eq_true_eq] at Ux
       obtain ⟨Y4, Pp⟩ := IW Uw h3 hi
       have hu : IntKind.u8.wrap ((c.toNat : Int) - 48) = (c.toNat : Int) - 48 := by have h := c.toNat_lt; simp only [IntKind.wrap,IntKind.bits,IntKind.signed]; simp; omega
       have IZ : IntKind.i64.wrap ((c.toNat : Int) - 48) = (c.toNat : Int) - 48 := IntWalk.i64_in _ (by omega)
       have I0 : IntKind.i64.wrap (10 * lO t i) = 10 * lO t i := IntWalk.i64_in _ (by omega)
       have AJ : IntKind.i64.wrap (10 * lO t i + ((c.toNat : Int) - 48)) = lO t (i + 1) := by rw [lO, gp C1]; exact IntWalk.i64_in _ (by omega)
       simp only [bY,hw,AA,hu,IZ,I0,AJ,sl,cv,go_sem]
       refine kT _ (kB (by omega) (by simp only [bY,hw,AA,hu,IZ,I0,AJ,sl,cv,go_sem]) ?_ ?_) <;> simp only [dr,lk,reduceIte,zE]
       ·exact ⟨i + 1, rfl, aZ⟩
       ·simp only [Go.Eng.intOf,List.headD_cons]; omega
      ·have gv : i = t.size := Nat.le_antisymm hi (Nat.le_of_not_lt (by simpa using C7))
       simp only [bY,sl,cv,go_sem]
       refine hK _ ?_
       first
        | (rw [mH]; rfl)
        | (rw [dx]; subst gv; unfold wv; rw [← ht]; rfl)
def AK (s : ByteArray) : ByteArray := (pieces s).getLast?.getD ⟨#[]⟩
def fM (s : ByteArray) : Bool := mI (AK s) && decide (s.size ≤ 64) && decide (2 ≤ (pieces s).length) && (pieces s).all AI
def mh (s : ByteArray) : Int := if fM s = true then wv (AK s) else 0
def lP (s : ByteArray) : Int := if fM s = true then 0 else 4
theorem FO (s : ByteArray) : (pieces s).length ≤ s.size + 1 := by
 rw [lh]
 have := Lib.countB_le ⟨#[47]⟩ (by decide) s.size s (Nat.le_refl _)
 omega
theorem I1 {s z : ByteArray} (h : (pieces s)[(pieces s).length - 1]? = some z) : AK s = z := by
 unfold AK
 rw [List.getLast?_eq_getElem?, h]; rfl
theorem QK {α : Type} {q : α → Bool} {l : List α} (h : ∀ j < l.length, ∀ x, l[j]? = some x → q x = true) : l.all q = true := by
 rw [List.all_eq_true]
 intro x hx
 obtain ⟨j, hj⟩ := List.mem_iff_getElem?.1 hx
 exact h j (List.getElem?_eq_some_iff.1 hj).1 x hj
theorem I2 {α : Type} {q : α → Bool} {l : List α} {i : Nat} {x : α} (h : l[i]? = some x) (hq : q x = false) : l.all q = false := by
 cases ha : l.all q with
 | false => rfl
 | true => have := List.all_eq_true.1 ha x (List.mem_of_getElem? h); rw [hq] at this; cases this
theorem I3 (hG : aA.g = some 1) (s : ByteArray) (hs : s.size ≤ 1048576) : ∃ r_, (fun w => w = .cC [num (mh s), num (lP s)]) r_ ∧ aT Tryz.prog 138 [str s] r_ := by
 refine gG tt_ok [] 49 [.tmp 2, .tmp 3] (fn := Tryz.f138) Tryz.func138 rfl Tryz.call138 ⟨rfl, rfl, by simp⟩ fun K hK => ?_
 have oQ : Tryz.prog.underlying 9 = some .string := by kernel_rfl
 have sl : ∀ (a : ByteArray) (ty : TypeId), ib Tryz.prog (Builtin.len_ #[9] ty) [.sc (.string a)] = some (num a.size) := fun a ty => iF (P := Tryz.prog) (tt := tt) (T := 9) a oQ ty
 simp only [sl,List.length_map,go_sem]
 refine cF (⟨_, rfl, IU hG s (by omega)⟩) ?_
 rintro _ rfl
 obtain ⟨P, hP⟩ : ∃ P, P = pieces s := ⟨_, rfl⟩
 have hPl := FO s
 have hP1 := lh s
 rw [← hP]
 rw [← hP] at hPl hP1
 obtain ⟨z, hz⟩ : ∃ z, P[P.length - 1]? = some z := ⟨_, List.getElem?_eq_getElem (by omega)⟩
 have B4 : AK s = z := I1 (by rw [← hP]; exact hz)
 have eM : IntKind.i64.wrap ((P.length : Int) - 1) = ((P.length - 1 : Nat) : Int) := oP _ _ (by omega) (by omega)
 simp only [List.getElem?_map,hz,eM,sl,List.length_map,go_sem]
 refine cF (C4 hG z) ?_
 rintro _ rfl
 simp only [List.getElem?_map,hz,eM,sl,List.length_map,go_sem]
 refine aV (fun I4 => ?_) (fun I4 => ?_)
 ·have mH : fM s = false := by unfold fM; rw [B4, ← hP]; simp_all <;> (intros; omega)
  simp only [List.getElem?_map,hz,eM,sl,List.length_map,go_sem]
  refine hK _ ?_
  first
   | (unfold mh lP; rw [mH]; rfl)
   | (unfold mh lP; rw [dx, B4]; simp_all; done)
   | (unfold mh lP; rw [dx, B4]; simp_all; rfl)
 ·simp only [List.getElem?_map,hz,eM,sl,List.length_map,go_sem]
  refine aV (fun I5 => ?_) (fun I5 => ?_)
  ·have mH : fM s = false := by unfold fM; rw [B4, ← hP]; simp_all <;> (intros; omega)
   simp only [List.getElem?_map,hz,eM,sl,List.length_map,go_sem]
   refine hK _ ?_
   first
    | (unfold mh lP; rw [mH]; rfl)
    | (unfold mh lP; rw [dx, B4]; simp_all; done)
    | (unfold mh lP; rw [dx, B4]; simp_all; rfl)
  ·simp only [List.getElem?_map,hz,eM,sl,List.length_map,go_sem]
   refine aV (fun QL => ?_) (fun QL => ?_)
   ·have mH : fM s = false := by unfold fM; rw [B4, ← hP]; simp_all <;> (intros; omega)
    simp only [List.getElem?_map,hz,eM,sl,List.length_map,go_sem]
    refine hK _ ?_
    first
     | (unfold mh lP; rw [mH]; rfl)
     | (unfold mh lP; rw [dx, B4]; simp_all; done)
     | (unfold mh lP; rw [dx, B4]; simp_all; rfl)
   ·simp only [List.getElem?_map,hz,eM,sl,List.length_map,go_sem]
    refine eA tt_ok [] [35] 0 [5,32,33,34] (fun vs => ((P.length : Int) - Go.Eng.intOf (vs.headD .undef)).toNat) (fun vs => ∃ i : Nat, vs = [num i] ∧ i ≤ P.length ∧ ∀ j < i, ∀ x, P[j]? = some x → AI x = true) (by omega) (by simp only [List.getElem?_map,hz,eM,sl,List.length_map,go_sem]) (⟨0, rfl, Nat.zero_le _, fun j hj => absurd hj (Nat.not_lt_zero j)⟩) fun vs hI Z1 cJ => ?_
    obtain ⟨i, rfl, hi, cK⟩ := hI
    simp only [List.getElem?_map,hz,eM,sl,List.length_map,go_sem]
    refine aV (fun r7 => ?_) (fun r7 => ?_)
    ·have aZ : i < P.length := by simpa using r7
     have hw := aU i (by omega)
     obtain ⟨x, hx⟩ : ∃ x, P[i]? = some x := ⟨_, List.getElem?_eq_getElem aZ⟩
     simp only [List.getElem?_map,hz,eM,hw,hx,sl,List.length_map,go_sem]
     refine cF (eR hG x) ?_
     rintro _ rfl
     simp only [List.getElem?_map,hz,eM,hw,hx,sl,List.length_map,go_sem]
     refine aV (fun w7 => ?_) (fun w7 => ?_)
     ·have mH : fM s = false := by
       have ha : P.all AI = false := I2 hx (by unfold AI; simp_all)
       unfold fM; rw [← hP, ha]; simp
      simp only [List.getElem?_map,hz,eM,hw,hx,sl,List.length_map,go_sem]
      refine hK _ ?_
      first
       | (unfold mh lP; rw [mH]; rfl)
       | (unfold mh lP; rw [dx, B4]; simp_all; done)
       | (unfold mh lP; rw [dx, B4]; simp_all; rfl)
     ·have hnm : bM x = true := by simpa using w7
      simp only [List.getElem?_map,hz,eM,hw,hx,sl,List.length_map,go_sem]
      refine cF (u0 197 IN Up x (by have h := hnm; unfold bM at h; simp only [Bool.and_eq_true,decide_eq_true_eq] at h; omega)) ?_
      rintro _ rfl
      simp only [List.getElem?_map,hz,eM,hw,hx,sl,List.length_map,go_sem]
      refine aV (fun ZX => ?_) (fun ZX => ?_)
      ·have mH : fM s = false := by
        have ha : P.all AI = false := I2 hx (by unfold AI; simp_all)
        unfold fM; rw [← hP, ha]; simp
       simp only [List.getElem?_map,hz,eM,hw,hx,sl,List.length_map,go_sem]
       refine hK _ ?_
       first
        | (unfold mh lP; rw [mH]; rfl)
        | (unfold mh lP; rw [dx, B4]; simp_all; done)
        | (unfold mh lP; rw [dx, B4]; simp_all; rfl)
      ·simp only [List.getElem?_map,hz,eM,hw,hx,sl,List.length_map,go_sem]
       refine cJ _ (kB (by omega) (by simp only [List.getElem?_map,hz,eM,hw,hx,sl,List.length_map,go_sem]) ?_ ?_) <;> simp only [dr,lk,reduceIte,zE]
       ·refine ⟨i + 1, rfl, aZ, fun j hj => ?_⟩
        rcases Nat.lt_or_ge j i with h | h
        ·exact cK j h
        ·obtain rfl : j = i := by omega
         intro y hy
         rw [hx] at hy; cases hy; unfold AI; simp_all
       ·simp only [Go.Eng.intOf,List.headD_cons]; omega
    ·have gv : ¬ i < P.length := by simpa using r7
     have dx : fM s = true := by
      have ha : P.all AI = true := QK fun j hj => cK j (by omega)
      unfold fM; rw [B4, ← hP, ha]; simp_all <;> omega
     simp only [List.getElem?_map,hz,eM,sl,List.length_map,go_sem]
     refine hK _ ?_
     first
      | (unfold mh lP; rw [mH]; rfl)
      | (unfold mh lP; rw [dx, B4]; simp_all; done)
      | (unfold mh lP; rw [dx, B4]; simp_all; rfl)
theorem ir (hG : aA.g = some 1) (s : ByteArray) (hs : s.size ≤ 1048576) : ∃ r_, (fun w => w = bl (fM s)) r_ ∧ aT Tryz.prog 79 [str s] r_ := by
 refine gG tt_ok [] 12 [.tmp 2] (fn := Tryz.f79) Tryz.func79 rfl Tryz.call79 ⟨rfl, rfl, by simp⟩ fun K hK => ?_
 simp only [go_sem]
 refine cF (I3 hG s hs) ?_
 rintro _ rfl
 simp only [go_sem]
 exact hK _ (congrArg bl (by unfold lP; by_cases h : fM s = true <;> simp [h]))
end Go.Proofs.YtnboooapeopjoaaGreatDoor
end

section
namespace Go.Proofs.YtnboooapeopjoaaGreatDoor
open Go.Eng
def Uy : List (List UInt8) := [[97,110,100], [97,110,121], [97,115], [98,111,111,108], [100,101,112,114,101,99,97,116,101,100], [101,108,115,101], [101,120,112,111,114,116], [102,97,108,115,101], [102,110], [102,111,108,100], [102,114,111,109], [105,102], [105,109,112,111,114,116], [105,110], [105,110,116], [108,101,110,103,116,104], [108,101,116], [108,105,115,116], [109,97,116,99,104], [109,111,100,117,108,101], [110,111,110,101], [110,111,116], [111,114], [116,101,120,116], [116,104,101,110], [116,114,117,101], [116,121,112,101], [117,115,101]]
def QM : List ByteArray := Uy.map fun l => ⟨l.toArray⟩
theorem ML : Uy.all (fun k => Lib.contains oR.data.toList (32 :: k ++ [32])) = true := by kernel_rfl
def tw (l : List UInt8) : List UInt8 := l.takeWhile (· != 32)
theorem Uz : (List.range 200).all (fun i => !((oR.data.toList.drop i).head? == some 32) || ((oR.data.toList.drop (i + 1)).isEmpty || Uy.contains (tw (oR.data.toList.drop (i + 1))))) = true := by kernel_rfl
theorem QN {k r : List UInt8} (h : ∀ b ∈ k, b ≠ 32) : tw (k ++ 32 :: r) = k := by
 induction k with
 | nil => rfl
 | cons b k ih =>
  have hb : (b != 32) = true := by simpa using h b (List.mem_cons_self ..)
  show List.takeWhile _ (b :: (k ++ 32 :: r)) = _
  rw [List.takeWhile_cons, hb]
  simp only [if_true]
  exact congrArg (b :: ·) (ih fun c hc => h c (List.mem_cons_of_mem _ hc))
theorem MM : Nat.ble oR.data.toList.length 200 = true := by kernel_rfl
theorem MN (s : ByteArray) (h : lf ld s = true) : Yb s = QM.any fun k => decide (k = s) := by
 have mH : ∀ b ∈ nF s, b ≠ 32 := fun b hb e => by
  have h1 := List.all_eq_true.1 h b hb
  rw [e] at h1; revert h1; decide
 have hd : (⟨#[32]⟩ ++ s ++ ⟨#[32]⟩ : ByteArray).data.toList = 32 :: nF s ++ [32] := by
  rw [ByteArray.data_append, ByteArray.data_append]
  simp [nF]
 have hm : s ∈ QM ↔ nF s ∈ Uy := by
  unfold QM
  rw [List.mem_map]
  refine ⟨fun ⟨l, hl, e⟩ => by rw [← e]; simpa [nF] using hl, fun h => ⟨_, h, ?_⟩⟩
  obtain ⟨⟨l⟩⟩ := s; rfl
 have Sb : (QM.any fun k => decide (k = s)) = true ↔ nF s ∈ Uy := by
  rw [List.any_eq_true, ← hm]
  exact ⟨fun ⟨k, hk, e⟩ => by rw [← of_decide_eq_true e]; exact hk, fun h => ⟨s, h, by simp⟩⟩
 rw [Bool.eq_iff_iff, Sb]
 unfold Yb
 rw [hd]
 constructor
 ·intro hc
  unfold Lib.contains at hc
  rw [decide_eq_true_eq] at hc
  rcases Lib.index_spec oR.data.toList (32 :: nF s ++ [32]) with ⟨h1, _⟩ | ⟨i, h1, h2, h3, _⟩
  ·omega
  unfold Lib.occAt at h3
  rw [List.isPrefixOf_iff_prefix] at h3
  obtain ⟨r, hr⟩ := h3
  have hi : i < 200 := by
   have hl := congrArg List.length hr
   have := Nat.le_of_ble_eq_true MM
   simp only [List.length_append,List.length_cons,List.length_drop] at hl; omega
  have h4 := List.all_eq_true.1 Uz i (List.mem_range.2 hi)
  have e1 : oR.data.toList.drop (i + 1) = nF s ++ 32 :: r := by
   have : oR.data.toList.drop (i + 1) = (oR.data.toList.drop i).drop 1 := by rw [List.drop_drop]
   rw [this, ← hr]; simp
  rw [← hr, e1, QN mH] at h4
  simpa using h4
 ·intro hc
  exact List.all_eq_true.1 ML _ hc
theorem nH (s : ByteArray) : bM s = (decide (1 ≤ s.size) && decide (s.size ≤ 32) && wu (gx s 0) && lf ld s && !(QM.any fun k => decide (k = s))) := by
 unfold bM
 cases h : lf ld s with
 | false => simp
 | true => rw [MN s h]
end Go.Proofs.YtnboooapeopjoaaGreatDoor
end

section
namespace Go.Proofs.YtnboooapeopjoaaGreatDoor
open Go.Eng
open Nat renaming reduceAdd → zA, reduceLT → zB, reduceLeDiff → zC, reduceMul → zD, reduceEqDiff → zE, reduceSub → zF
variable [aA]
set_option maxHeartbeats 4000000
set_option maxRecDepth 100000
theorem yv  : ∃ r_, (fun w => w = .slice (QM.map str)) r_ ∧ aT Tryz.prog 61 [] r_ := by
 refine gG tt_ok [] 2 [.tmp 0] (fn := Tryz.f61) Tryz.func61 rfl Tryz.call61 ⟨rfl, rfl, by simp⟩ fun K hK => ?_
 simp only [go_sem]
 exact hK _ rfl
theorem C8 (l : List ByteArray) (s : ByteArray) (hl : l.length ≤ 1048576) : ∃ r_, (fun w => w = bl (l.any fun k => decide (k = s))) r_ ∧ aT Tryz.prog 60 [.slice (l.map str), str s] r_ := by
 refine gG tt_ok [] 18 [.tmp 4] (fn := Tryz.f60) Tryz.func60 rfl Tryz.call60 ⟨rfl, rfl, by simp⟩ fun K hK => ?_
 simp only [List.length_map,go_sem]
 refine eA tt_ok [] [5] 0 [0,1] (fun vs => ((l.length : Int) - Go.Eng.intOf (vs.headD .undef)).toNat) (fun vs => ∃ i : Nat, vs = [num i] ∧ i ≤ l.length ∧ ∀ j < i, ∀ x, l[j]? = some x → decide (x = s) = false) (by omega) (by simp only [List.length_map,go_sem]) (⟨0, rfl, Nat.zero_le _, fun j hj => absurd hj (Nat.not_lt_zero j)⟩) fun vs hI Z1 cJ => ?_
 obtain ⟨i, rfl, hi, cK⟩ := hI
 simp only [List.length_map,go_sem]
 refine aV (fun jh => ?_) (fun jh => ?_)
 ·have aZ : i < l.length := by simpa using jh
  have hw := aU i (by omega)
  obtain ⟨x, hx⟩ : ∃ x, l[i]? = some x := ⟨_, List.getElem?_eq_getElem aZ⟩
  simp only [hw,List.getElem?_map,hx,List.length_map,go_sem]
  refine aV (fun C9 => ?_) (fun C9 => ?_)
  ·have ba : true = l.any fun k => decide (k = s) := (r6 hx (by simpa [ag] using C9)).symm
   simp only [hw,List.getElem?_map,hx,List.length_map,go_sem]
   exact hK _ (congrArg bl ba)
  ·simp only [hw,List.getElem?_map,hx,List.length_map,go_sem]
   refine cJ _ (kB (by omega) (by simp only [hw,List.getElem?_map,hx,List.length_map,go_sem]) ?_ ?_) <;> simp only [dr,lk,reduceIte,zE]
   ·refine ⟨i + 1, rfl, aZ, fun j hj => ?_⟩
    rcases Nat.lt_or_ge j i with h | h
    ·exact cK j h
    ·obtain rfl : j = i := by omega
     intro y hy
     rw [hx] at hy; cases hy; simpa [ag] using C9
   ·simp only [Go.Eng.intOf,List.headD_cons]; omega
 ·have gv : ¬ i < l.length := by simpa using jh
  have ba : false = l.any fun k => decide (k = s) := (any_none fun j hj => cK j (by omega)).symm
  simp only [List.length_map,go_sem]
  exact hK _ (congrArg bl ba)
theorem mi (s : ByteArray) : ∃ r_, (fun w => w = bl (bM s)) r_ ∧ aT Tryz.prog 25 [str s] r_ := by
 refine gG tt_ok [] 26 [.tmp 2] (fn := Tryz.f25) Tryz.func25 rfl Tryz.call25 ⟨rfl, rfl, by simp⟩ fun K hK => ?_
 have oQ : Tryz.prog.underlying 9 = some .string := by kernel_rfl
 have sl : ∀ (a : ByteArray) (ty : TypeId), ib Tryz.prog (Builtin.len_ #[9] ty) [.sc (.string a)] = some (num a.size) := fun a ty => iF (P := Tryz.prog) (tt := tt) (T := 9) a oQ ty
 simp only [sl,go_sem]
 refine aV (fun dM => ?_) (fun dM => ?_)
 ·simp only [sl,go_sem]
  refine aV (fun oT => ?_) (fun oT => ?_)
  ·obtain ⟨v0, kS⟩ := eQ (s := s) (i := 0) (by have := of_decide_eq_true dM; omega)
   have bY := gE (P := Tryz.prog) s oQ .i64 (0 : Int) (by omega) (c := v0) (show s[((0 : Nat) : Int).toNat]? = some v0 from kS)
   have fU : gx s 0 = v0.toNat := gp kS
   simp only [bY,sl,go_sem]
   refine cF (w5 _) ?_
   rintro _ rfl
   simp only [bY,sl,go_sem]
   refine aV (fun ml => ?_) (fun ml => ?_)
   ·simp only [bY,sl,go_sem]
    refine cF (IQ s (by have := of_decide_eq_true oT; omega)) ?_
    rintro _ rfl
    simp only [bY,sl,go_sem]
    refine aV (fun QO => ?_) (fun QO => ?_)
    ·simp only [bY,sl,go_sem]
     refine cF (yv) ?_
     rintro _ rfl
     simp only [bY,sl,go_sem]
     refine cF (C8 QM s (by decide)) ?_
     rintro _ rfl
     simp only [bY,sl,go_sem]
     exact hK _ (congrArg bl (by rw [nH]; simp_all <;> (intros; omega)))
    ·simp only [bY,sl,go_sem]
     exact hK _ (congrArg bl (by rw [nH]; simp_all <;> (intros; omega)))
   ·simp only [bY,sl,go_sem]
    exact hK _ (congrArg bl (by rw [nH]; simp_all <;> (intros; omega)))
  ·simp only [sl,go_sem]
   exact hK _ (congrArg bl (by rw [nH]; simp_all <;> (intros; omega)))
 ·simp only [sl,go_sem]
  exact hK _ (congrArg bl (by rw [nH]; simp_all <;> (intros; omega)))
end Go.Proofs.YtnboooapeopjoaaGreatDoor
end

section
namespace Go.Proofs.YtnboooapeopjoaaGreatDoor
open Go.Eng
variable [aA]
set_option maxHeartbeats 4000000
set_option maxRecDepth 100000

def AL (s : ByteArray) : Bool := lg s || decide (s.size = 2) && decide (gx s 0 = 35) && decide (48 ≤ gx s 1) && decide (gx s 1 ≤ 55)
def fg (s : ByteArray) : Bool := decide (s = ⟨#[]⟩)
def yw (s : ByteArray) : Bool := fg s || bM s || fM s
theorem gr (s : ByteArray) : ∃ r_, (fun w => w = bl (lg s)) r_ ∧ aT Tryz.prog 125 [str s] r_ := by
 refine gG tt_ok [] 19 [.tmp 2] (fn := Tryz.f125) Tryz.func125 rfl Tryz.call125 ⟨rfl, rfl, by simp⟩ fun K hK => ?_
 have oQ : Tryz.prog.underlying 9 = some .string := by kernel_rfl
 have sl : ∀ (a : ByteArray) (ty : TypeId), ib Tryz.prog (Builtin.len_ #[9] ty) [.sc (.string a)] = some (num a.size) := fun a ty => iF (P := Tryz.prog) (tt := tt) (T := 9) a oQ ty
 simp only [sl,go_sem]
 refine aV (fun dQ => ?_) (fun dQ => ?_)
 ·have h1 := yq rfl dQ
  obtain ⟨IX, kS⟩ := eQ (s := s) (i := (0 : Int).toNat) (by omega)
  have bY := gE (P := Tryz.prog) s oQ .i64 (0) (by omega) (c := IX) kS
  have fU : gx s 0 = IX.toNat := gp kS
  simp only [bY,sl,go_sem]
  refine aV (fun oS => ?_) (fun oS => ?_)
  ·simp only [bY,sl,go_sem]
   refine cF (uZ _) ?_
   rintro _ rfl
   simp only [bY,sl,go_sem]
   refine aV (fun u3 => ?_) (fun u3 => ?_)
   ·simp only [bY,sl,go_sem]
    refine cF (u0 170 ld EG s (by have := of_decide_eq_true oS; omega)) ?_
    rintro _ rfl
    simp only [bY,sl,go_sem]
    exact hK _ (congrArg bl (by simp_all [lg] <;> (intros; omega)))
   ·simp only [bY,sl,go_sem]
    exact hK _ (congrArg bl (by simp_all [lg] <;> (intros; omega)))
  ·simp only [bY,sl,go_sem]
   exact hK _ (congrArg bl (by simp_all [lg] <;> (intros; omega)))
 ·have h1 := uX rfl dQ
  simp only [sl,go_sem]
  exact hK _ (congrArg bl (by simp_all [lg] <;> (intros; omega)))
theorem AM (s : ByteArray) : ∃ r_, (fun w => w = bl (AL s)) r_ ∧ aT Tryz.prog 237 [str s] r_ := by
 refine gG tt_ok [] 25 [.tmp 2] (fn := Tryz.f237) Tryz.func237 rfl Tryz.call237 ⟨rfl, rfl, by simp⟩ fun K hK => ?_
 have oQ : Tryz.prog.underlying 9 = some .string := by kernel_rfl
 have sl : ∀ (a : ByteArray) (ty : TypeId), ib Tryz.prog (Builtin.len_ #[9] ty) [.sc (.string a)] = some (num a.size) := fun a ty => iF (P := Tryz.prog) (tt := tt) (T := 9) a oQ ty
 simp only [sl,go_sem]
 refine cF (gr s) ?_
 rintro _ rfl
 simp only [sl,go_sem]
 refine aV (fun dQ => ?_) (fun dQ => ?_)
 ·simp only [sl,go_sem]
  exact hK _ (congrArg bl (by simp_all [AL] <;> (intros; omega)))
 ·simp only [sl,go_sem]
  refine aV (fun qH => ?_) (fun qH => ?_)
  ·have hz2 : s.size = 2 := by have := of_decide_eq_true qH; omega
   obtain ⟨IX, kS⟩ := eQ (s := s) (i := (0 : Int).toNat) (by omega)
   have bY := gE (P := Tryz.prog) s oQ .i64 (0) (by omega) (c := IX) kS
   obtain ⟨cv1, Ot⟩ := eQ (s := s) (i := (1 : Int).toNat) (by omega)
   have AN := gE (P := Tryz.prog) s oQ .i64 (1) (by omega) (c := cv1) Ot
   have fU : gx s 0 = IX.toNat := gp kS
   have jr : gx s 1 = cv1.toNat := gp Ot
   simp only [bY,AN,sl,go_sem]
   refine aV (fun u4 => ?_) (fun u4 => ?_)
   ·simp only [bY,AN,sl,go_sem]
    refine aV (fun C3 => ?_) (fun C3 => ?_)
    ·simp only [bY,AN,sl,go_sem]
     exact hK _ (congrArg bl (by simp_all [AL] <;> (intros; omega)))
    ·simp only [bY,AN,sl,go_sem]
     exact hK _ (congrArg bl (by simp_all [AL] <;> (intros; omega)))
   ·simp only [bY,AN,sl,go_sem]
    exact hK _ (congrArg bl (by simp_all [AL] <;> (intros; omega)))
  ·have hz2 : s.size ≠ 2 := by have := of_decide_eq_false qH; omega
   simp only [sl,go_sem]
   exact hK _ (congrArg bl (by simp_all [AL] <;> (intros; omega)))
theorem oi (hG : aA.g = some 1) (s : ByteArray) (hs : s.size ≤ 1048576) : ∃ r_, (fun w => w = bl (yw s)) r_ ∧ aT Tryz.prog 187 [str s] r_ := by
 refine gG tt_ok [] 13 [.tmp 2] (fn := Tryz.f187) Tryz.func187 rfl Tryz.call187 ⟨rfl, rfl, by simp⟩ fun K hK => ?_
 simp only [ag,go_sem]
 refine aV (fun dQ => ?_) (fun dQ => ?_)
 ·simp only [ag,go_sem]
  exact hK _ (congrArg bl (by simp_all [yw, fg]))
 ·simp only [ag,go_sem]
  refine cF (eR hG s) ?_
  rintro _ rfl
  simp only [ag,go_sem]
  refine aV (fun qH => ?_) (fun qH => ?_)
  ·simp only [ag,go_sem]
   exact hK _ (congrArg bl (by simp_all [yw, fg]))
  ·simp only [ag,go_sem]
   refine cF (ir hG s hs) ?_
   rintro _ rfl
   simp only [ag,go_sem]
   exact hK _ (congrArg bl (by simp_all [yw, fg]))
end Go.Proofs.YtnboooapeopjoaaGreatDoor
end

section
namespace Go.Proofs.YtnboooapeopjoaaGreatDoor
open Go.Eng
variable [aA]
mutual
inductive Ty where
 | mk (kind : Int) (mod name : ByteArray) (args : List Ty) (aJ : List Fd)
inductive Fd where
 | mk (name : ByteArray) (ty : Ty) (opt : Bool)
end
structure Lb where
 name : ByteArray
 var : ByteArray
 ty : Ty
 opt : Bool
inductive Ex where
 | mk (kind : Int) (mod name text : ByteArray) (num : Int) (types : List Ty) (labels : List Lb) (kids : List Ex)
structure Pm where
 name : ByteArray
 dn : Int
 bound : Ty
structure Im where
 path : ByteArray
 alias : ByteArray
structure Dc where
 kind : Int
 name : ByteArray
 exported : Bool
 deprecated : Bool
 note : ByteArray
 params : List Pm
 lower : Ty
 upper : Ty
 type : Ty
 expr : Ex
 mod : ByteArray
 target : ByteArray
structure Md where
 path : ByteArray
 imports : List Im
 decls : List Dc

mutual
def bg : Ty → V
 | .mk k m n ts fs => .agg [.sc (.int .i64 k), .sc (.string m), .sc (.string n), .slice (aE ts), .slice (a6 fs)]
def aE : List Ty → List V
 | [] => []
 | t :: r => bg t :: aE r
def jA : Fd → V
 | .mk n (.mk k m n' ts fs) o => .agg [.sc (.string n), .sc (.int .i64 k), .sc (.string m), .sc (.string n'), .slice (aE ts), .slice (a6 fs), .sc (.bool o)]
def a6 : List Fd → List V
 | [] => []
 | f :: r => jA f :: a6 r
end
def Fd.ty : Fd → Ty | .mk _ t _ => t
def Fd.name : Fd → ByteArray | .mk n _ _ => n
def Fd.opt : Fd → Bool | .mk _ _ o => o
def Ty.aJ : Ty → List Fd | .mk _ _ _ _ fs => fs
def Ty.args : Ty → List Ty | .mk _ _ _ ts _ => ts
def Ty.kind : Ty → Int | .mk k _ _ _ _ => k
def Ty.mod : Ty → ByteArray | .mk _ m _ _ _ => m
def Ty.name : Ty → ByteArray | .mk _ _ n _ _ => n
def Ty.parts (t : Ty) : List Ty := t.args ++ t.aJ.map Fd.ty
def aj (t : Ty) : List V := [.sc (.int .i64 t.kind), .sc (.string t.mod), .sc (.string t.name), .slice (aE t.args), .slice (a6 t.aJ)]
theorem ay (t : Ty) : bg t = .agg (aj t) := by obtain ⟨k, m, n, ts, fs⟩ := t; rfl
theorem cg (ts : List Ty) : aE ts = ts.map bg := by induction ts with | nil => rfl | cons t r ih => simp [aE, ih]
theorem gX (ts : List Fd) : a6 ts = ts.map jA := by induction ts with | nil => rfl | cons t r ih => simp [a6, ih]
theorem bE (f : Fd) : jA f = .agg ([str f.name] ++ aj f.ty ++ [bl f.opt]) := by obtain ⟨n', ⟨k, m, n, ts, fs⟩, o⟩ := f; rfl
def aX (l : Lb) : V := .agg ([str l.name, str l.var] ++ aj l.ty ++ [bl l.opt])
mutual
def bT : Ex → V
 | .mk k m n t i ts ls ks => .agg [.sc (.int .i64 k), .sc (.string m), .sc (.string n), .sc (.string t), .sc (.int .i64 i), .slice (aE ts), .slice (ls.map aX), .slice (bL ks)]
def bL : List Ex → List V
 | [] => []
 | e :: r => bT e :: bL r
end
def Ex.kind : Ex → Int | .mk k _ _ _ _ _ _ _ => k
def Ex.mod : Ex → ByteArray | .mk _ m _ _ _ _ _ _ => m
def Ex.name : Ex → ByteArray | .mk _ _ n _ _ _ _ _ => n
def Ex.text : Ex → ByteArray | .mk _ _ _ t _ _ _ _ => t
def Ex.num : Ex → Int | .mk _ _ _ _ i _ _ _ => i
def Ex.types : Ex → List Ty | .mk _ _ _ _ _ ts _ _ => ts
def Ex.labels : Ex → List Lb | .mk _ _ _ _ _ _ ls _ => ls
def Ex.kids : Ex → List Ex | .mk _ _ _ _ _ _ _ ks => ks
theorem kl (ts : List Ex) : bL ts = ts.map bT := by induction ts with | nil => rfl | cons t r ih => simp [bL, ih]
def aq (e : Ex) : List V := [.sc (.int .i64 e.kind), .sc (.string e.mod), .sc (.string e.name), .sc (.string e.text), .sc (.int .i64 e.num), .slice (aE e.types), .slice (e.labels.map aX), .slice (bL e.kids)]
theorem aI (e : Ex) : bT e = .agg (aq e) := by obtain ⟨k, m, n, t, i, ts, ls, ks⟩ := e; rfl
def cb (p : Pm) : V := .agg ([str p.name, num p.dn] ++ aj p.bound)
def a7 (i : Im) : V := .agg [str i.path, str i.alias]
def aB (d : Dc) : V := .agg ([num d.kind, str d.name, bl d.exported, bl d.deprecated, str d.note, .slice (d.params.map cb)] ++ aj d.lower ++ aj d.upper ++ aj d.type ++ aq d.expr ++ [str d.mod, str d.target])
def cM (m : Md) : V := .agg [str m.path, .slice (m.imports.map a7), .slice (m.decls.map aB)]
theorem FP (t : Ty) : (bg t).cells.length = 5 := by rw [ay]; rfl
theorem FQ (t : Fd) : (jA t).cells.length = 7 := by rw [bE]; rfl
theorem FR (e : Ex) : (bT e).cells.length = 8 := by rw [aI]; rfl
theorem km (ts : List Ty) (n : Nat) : cf (aE ts) n 5 = true := by
 rw [cg]; unfold cf; split
 ·rename_i h; simp at h; obtain ⟨t, -, rfl⟩ := h; simp [FP]
 ·rfl
theorem ab (ts : List Ty) : (aE ts).length = ts.length := by simp [cg]
theorem af (ts : List Fd) : (a6 ts).length = ts.length := by simp [gX]
theorem ae (ts : List Ex) : (bL ts).length = ts.length := by simp [kl]
theorem bt (ts : List Ty) (i : Nat) : (aE ts)[i]? = ts[i]?.map bg := by simp [cg]
theorem bJ (ts : List Fd) (i : Nat) : (a6 ts)[i]? = ts[i]?.map jA := by simp [gX]
theorem cX (ts : List Ex) (i : Nat) : (bL ts)[i]? = ts[i]?.map bT := by simp [kl]

mutual
def Ty.size : Ty → Nat
 | .mk _ _ _ ts fs => 1 + qJ ts + qK fs
def qJ : List Ty → Nat
 | [] => 0
 | t :: r => t.size + qJ r
def Fd.size : Fd → Nat
 | .mk _ (.mk _ _ _ ts fs) _ => 1 + qJ ts + qK fs
def qK : List Fd → Nat
 | [] => 0
 | f :: r => f.size + qK r
end
theorem Fd.MO (f : Fd) : f.size = f.ty.size := by obtain ⟨n', ⟨k, m, n, ts, fs⟩, o⟩ := f; rfl
theorem AO (ts : List Ty) : qJ ts = aO Ty.size ts := by induction ts with | nil => rfl | cons t r ih => simp [qJ, aO, ih]
theorem AP (ts : List Fd) : qK ts = aO (fun f => f.ty.size) ts := by induction ts with | nil => rfl | cons t r ih => simp [qK, aO, ih, Fd.MO]
theorem Ty.cE (t : Ty) : t.size = 1 + aO Ty.size t.parts := by
 obtain ⟨k, m, n, ts, fs⟩ := t
 simp only [Ty.size,Ty.parts,Ty.args,Ty.aJ,gj,rZ,AO,AP]; omega
theorem Ty.size_pos (t : Ty) : 0 < t.size := by rw [Ty.cE]; omega
theorem Ty.ew (t : Ty) : t.args.length + t.aJ.length < t.size := by
 have := bm Ty.size Ty.size_pos t.parts
 rw [Ty.cE]
 simp only [Ty.parts,List.length_append,List.length_map] at this
 simp only [Ty.parts]; omega
end Go.Proofs.YtnboooapeopjoaaGreatDoor
end

section
namespace Go.Proofs.YtnboooapeopjoaaGreatDoor
open Go.Eng
open Nat renaming reduceAdd → zA, reduceLT → zB, reduceLeDiff → zC, reduceMul → zD, reduceEqDiff → zE, reduceSub → zF
variable [aA]

theorem I6 (t : Ty) (hl : t.args.length + t.aJ.length ≤ 34359738368) : aT Tryz.prog 75 [bg t] (.slice (aE t.parts)) := by
 obtain ⟨k, m, n, ts, fs⟩ := t
 simp only [Ty.args,Ty.aJ] at hl
 have G3 : ts.length ≤ 34359738368 := by omega
 refine iS tt_ok (fn := Tryz.f75) Tryz.func75 rfl Tryz.call75 ?_
 simp only [ck,bA,Tryz.ntmps75,List.length_cons,List.length_nil,zA,zF,List.replicate_succ,List.replicate_zero]
 refine ai tt_ok fun K hK => ?_
 simp only [bg,go_sem]
 refine hK _ ?_
 refine ai tt_ok fun K hK => ?_
 simp only [km,ab,G3,go_sem]
 refine hK _ ?_
 refine aS ?_
 refine ai tt_ok fun K hK => ?_
 simp only [go_sem]
 refine hK _ ?_
 refine bf (cA (fun N st => ∃ (i b7 : Nat) (acc : List Ty), N = fs.length - i ∧ i ≤ fs.length ∧ acc = ts ++ (fs.take i).map Fd.ty ∧
  st = { fr := [bg (.mk k m n ts fs), .ptr 0 0, .undef, .ms 1 b7 0 acc.length, .sc (.int .i64 i)] ++ List.replicate 21 .undef, mem := [.box (bg (.mk k m n ts fs)).cells, .rows b7 5 (aE acc)] }) fs.length ?_ ?_)
 ·exact ⟨2, [true,true,false,true,true], by omega, by simp only [bc,au,aD,az,zB,kC], by simp only [bc,au,aD,az,zB,kC], 0, 1, ts, by omega, by omega, by simp, rfl⟩
 ·rintro N st ⟨i, b7, acc, rfl, hi, lQ, rfl⟩
  have Sp : acc.length ≤ 34359738367 ∨ i = fs.length := by
   rw [lQ]; simp; omega
  simp only [ck,List.replicate_succ,List.replicate_zero,bg,V.cells]
  refine aS ?_
  by_cases aZ : i < fs.length
  ·have hd := jf aZ
   have I7 : acc.length ≤ 34359738367 := by omega
   refine ai tt_ok fun K hK => ?_
   simp only [af,hd,go_sem]
   refine hK _ ?_
   refine aL rfl (bn ?_)
   refine aS (bf ?_)
   obtain ⟨f, hf⟩ : ∃ f, fs[i]? = some f := ⟨_, List.getElem?_eq_getElem aZ⟩
   have tC : (fs.take (i + 1)).map Fd.ty = (fs.take i).map Fd.ty ++ [f.ty] := by
    rw [List.take_add_one, hf]; simp
   obtain ⟨fnm, ⟨fk, fm, fn, ZY, ZZ⟩, fo⟩ := f
   refine aK tt_ok fun K hK => ?_
   simp only [bJ,hf,jA,ab,I7,go_sem]
   refine hK _ ?_
   refine aK tt_ok fun K hK => ?_
   simp only [go_sem]
   refine hK _ ?_
   refine ⟨fs.length - (i + 1), by omega, 2, [true,true,false,true,true], by omega, by simp only [bc,au,aD,az,zB,kC], by simp only [bc,au,aD,az,zB,kC], i + 1, b7 + 1, acc ++ [.mk fk fm fn ZY ZZ], rfl, aZ, by rw [lQ, tC]; simp [Fd.ty], ?_⟩
   have hw : IntKind.i64.wrap ((i : Int) + 1) = ((i + 1 : Nat) : Int) := aU i (by omega)
   rw [hw]
   simp [rp,bc, cg, bg]
  ·have hd := jg aZ
   refine ai tt_ok fun K hK => ?_
   simp only [af,hd,go_sem]
   refine hK _ ?_
   refine aL rfl (dy ?_)
   have gB : i = fs.length := by omega
   subst gB
   show cD _ _ _ _ _ _
   refine ai tt_ok fun K hK => ?_
   simp only [go_sem]
   refine hK _ ?_
   refine aY ⟨.inl rfl, ?_⟩
   rw [List.take_length] at lQ
   have hr : aE (Ty.mk k m n ts fs).parts = aE acc := by rw [lQ]; rfl
   rw [hr]
   simp [qb, l4, oA, Tryz.f75, Fe, e8, cq, ab]
   rw [← ab]; simp

theorem ji (rows : List V) (h1 : cf rows 0 5 = true) (hl : rows.length ≤ 34359738368) : aF Tryz.prog 53 [.slice rows] [] (.ms 0 1 0 rows.length) [.rows 1 5 rows] := by
 refine gw tt_ok (fn := Tryz.f53) 1 (by simp) Tryz.func53 rfl Tryz.call53 ?_
 simp only [ck,bA,Tryz.ntmps53,List.length_cons,List.length_nil,zA,zF,List.replicate_succ,List.replicate_zero]
 refine ai tt_ok fun K hK => ?_
 simp only [go_sem]
 refine hK _ ?_
 refine aS ?_
 refine ai tt_ok fun K hK => ?_
 simp only [go_sem]
 intro b hb
 refine hK _ ?_
 cases b with
 | true =>
  have h0 : rows = [] := by
   cases rows with
   | nil => rfl
   | cons a r => have := hb (by simp); cases this
  subst h0
  refine aL rfl ?_
  refine ai tt_ok fun K hK => ?_
  simp only [go_sem]
  refine hK _ ?_
  refine j2 2 1 5 rfl ?_
  exact aY ⟨.inl rfl, rfl, rfl, rfl, rfl⟩
 | false =>
  refine aL rfl (bn ?_)
  show cD _ _ _ _ _ _
  refine ai tt_ok fun K hK => ?_
  simp only [h1,hl,go_sem]
  refine hK _ ?_
  refine aY ⟨.inl rfl, ?_⟩
  simp [gU, l4, oA, Tryz.f53, au, az, aD]

theorem r8 (t : Ty) (hl : t.args.length + t.aJ.length ≤ 34359738368) : aT Tryz.prog 233 [bg t] (.slice (aE t.parts)) := by
 obtain ⟨k, m, n, ts, fs⟩ := t
 simp only [Ty.args,Ty.aJ] at hl
 have G3 : ts.length ≤ 34359738368 := by omega
 refine iS tt_ok (fn := Tryz.f233) Tryz.func233 rfl Tryz.call233 ?_
 simp only [ck,bA,Tryz.ntmps233,List.length_cons,List.length_nil,zA,zF,List.replicate_succ,List.replicate_zero]
 refine ai tt_ok fun K hK => ?_
 simp only [bg,go_sem]
 refine hK _ ?_
 refine ai tt_ok fun K hK => ?_
 simp only [bg,go_sem]
 refine .inr <| .inl ⟨_, _, aF.live (by simp only [bg,ab,go_sem,List.take_length]) (ji (aE ts) (km ts 0) (by rw [ab]; exact G3)) rfl _, ?_⟩
 try simp only [bg,ab,go_sem]
 refine hK _ ?_
 refine aS ?_
 refine ai tt_ok fun K hK => ?_
 simp only [af,go_sem]
 refine hK _ ?_
 refine bf (cA (fun N st => ∃ (i b7 : Nat) (acc : List Ty), N = fs.length - i ∧ i ≤ fs.length ∧ acc = ts ++ (fs.take i).map Fd.ty ∧
  st = { fr := [.undef, .ptr 0 0, .undef, .ms 1 b7 0 acc.length, .undef, .undef, .undef, .undef, .undef, .undef, .slice (a6 fs), num fs.length, num i] ++ List.replicate 10 .undef, mem := [.box (bg (.mk k m n ts fs)).cells, .rows b7 5 (aE acc)] }) fs.length ?_ ?_)
 ·exact ⟨2, [false,true,false,true,false,false,false,false,false,false,true,true,true], by omega, by simp only [bc,au,aD,az,zB,kC], by simp only [bc,au,aD,az,zB,kC], 0, 1, ts, by omega, by omega, by simp, rfl⟩
 ·rintro N st ⟨i, b7, acc, rfl, hi, lQ, rfl⟩
  have Sp : acc.length ≤ 34359738367 ∨ i = fs.length := by
   rw [lQ]; simp; omega
  simp only [ck,List.replicate_succ,List.replicate_zero,bg,V.cells]
  by_cases aZ : i < fs.length
  ·have hd := jf aZ
   have I7 : acc.length ≤ 34359738367 := by omega
   refine ai tt_ok fun K hK => ?_
   simp only [af,hd,go_sem]
   refine hK _ ?_
   refine aS (aL rfl (bn ?_))
   refine aS (bf ?_)
   obtain ⟨f, hf⟩ : ∃ f, fs[i]? = some f := ⟨_, List.getElem?_eq_getElem aZ⟩
   have tC : (fs.take (i + 1)).map Fd.ty = (fs.take i).map Fd.ty ++ [f.ty] := by
    rw [List.take_add_one, hf]; simp
   obtain ⟨fnm, ⟨fk, fm, fn, ZY, ZZ⟩, fo⟩ := f
   refine ai tt_ok fun K hK => ?_
   simp only [bJ,hf,jA,go_sem]
   refine hK _ ?_
   refine aK tt_ok fun K hK => ?_
   simp only [ab,I7,go_sem]
   refine hK _ ?_
   refine aK tt_ok fun K hK => ?_
   simp only [go_sem]
   refine hK _ ?_
   have hw := aU i (by omega)
   rw [hw]
   refine ⟨fs.length - (i + 1), by omega, 2, [false,true,false,true,false,false,false,false,false,false,true,true,true], by omega, by simp only [bc,au,aD,az,zB,kC], by simp only [bc,au,aD,az,zB,kC], i + 1, b7 + 1, acc ++ [.mk fk fm fn ZY ZZ], rfl, aZ, by rw [lQ, tC]; simp [Fd.ty], ?_⟩
   simp [rp,bc, cg, bg]
  ·have hd := jg aZ
   refine ai tt_ok fun K hK => ?_
   simp only [af,hd,go_sem]
   refine hK _ ?_
   refine aS (aL rfl (dy ?_))
   have gB : i = fs.length := by omega
   subst gB
   show cD _ _ _ _ _ _
   refine ai tt_ok fun K hK => ?_
   simp only [go_sem]
   refine hK _ ?_
   refine aY ⟨.inl rfl, ?_⟩
   rw [List.take_length] at lQ
   have hr : aE (Ty.mk k m n ts fs).parts = aE acc := by rw [lQ]; rfl
   rw [hr]
   simp [qb, l4, oA, Tryz.f233, Fe, e8, cq, ab]
   rw [← ab]; simp
end Go.Proofs.YtnboooapeopjoaaGreatDoor
end

section
namespace Go.Proofs.YtnboooapeopjoaaGreatDoor
open Go.Eng
open Nat renaming reduceAdd → zA, reduceLT → zB, reduceLeDiff → zC, reduceMul → zD, reduceEqDiff → zE, reduceSub → zF
variable [aA]
mutual
def Ty.depth : Ty → Nat
 | .mk _ _ _ ts fs => 1 + max (nI ts) (nJ fs)
def nI : List Ty → Nat
 | [] => 0
 | t :: r => max t.depth (nI r)
def Fd.depth : Fd → Nat
 | .mk _ (.mk _ _ _ ts fs) _ => 1 + max (nI ts) (nJ fs)
def nJ : List Fd → Nat
 | [] => 0
 | f :: r => max f.depth (nJ r)
end
theorem Fd.I8 (f : Fd) : f.depth = f.ty.depth := by obtain ⟨n', ⟨k, m, n, ts, fs⟩, o⟩ := f; rfl
def dX {α : Type} (g : α → Nat) : List α → Nat
 | [] => 0
 | a :: r => max (g a) (dX g r)
theorem qL {α : Type} (g : α → Nat) (a b : List α) : dX g (a ++ b) = max (dX g a) (dX g b) := by induction a with | nil => simp [dX] | cons x r ih => simp [dX, ih, Nat.max_assoc]
theorem FT {α β : Type} (g : β → Nat) (h : α → β) (a : List α) : dX g (a.map h) = dX (fun x => g (h x)) a := by induction a with | nil => rfl | cons x r ih => simp [dX, ih]
theorem yx (ts : List Ty) : nI ts = dX Ty.depth ts := by induction ts with | nil => rfl | cons t r ih => simp [nI, dX, ih]
theorem yy (ts : List Fd) : nJ ts = dX (fun f => f.ty.depth) ts := by induction ts with | nil => rfl | cons t r ih => simp [nJ, dX, ih, Fd.I8]
theorem Ty.nK (t : Ty) : t.depth = 1 + dX Ty.depth t.parts := by
 obtain ⟨k, m, n, ts, fs⟩ := t
 simp only [Ty.depth,Ty.parts,Ty.args,Ty.aJ,qL,FT,yx,yy]
theorem jL {α : Type} (g : α → Nat) {l : List α} {i : Nat} {a : α} (h : l[i]? = some a) : dX g (l.take (i + 1)) = max (dX g (l.take i)) (g a) := by
 rw [List.take_add_one, h, qL]; simp [dX]
theorem u5 {α : Type} (g : α → Nat) {B : Nat} : ∀ {l : List α}, (∀ (i : Nat) (a : α), l[i]? = some a → g a ≤ B) → dX g l ≤ B
 | [], _ => by simp [dX]
 | a :: r, h => by
  have h1 := h 0 a rfl
  have h2 := u5 g (l := r) (B := B) fun i b hb => h (i + 1) b (by simpa using hb)
  simp only [dX]; omega
theorem Ty.oU : ∀ (N : Nat) (t : Ty), t.size ≤ N → t.depth ≤ t.size := by
 intro N
 induction N with
 | zero => intro t h; have := t.size_pos; omega
 | succ N ih =>
  intro t hN
  rw [Ty.nK, Ty.cE]
  have h1 := t.cE
  have := u5 Ty.depth (l := t.parts) (B := aO Ty.size t.parts) fun i a ha => by
   have := bG Ty.size ha
   have := ih a (by omega)
   omega
  omega
theorem yz (a b : Nat) : (if ((a : Int) < (b : Int)) then ((b : Nat) : Int) else (a : Int)) = ((max a b : Nat) : Int) := by
 split <;> omega

theorem Sq : ∀ (N : Nat) (t : Ty), t.size ≤ N → N ≤ 1048576 → aT Tryz.prog 205 [bg t] (num t.depth) := by
 intro N
 induction N with
 | zero => intro t h; have := t.size_pos; omega
 | succ N ih =>
  intro t hN hb
  have AQ := t.ew
  have vX := t.cE
  have hds := Ty.oU _ t (Nat.le_refl _)
  have Z0 := t.nK
  have MQ := bm Ty.size Ty.size_pos t.parts
  have hp := I6 t (by omega)
  refine iS tt_ok (fn := Tryz.f205) Tryz.func205 rfl Tryz.call205 ?_
  simp only [ck,bA,Tryz.ntmps205,List.length_cons,List.length_nil,zA,zF,List.replicate_succ,List.replicate_zero]
  rw [ay] at hp ⊢
  simp only [aj] at hp ⊢
  refine ai tt_ok fun K hK => ?_
  simp only [go_sem]
  refine hK _ ?_
  refine ai tt_ok fun K hK => ?_
  simp only [go_sem]
  refine hK _ ?_
  refine ai tt_ok fun K hK => ?_
  simp only [go_sem]
  refine .inl ⟨_, _, by simp only [go_sem,List.take_length], hp, ?_⟩
  try simp only [go_sem]
  refine hK _ ?_
  refine aS ?_
  refine ai tt_ok fun K hK => ?_
  simp only [go_sem]
  refine hK _ ?_
  obtain ⟨ps, yA⟩ : ∃ ps, ps = t.parts := ⟨_, rfl⟩
  rw [← yA] at vX MQ Z0 ⊢
  refine bf (cA (fun N st => ∃ (i : Nat), N = ps.length - i ∧ i ≤ ps.length ∧
   st = { fr := [.undef, .undef, .undef, num ((dX Ty.depth (ps.take i) : Nat)), .slice (aE ps), num i] ++ List.replicate 17 .undef, mem := [] }) ps.length ?_ ?_)
  ·exact ⟨0, [false,false,false,true,true,true], by omega, by simp only [bc,au,aD,az,zB,kC], by simp only [bc,au,aD,az,zB,kC], 0, by omega, by omega, rfl⟩
  ·rintro N st ⟨i, rfl, hi, rfl⟩
   simp only [ck,List.replicate_succ,List.replicate_zero]
   refine aS ?_
   by_cases aZ : i < ps.length
   ·have hd := jf aZ
    refine ai tt_ok fun K hK => ?_
    simp only [ab,hd,go_sem]
    refine hK _ ?_
    refine aL rfl (bn ?_)
    refine aS (bf ?_)
    obtain ⟨u, hu⟩ : ∃ u, ps[i]? = some u := ⟨_, List.getElem?_eq_getElem aZ⟩
    have Yc := bG Ty.size hu
    have G1 := jL Ty.depth hu
    have jM := ih u (by omega) (by omega)
    rw [ay] at jM
    simp only [aj] at jM
    refine aK tt_ok fun K hK => ?_
    simp only [bt,hu,ay,aj,go_sem]
    refine .inl ⟨_, _, by simp only [go_sem,List.take_length], jM, ?_⟩
    try simp only [go_sem]
    refine hK _ ?_
    rw [yz, ← G1]
    refine aK tt_ok fun K hK => ?_
    simp only [go_sem]
    refine hK _ ?_
    have kg := aU i (by omega)
    rw [kg]
    exact ⟨ps.length - (i + 1), by omega, 0, [false,false,false,true,true,true], by omega, by simp only [bc,au,aD,az,zB,kC], by simp only [bc,au,aD,az,zB,kC], i + 1, rfl, aZ, by simp [rp,bc]⟩
   ·have hd := jg aZ
    refine ai tt_ok fun K hK => ?_
    simp only [ab,hd,go_sem]
    refine hK _ ?_
    refine aL rfl (dy ?_)
    have gB : i = ps.length := by omega
    subst gB
    show cD _ _ _ _ _ _
    refine ai tt_ok fun K hK => ?_
    simp only [go_sem]
    refine hK _ ?_
    refine aY ⟨.inl rfl, ?_⟩
    try rw [List.take_length]
    rw [aU _ (by omega)]
    have oE : dX Ty.depth ps + 1 = t.depth := by omega
    rw [oE]
    simp [qb, l4, oA, Tryz.f205, Fe, e8, cq, iN]

theorem Da : ∀ (N : Nat) (t : Ty), t.size ≤ N → N ≤ 1048576 → aT Tryz.prog 188 [bg t] (num t.depth) := by
 intro N
 induction N with
 | zero => intro t h; have := t.size_pos; omega
 | succ N ih =>
  intro t hN hb
  have AQ := t.ew
  have vX := t.cE
  have hds := Ty.oU _ t (Nat.le_refl _)
  have Z0 := t.nK
  have MQ := bm Ty.size Ty.size_pos t.parts
  have hp := r8 t (by omega)
  refine iS tt_ok (fn := Tryz.f188) Tryz.func188 rfl Tryz.call188 ?_
  simp only [ck,bA,Tryz.ntmps188,List.length_cons,List.length_nil,zA,zF,List.replicate_succ,List.replicate_zero]
  rw [ay] at hp ⊢
  simp only [aj] at hp ⊢
  refine ai tt_ok fun K hK => ?_
  simp only [go_sem]
  refine hK _ ?_
  refine ai tt_ok fun K hK => ?_
  simp only [go_sem]
  refine hK _ ?_
  refine aS ?_
  refine ai tt_ok fun K hK => ?_
  simp only [go_sem]
  refine .inl ⟨_, _, by simp only [ab,go_sem,List.take_length], hp, ?_⟩
  try simp only [ab,go_sem]
  refine hK _ ?_
  obtain ⟨ps, yA⟩ : ∃ ps, ps = t.parts := ⟨_, rfl⟩
  rw [← yA] at vX MQ Z0 ⊢
  refine bf (cA (fun N st => ∃ (i : Nat), N = ps.length - i ∧ i ≤ ps.length ∧
   st = { fr := [.undef, .undef, .undef, num ((dX Ty.depth (ps.take i) : Nat)), .undef, .undef, .undef, .slice (aE ps), num ps.length, num i] ++ List.replicate 10 .undef, mem := [] }) ps.length ?_ ?_)
  ·exact ⟨0, [false,false,false,true,false,false,false,true,true,true], by omega, by simp only [bc,au,aD,az,zB,kC], by simp only [bc,au,aD,az,zB,kC], 0, by omega, by omega, rfl⟩
  ·rintro N st ⟨i, rfl, hi, rfl⟩
   simp only [ck,List.replicate_succ,List.replicate_zero]
   by_cases aZ : i < ps.length
   ·have hd := jf aZ
    refine ai tt_ok fun K hK => ?_
    simp only [ab,hd,go_sem]
    refine hK _ ?_
    refine aS (aL rfl (bn ?_))
    refine aS (bf ?_)
    obtain ⟨u, hu⟩ : ∃ u, ps[i]? = some u := ⟨_, List.getElem?_eq_getElem aZ⟩
    have Yc := bG Ty.size hu
    have G1 := jL Ty.depth hu
    have jM := ih u (by omega) (by omega)
    rw [ay] at jM
    simp only [aj] at jM
    refine ai tt_ok fun K hK => ?_
    simp only [bt,hu,ay,aj,go_sem]
    refine hK _ ?_
    refine aK tt_ok fun K hK => ?_
    simp only [go_sem]
    refine .inl ⟨_, _, by simp only [go_sem,List.take_length], jM, ?_⟩
    try simp only [go_sem]
    refine hK _ ?_
    rw [yz, ← G1]
    refine aK tt_ok fun K hK => ?_
    simp only [go_sem]
    refine hK _ ?_
    have kg := aU i (by omega)
    rw [kg]
    exact ⟨ps.length - (i + 1), by omega, 0, [false,false,false,true,false,false,false,true,true,true], by omega, by simp only [bc,au,aD,az,zB,kC], by simp only [bc,au,aD,az,zB,kC], i + 1, rfl, aZ, by simp [rp,bc]⟩
   ·have hd := jg aZ
    refine ai tt_ok fun K hK => ?_
    simp only [ab,hd,go_sem]
    refine hK _ ?_
    refine aS (aL rfl (dy ?_))
    have gB : i = ps.length := by omega
    subst gB
    show cD _ _ _ _ _ _
    refine ai tt_ok fun K hK => ?_
    simp only [go_sem]
    refine hK _ ?_
    refine aY ⟨.inl rfl, ?_⟩
    try rw [List.take_length]
    rw [aU _ (by omega)]
    have oE : dX Ty.depth ps + 1 = t.depth := by omega
    rw [oE]
    simp [qb, l4, oA, Tryz.f188, Fe, e8, cq, iN]
mutual
def Ty.nodes : Ty → List Ty
 | .mk k m n ts fs => .mk k m n ts fs :: (nL ts ++ nM fs)
def nL : List Ty → List Ty
 | [] => []
 | t :: r => t.nodes ++ nL r
def Fd.nodes : Fd → List Ty
 | .mk _ (.mk k m n ts fs) _ => .mk k m n ts fs :: (nL ts ++ nM fs)
def nM : List Fd → List Ty
 | [] => []
 | f :: r => f.nodes ++ nM r
end
theorem Fd.I9 (f : Fd) : f.nodes = f.ty.nodes := by obtain ⟨n', ⟨k, m, n, ts, fs⟩, o⟩ := f; rfl
theorem AR (ts : List Ty) : nL ts = ts.flatMap Ty.nodes := by induction ts with | nil => rfl | cons t r ih => simp [nL, ih]
theorem AS (ts : List Fd) : nM ts = (ts.map Fd.ty).flatMap Ty.nodes := by induction ts with | nil => rfl | cons t r ih => simp [nM, ih, Fd.I9]
theorem Ty.fq (t : Ty) : t.nodes = t :: t.parts.flatMap Ty.nodes := by
 obtain ⟨k, m, n, ts, fs⟩ := t
 simp only [Ty.nodes,Ty.parts,Ty.args,Ty.aJ,AR,AS,List.flatMap_append]
theorem Ty.qM : ∀ (N : Nat) (t : Ty), t.size ≤ N → t.nodes.length = t.size := by
 intro N
 induction N with
 | zero => intro t h; have := t.size_pos; omega
 | succ N ih =>
  intro t hN
  have h1 := t.cE
  have gen : ∀ (l : List Ty), aO Ty.size l ≤ N → (l.flatMap Ty.nodes).length = aO Ty.size l := by
   intro l
   induction l with
   | nil => intro _; rfl
   | cons a r MR =>
    intro hl
    simp only [aO] at hl ⊢
    rw [List.flatMap_cons, List.length_append, ih a (by omega), MR (by omega)]
  rw [Ty.fq, List.length_cons, gen _ (by omega)]; omega

section
variable {σ α : Type}
def bS (step : σ → α → σ × Bool) : σ → List α → σ × Bool
 | s, [] => (s, true)
 | s, u :: r => if (step s u).2 = true then bS step (step s u).1 r else ((step s u).1, false)
theorem fb (step : σ → α → σ × Bool) : ∀ (a : List α) (s : σ) (b : List α), bS step s (a ++ b) = if (bS step s a).2 = true then bS step (bS step s a).1 b else ((bS step s a).1, false)
 | [], s, b => by simp [bS]
 | u :: r, s, b => by
  simp only [List.cons_append,bS]
  split
  ·exact fb step r _ b
  ·simp
theorem mm (step : σ → α → σ × Bool) {G : σ → Prop} (hG : ∀ s u, G s → (step s u).2 = true → G (step s u).1) : ∀ (l : List α) (s : σ), G s → (bS step s l).2 = true → G (bS step s l).1
 | [], s, h, _ => h
 | u :: r, s, h, hs => by
  simp only [bS] at hs ⊢
  split at hs
  ·rename_i hu; rw [if_pos hu]; exact mm step hG r _ (hG s u h hu) hs
  ·cases hs
end

section
variable {σ : Type} {M : σ → List aC} {n k k1 k2 : Nat}
theorem MS (hn : ∀ s, (M s).length = n) (hk : k < n) (ff : k1 < n) (iU : k2 < n) (h1 : ∀ s, (M s)[k1]? = some (.box [.fP k])) (h2 : ∀ s, (M s)[k2]? = some (.box [.bp (.func 235) [] [.ptr k1 0, .ptr k2 0]])) (hb : ∀ s, (M s).all (az n) = true)
  (step : σ → Ty → σ × Bool) (G : σ → Prop) (hG : ∀ s u, G s → (step s u).2 = true → G (step s u).1) {B : Nat} (hB : B ≤ 1048576) (hy : ∀ s u, G s → u.size ≤ B → BW Tryz.prog k [bg u] (M s) (step s u).2 (M (step s u).1)) :
  ∀ (N : Nat) (t : Ty) (s : σ), G s → t.size ≤ N → N ≤ B → aF Tryz.prog 235 [bg t, .ptr k1 0, .ptr k2 0] (M s) (bl (bS step s t.nodes).2) (M (bS step s t.nodes).1) := by
 have g0 : ∀ s (l : List aC), (M s ++ l)[n]? = l[0]? := fun s l => by rw [List.getElem?_append_right (by rw [hn]; exact Nat.le_refl _), hn, Nat.sub_self]
 have g1 : ∀ s (l : List aC), (M s ++ l)[n + 1]? = l[1]? := fun s l => by rw [List.getElem?_append_right (by rw [hn]; omega), hn, Nat.add_sub_cancel_left]
 have Ou : ∀ s (l : List aC), (M s ++ l)[k1]? = some (.box [.fP k]) := fun s l => by rw [List.getElem?_append_left (by rw [hn]; exact ff)]; exact h1 s
 have UA : ∀ s (l : List aC), (M s ++ l)[k2]? = some (.box [.bp (.func 235) [] [.ptr k1 0, .ptr k2 0]]) := fun s l => by rw [List.getElem?_append_left (by rw [hn]; exact iU)]; exact h2 s
 have gs : ∀ s (l : List aC) X, (M s ++ l).set n X = M s ++ l.set 0 X := fun s l X => by rw [List.set_append_right _ _ (by rw [hn]; exact Nat.le_refl _), hn, Nat.sub_self]
 have gt : ∀ s (l : List aC), (M s ++ l).take n = M s := fun s l => by rw [← hn s, List.take_left]
 have Ov : ∀ s, (M s).take n = M s := fun s => by rw [List.take_of_length_le (by rw [hn]; exact Nat.le_refl _)]
 have fy : ∀ s u (l : List aC), G s → u.size ≤ B → BW Tryz.prog k [bg u] (M s ++ l) (step s u).2 (M (step s u).1 ++ l) := fun s u l hg hu => by
  refine (hy s u hg hu).frame (by rw [hn]; exact hk) ?_ (by rw [hn]; exact hb s) (by rw [hn, hn]) (by rw [hn]; exact hb _) l
  rw [ay]; simp [au, aD, aj]
 intro N
 induction N with
 | zero => intro t s hg h; have := t.size_pos; omega
 | succ N ih =>
  intro t s hg hN hNB
  have AQ := t.ew
  have vX := t.cE
  have MQ := bm Ty.size Ty.size_pos t.parts
  have ch := t.fq
  have hp := r8 t (by omega)
  have Ja := fun l => fy s t l hg (by omega)
  have Ow : ∀ u s (l : List aC), G s → u.size ≤ N → aF Tryz.prog 235 [bg u, .ptr k1 0, .ptr k2 0] (M s ++ l) (bl (bS step s u.nodes).2) (M (bS step s u.nodes).1 ++ l) := fun u s l hg hu => by
   refine (ih u s hg hu (by omega)).frame ?_ (by rw [hn]; exact hb s) rfl (by rw [hn, hn]) (by rw [hn]; exact hb _) l
   rw [ay, hn]; simp [au, aD, aj, ff, iU]
  simp only [ay,aj] at Ow
  refine gw tt_ok (fn := Tryz.f235) n (by rw [hn]; exact Nat.le_refl _) Tryz.func235 rfl Tryz.call235 ?_
  simp only [ck,bA,Tryz.ntmps235,List.length_cons,List.length_nil,zA,zF,List.replicate_succ,List.replicate_zero]
  rw [ay] at hp Ja ⊢
  simp only [aj] at hp Ja ⊢
  refine ai tt_ok fun K hK => ?_
  simp only [hn,go_sem]
  refine hK _ ?_
  refine aS ?_
  refine ai tt_ok fun K hK => ?_
  simp only [Ou,g0,hn,go_sem]
  refine .inl ⟨_, _, Ja _, ?_⟩
  try simp only [go_sem]
  refine hK _ ?_
  cases Jb : (step s t).2 with
  | false =>
   refine aL rfl ?_
   refine ai tt_ok fun K hK => ?_
   simp only [go_sem]
   refine hK _ ?_
   refine aY ⟨.inl rfl, ?_⟩
   have rB : bS step s t.nodes = ((step s t).1, false) := by rw [ch]; simp [bS, Jb]
   rw [rB]
   exact ⟨rfl, rfl, by dsimp only; rw [gt]; exact hb _, (gt _ _).symm⟩
  | true =>
   refine aL rfl (bn ?_)
   show cD _ _ _ _ _ _
   refine aS ?_
   refine ai tt_ok fun K hK => ?_
   simp only [Ou,g0,hn,go_sem]
   refine .inl ⟨_, _, by simp only [ab,go_sem,List.take_length], hp, ?_⟩
   try simp only [ab,go_sem]
   refine hK _ ?_
   obtain ⟨ps, yA⟩ : ∃ ps, ps = t.parts := ⟨_, rfl⟩
   rw [← yA] at vX MQ ch ⊢
   refine bf (cA (fun N st => ∃ (i : Nat) (s' : σ), G s' ∧ N = ps.length - i ∧ i ≤ ps.length ∧ bS step s (t :: (ps.take i).flatMap Ty.nodes) = (s', true) ∧
    st = { fr := [.undef, .ptr k1 0, .ptr k2 0, .undef, .undef, .undef, .undef, .undef, .undef, .undef, .undef, .undef, .slice (aE ps), num ps.length, num i] ++ List.replicate 8 .undef, mem := M s' }) ps.length ?_ ?_)
   ·refine ⟨n, (false::true::true::(rp 9 false [true,true,true])), by rw [hn]; exact Nat.le_refl _, by simp only [bc,au,aD,az,zB,ff,iU,kC], by dsimp only; rw [gt]; exact hb _, 0, (step s t).1, hG s t hg Jb, by omega, by omega, by simp [bS, Jb], ?_⟩
    dsimp only; rw [gt]; rfl
   ·rintro N' st ⟨i, s', zJ, rfl, hi, Jc, rfl⟩
    simp only [ck,List.replicate_succ,List.replicate_zero]
    by_cases aZ : i < ps.length
    ·have hd := jf aZ
     refine ai tt_ok fun K hK => ?_
     simp only [ab,hd,go_sem]
     refine hK _ ?_
     refine aS (aL rfl (bn ?_))
     refine aS (bf ?_)
     obtain ⟨u, hu⟩ : ∃ u, ps[i]? = some u := ⟨_, List.getElem?_eq_getElem aZ⟩
     have Yc := bG Ty.size hu
     have jM := fun l => Ow u s' l zJ (by omega)
     have vY : (ps.take (i + 1)).flatMap Ty.nodes = (ps.take i).flatMap Ty.nodes ++ u.nodes := by rw [List.take_add_one, hu]; simp
     have EH : bS step s (t :: (ps.take (i + 1)).flatMap Ty.nodes) = bS step s' u.nodes := by
      rw [vY, ← List.cons_append, fb, Jc]; simp
     refine ai tt_ok fun K hK => ?_
     simp only [bt,hu,ay,aj,hn,g0,gs,go_sem]
     refine hK _ ?_
     refine ai tt_ok fun K hK => ?_
     simp only [UA,g0,hn,go_sem]
     refine .inr <| .inl ⟨_, _, jM _, ?_⟩
     try simp only [go_sem]
     refine hK _ ?_
     cases Jd : (bS step s' u.nodes).2 with
     | false =>
      refine aL rfl ?_
      refine ai tt_ok fun K hK => ?_
      simp only [go_sem]
      refine hK _ ?_
      refine aY ⟨.inl rfl, ?_⟩
      have rB : bS step s t.nodes = ((bS step s' u.nodes).1, false) := by
       have u6 : ps.flatMap Ty.nodes = (ps.take (i + 1)).flatMap Ty.nodes ++ (ps.drop (i + 1)).flatMap Ty.nodes := by rw [← List.flatMap_append, List.take_append_drop]
       rw [ch, u6, ← List.cons_append, fb, EH, Jd]; simp
      rw [rB]
      exact ⟨rfl, rfl, by dsimp only; rw [gt]; exact hb _, (gt _ _).symm⟩
     | true =>
      refine aL rfl (bn ?_)
      show cD _ _ _ _ _ _
      refine aK tt_ok fun K hK => ?_
      simp only [go_sem]
      refine hK _ ?_
      have kg := aU i (by omega)
      rw [kg]
      refine ⟨ps.length - (i + 1), by omega, n, (false::true::true::(rp 9 false [true,true,true])), by rw [hn]; exact Nat.le_refl _, by simp only [bc,au,aD,az,zB,ff,iU,kC], by dsimp only; rw [gt]; exact hb _, i + 1, (bS step s' u.nodes).1, mm step hG _ _ zJ Jd, rfl, aZ, by rw [EH, ← Jd], ?_⟩
      dsimp only; rw [gt]; rfl
    ·have hd := jg aZ
     refine ai tt_ok fun K hK => ?_
     simp only [ab,hd,go_sem]
     refine hK _ ?_
     refine aS (aL rfl (dy ?_))
     have gB : i = ps.length := by omega
     subst gB
     show cD _ _ _ _ _ _
     refine ai tt_ok fun K hK => ?_
     simp only [go_sem]
     refine hK _ ?_
     refine aY ⟨.inl rfl, ?_⟩
     rw [List.take_length] at Jc
     rw [ch, Jc]
     exact ⟨rfl, rfl, by dsimp only; rw [Ov]; exact hb _, (Ov _).symm⟩
end
end Go.Proofs.YtnboooapeopjoaaGreatDoor
end

section
namespace Go.Proofs.YtnboooapeopjoaaGreatDoor
open Go.Eng
open Nat renaming reduceAdd → zA, reduceLT → zB, reduceLeDiff → zC, reduceMul → zD, reduceEqDiff → zE, reduceSub → zF
variable [aA]

theorem AT (t : Ty) (m : List aC) (hb : m.all (az (m.length + 1)) = true) : aF Tryz.prog 189 [bg t] m (.bp (.func 234) [] [.ptr m.length 0]) (m ++ [.box (aj t)]) := by
 refine gw tt_ok (fn := Tryz.f189) (m.length + 1) (by omega) Tryz.func189 rfl Tryz.call189 ?_
 simp only [ck,bA,Tryz.ntmps189,List.length_cons,List.length_nil,zA,zF,List.replicate_succ,List.replicate_zero]
 rw [ay]
 simp only [aj]
 refine ai tt_ok fun K hK => ?_
 simp only [go_sem]
 refine hK _ ?_
 refine ai tt_ok fun K hK => ?_
 simp only [go_sem]
 refine hK _ ?_
 have ht : ∀ B : aC, (m ++ [B]).take (m.length + 1) = m ++ [B] := fun B => List.take_of_length_le (by simp)
 refine aY ⟨.inl rfl, rfl, by simp [au, aD], ?_, ?_⟩
 ·dsimp only; rw [ht]; simp [hb, az, au, aD]
 ·dsimp only; rw [ht]

section
variable {σ : Type} {M : σ → List aC} {n k kt : Nat}
theorem MT (hn : ∀ s, (M s).length = n) (hk : k < n) (FU : kt < n) {t : Ty} (h1 : ∀ s, (M s)[kt]? = some (.box (aj t))) (hb : ∀ s, (M s).all (az n) = true)
  (step : σ → Ty → σ × Bool) (G : σ → Prop) (hG : ∀ s u, G s → (step s u).2 = true → G (step s u).1) {B : Nat} (hB : B ≤ 1048576) (hy : ∀ s u, G s → u.size ≤ B → BW Tryz.prog k [bg u] (M s) (step s u).2 (M (step s u).1)) (ht : t.size ≤ B) (s : σ) (hs : G s) :
  aF Tryz.prog 234 [.fP k, .ptr kt 0] (M s) (.cC []) (M (bS step s t.nodes).1) := by
 have g0 : ∀ s (l : List aC), (M s ++ l)[n]? = l[0]? := fun s l => by rw [List.getElem?_append_right (by rw [hn]; exact Nat.le_refl _), hn, Nat.sub_self]
 have g1 : ∀ s (l : List aC), (M s ++ l)[n + 1]? = l[1]? := fun s l => by rw [List.getElem?_append_right (by rw [hn]; omega), hn, Nat.add_sub_cancel_left]
 have Ox : ∀ s (l : List aC), (M s ++ l)[kt]? = some (.box (aj t)) := fun s l => by rw [List.getElem?_append_left (by rw [hn]; exact FU)]; exact h1 s
 have gs : ∀ s (l : List aC) X, (M s ++ l).set (n + 1) X = M s ++ l.set 1 X := fun s l X => by rw [List.set_append_right _ _ (by rw [hn]; omega), hn, Nat.add_sub_cancel_left]
 have gt : ∀ s (l : List aC), (M s ++ l).take n = M s := fun s l => by rw [← hn s, List.take_left]
 have hw : ∀ s, G s → aF Tryz.prog 235 [bg t, .ptr n 0, .ptr (n + 1) 0] (M s ++ [.box [.fP k], .box [.bp (.func 235) [] [.ptr n 0, .ptr (n + 1) 0]]]) (bl (bS step s t.nodes).2) (M (bS step s t.nodes).1 ++ [.box [.fP k], .box [.bp (.func 235) [] [.ptr n 0, .ptr (n + 1) 0]]]) := fun s hs => by
  refine MS (M := fun s => M s ++ [.box [.fP k], .box [.bp (.func 235) [] [.ptr n 0, .ptr (n + 1) 0]]]) (n := n + 2) (k := k) (k1 := n) (k2 := n + 1) (fun s => by simp [hn]) (by omega) (by omega) (by omega) (fun s => g0 _ _) (fun s => g1 _ _) (fun s => ?_) step G hG hB (fun s u hg hu => ?_) t.size t s hs (Nat.le_refl _) ht
  ·rw [List.all_append, Bool.and_eq_true]
   refine ⟨l8 (by omega) (hb s), ?_⟩
   simp [az, au, aD]; omega
  ·refine (hy s u hg hu).frame (by rw [hn]; exact hk) ?_ (by rw [hn]; exact hb s) (by rw [hn, hn]) (by rw [hn]; exact hb _) _
   rw [ay]; simp [au, aD, aj]
 refine gw tt_ok (fn := Tryz.f234) n (by rw [hn]; exact Nat.le_refl _) Tryz.func234 rfl Tryz.call234 ?_
 simp only [ck,bA,Tryz.ntmps234,List.length_cons,List.length_nil,zA,zF,List.replicate_succ,List.replicate_zero]
 have AJ := hw s hs
 rw [ay] at AJ
 simp only [aj] at AJ Ox
 refine ai tt_ok fun K hK => ?_
 simp only [hn,go_sem]
 refine hK _ ?_
 refine ai tt_ok fun K hK => ?_
 simp only [hn,List.length_append,List.append_assoc,go_sem]
 refine hK _ ?_
 refine ai tt_ok fun K hK => ?_
 simp only [hn,g1,gs,go_sem]
 refine hK _ ?_
 refine aK tt_ok fun K hK => ?_
 simp only [hn,g1,Ox,go_sem]
 refine .inr <| .inl ⟨_, _, AJ, ?_⟩
 try simp only [go_sem]
 refine hK _ ?_
 refine ⟨.inr rfl, rfl, rfl, ?_, ?_⟩
 ·dsimp only; rw [gt]; exact hb _
 ·dsimp only; rw [gt]

def eS {α : Type} (step : σ → α → σ × Option Code) : σ → List α → σ × Option Code
 | s, [] => (s, none)
 | s, u :: r => match (step s u).2 with
  | none => eS step (step s u).1 r
  | some c => ((step s u).1, some c)
def qN {α : Type} (step : σ → α → σ × Option Code) (s : σ × Option Code) (u : α) : (σ × Option Code) × Bool := (step s.1 u, (step s.1 u).2.isNone)
theorem tD {α : Type} (step : σ → α → σ × Option Code) : ∀ (l : List α) (s : σ), (bS (qN step) (s, none) l).1 = eS step s l
 | [], s => rfl
 | u :: r, s => by
  simp only [bS,eS]
  have jr : (qN step (s, none) u).1 = step s u := rfl
  have sA : (qN step (s, none) u).2 = (step s u).2.isNone := rfl
  by_cases wF : (step s u).2.isNone = true
  ·rw [if_pos (sA.trans wF), jr]
   have h2 : (step s u).2 = none := by simpa using wF
   have e : step s u = ((step s u).1, none) := Prod.ext rfl h2
   have h3 := tD step r (step s u).1
   rw [← e] at h3
   rw [h2]
   exact h3
  ·have Je := wF
   rw [if_neg (fun h => Je (sA.symm.trans h)), jr]
   cases h2 : (step s u).2 with
   | none => rw [h2] at Je; exact absurd rfl Je
   | some c => dsimp only; exact Prod.ext rfl h2

theorem take_set {mem pre : List aC} {n : Nat} {X Y : aC} (hn : pre.length = n) (h1 : mem[n]? = some Y) (h2 : mem.take n = pre) : (mem.set n X).take (n + 1) = pre ++ [X] := by
 have aZ : n < mem.length := (List.getElem?_eq_some_iff.1 h1).1
 refine List.ext_getElem? fun i => ?_
 by_cases hi : i < n
 ·rw [List.getElem?_take_of_lt (by omega), List.getElem?_set_ne (by omega), List.getElem?_append_left (by omega), ← h2, List.getElem?_take_of_lt hi]
 ·by_cases kX : i = n
  ·subst kX
   rw [List.getElem?_take_of_lt (by omega), List.getElem?_set_self aZ, List.getElem?_append_right (by omega)]
   simp [hn]
  ·rw [List.getElem?_eq_none (by simp; omega), List.getElem?_eq_none (by simp [hn]; omega)]

theorem FV {n0 : Nat} {st : St} {Q : Exit → St → Prop} {f : Operand} {params : Array Tmp} {assign body : Code} {t : Ty} (pre : σ → List aC) (s0 : σ) (n kt : Nat) (lF : st.mem = pre s0) (hn : ∀ s, (pre s).length = n) (FU : kt < n)
  (ht : ∀ s, (pre s)[kt]? = some (.box (aj t))) (hb : ∀ s, (pre s).all (az (n + 1)) = true) (yZ : st.fr.all (au (n + 1)) = true) (hf : st.eval f = .bp (.func 234) [] [.ptr kt 0]) (hp : params.size = 1) (step : σ → Ty → σ × Option Code) {B : Nat} (hB : B ≤ 1048576) (ka : t.size ≤ B)
  (u7 : ∀ s u, u.size ≤ B → ∀ (l : Nat) (LR LB : aC), az (n + 1) LR = true → az (n + 1) LB = true → cD Tryz.prog (some l) (n + 1) assign { fr := kM params.toList [bg u] st.fr, mem := pre s ++ [LR] } fun ex oz => ex = .normal ∧ oz.mem[n]? = some LR ∧
   cD Tryz.prog (some l) (n + 1) body { oz with mem := oz.mem.set n LB } fun ex tp => nn ex = some (step s u).2 ∧ tp.mem[n]? = some LB ∧ tp.mem.take n = pre (step s u).1)
  (hq : match (eS step s0 t.nodes).2 with
   | none => Q .normal { st with mem := pre (eS step s0 t.nodes).1 ++ [.dead] }
   | some c => cD Tryz.prog none n0 c { st with mem := pre (eS step s0 t.nodes).1 ++ [.dead] } Q) : cD Tryz.prog none n0 (.rangeFunc f params assign body) st Q := by
 have hlen : st.mem.length = n := by rw [lF, hn]
 have gn : ∀ s X, (pre s ++ [X])[n]? = some X := fun s X => by rw [List.getElem?_append_right (by rw [hn]; exact Nat.le_refl _), hn, Nat.sub_self]; rfl
 have gk : ∀ s X, (pre s ++ [X])[kt]? = some (.box (aj t)) := fun s X => by rw [List.getElem?_append_left (by rw [hn]; exact FU)]; exact ht s
 have AU : ∀ s (X Y : aC), (pre s ++ [X]).set n Y = pre s ++ [Y] := fun s X Y => by rw [List.set_append_right _ _ (by rw [hn]; exact Nat.le_refl _), hn, Nat.sub_self]; rfl
 have s4 : ∀ (s : σ) (a : LoopState) (b : Option Code), (pre s ++ [aC.loop a b st.fr params assign body]).all (az (n + 1)) = true := fun s a b => by
  rw [List.all_append, Bool.and_eq_true]
  exact ⟨hb s, by simp only [List.all_cons,List.all_nil,Bool.and_true,az]; exact yZ⟩
 have it := MT (M := fun s : σ × Option Code => pre s.1 ++ [.loop (if s.2.isNone then .ready else .done) s.2 st.fr params assign body]) (n := n + 1) (k := n) (kt := kt) (t := t) (fun s => by simp [hn]) (by omega) (by omega) (fun s => gk _ _) (fun s => s4 _ _ _)
  (qN step) (fun s => s.2 = none) (fun s u hs h => by simpa [qN] using h) hB (fun s u hs hu => by
   obtain ⟨s, j⟩ := s
   simp only at hs; subst hs
   refine np (fr := st.fr) (params := params) (assign := assign) (body := body) (gn _ _) (by simp [hp]) fun l => ?_
   have hl : (pre s ++ [aC.loop .ready none st.fr params assign body]).length = n + 1 := by simp [hn]
   simp only [Option.isNone_none,if_true,hl]
   refine cD.mono (u7 s u hu l (.loop .ready none st.fr params assign body) (.loop .busy none st.fr params assign body) yZ yZ) ?_
   rintro ex oz ⟨h1, h2, h3⟩
   refine ⟨h1, h2, cD.mono h3 ?_⟩
   rintro ex tp ⟨h4, h5, h6⟩
   refine ⟨_, h4, rfl, h5, ?_, ?_⟩
   ·rw [take_set (hn _) h5 h6]; exact s4 _ _ _
   ·rw [take_set (hn _) h5 h6]; rfl) ka (s0, none) rfl
 rw [tD] at it
 refine k8 (g := 234) (vs := [.fP n, .ptr kt 0]) (by rw [hf, hlen]; rfl) (by rw [lF]; exact it) ?_
 rw [hlen]
 refine ⟨_, _, _, _, _, _, gn _ _, ?_, ?_⟩
 ·cases (eS step s0 t.nodes).2 <;> simp
 ·generalize hj : (eS step s0 t.nodes).2 = j at hq
  cases j with
  | none => dsimp only at hq ⊢; rw [AU]; exact hq
  | some c => dsimp only at hq ⊢; rw [AU]; exact hq
end
end Go.Proofs.YtnboooapeopjoaaGreatDoor
end

section
namespace Go.Proofs.YtnboooapeopjoaaGreatDoor
open Go.Eng
open Nat renaming reduceAdd → zA, reduceLT → zB, reduceLeDiff → zC, reduceMul → zD, reduceEqDiff → zE, reduceSub → zF
variable [aA]

theorem pq {σ α : Type} (g : σ → α → σ) : ∀ (l : List α) (s : σ), eS (fun s u => (g s u, none)) s l = (l.foldl g s, none)
 | [], s => rfl
 | u :: r, s => by simp only [eS,List.foldl_cons]; exact pq g r _
theorem u9 {α : Type} : ∀ (l : List α) (a : Nat), a + l.length ≤ 1152921504606846976 → l.foldl (fun (s : Int) _ => IntKind.i64.wrap (s + 1)) (a : Int) = ((a + l.length : Nat) : Int)
 | [], a, _ => rfl
 | _ :: r, a, h => by
  simp only [List.length_cons] at h
  rw [List.foldl_cons, aU a (by omega), u9 r (a + 1) (by omega), List.length_cons]
  congr 1; omega

theorem j5 (t : Ty) (ht : t.size ≤ 1048576) : aT Tryz.prog 175 [bg t] (num t.size) := by
 refine iS tt_ok (fn := Tryz.f175) Tryz.func175 rfl Tryz.call175 ?_
 simp only [ck,bA,Tryz.ntmps175,List.length_cons,List.length_nil,zA,zF,List.replicate_succ,List.replicate_zero]
 have QP := fun B0 B1 h => AT t [B0, B1] h
 rw [ay] at QP ⊢
 simp only [aj] at QP ⊢
 refine ai tt_ok fun K hK => ?_
 simp only [go_sem]
 refine hK _ ?_
 refine ai tt_ok fun K hK => ?_
 simp only [go_sem]
 refine hK _ ?_
 refine aS ?_
 refine ai tt_ok fun K hK => ?_
 simp only [go_sem]
 refine .inr <| .inl ⟨_, _, QP _ _ rfl, ?_⟩
 try simp only [go_sem]
 refine hK _ ?_
 refine bf (FV (t := t) (B := 1048576) (fun s : Int => [.box (aj t), .box [num s], .box (aj t)]) 0 3 2 rfl (fun _ => rfl) (by omega) (fun _ => rfl) (fun _ => rfl) rfl rfl rfl (fun s _ => (IntKind.i64.wrap (s + 1), none)) (by omega) ht ?_ ?_)
 ·intro s u hu l LR LB hLR Sr
  refine bn ⟨rfl, rfl, bf ?_⟩
  refine aK tt_ok fun K hK => ?_
  simp only [go_sem]
  refine hK _ ?_
  exact ⟨rfl, rfl, rfl⟩
 ·rw [pq, show (0 : Int) = ((0 : Nat) : Int) from rfl, u9 _ _ (by rw [Ty.qM _ t (Nat.le_refl _)]; omega), Ty.qM _ t (Nat.le_refl _), Nat.zero_add]
  show cD _ _ _ _ _ _
  refine ai tt_ok fun K hK => ?_
  simp only [go_sem]
  refine hK _ ?_
  exact aY ⟨.inl rfl, rfl⟩
end Go.Proofs.YtnboooapeopjoaaGreatDoor
end

section
namespace Go.Proofs.YtnboooapeopjoaaGreatDoor
open Go.Eng
variable [aA]
def cB {α : Type} (f : α → Int) : List α → Int
  | [] => 0
  | u :: r => if f u = 0 then cB f r else f u
def B5 (a b : ByteArray) : Int := if a = b then 5 else if MG b a = true then 1 else 0
def ix : List ByteArray → Int
  | [] => 0
  | a :: r => match r with
    | [] => 0
    | b :: _ => if B5 a b = 0 then ix r else B5 a b
def ft (t : Ty) : Bool := decide (t.kind = 0) && fg t.mod && fg t.name && decide (t.args.length = 0) && decide (t.aJ.length = 0)
def UB (t : Ty) : Bool :=
  (decide (t.kind = 8) || !(t.aJ.any Fd.opt)) &&
  (if t.kind = 0 ∨ t.kind = 1 ∨ t.kind = 2 ∨ t.kind = 3 ∨ t.kind = 4 then fg t.mod && fg t.name && decide (t.args.length = 0) && decide (t.aJ.length = 0)
   else if t.kind = 5 then fg t.mod && fg t.name && decide (t.args.length = 1) && decide (t.aJ.length = 0)
   else if t.kind = 6 ∨ t.kind = 7 then fg t.mod && fg t.name && decide (t.args.length = 0)
   else if t.kind = 8 then fg t.mod && fg t.name && decide (t.args.length = 1)
   else if t.kind = 9 then fg t.mod && decide (t.args.length = 0) && decide (t.aJ.length = 0)
   else if t.kind = 10 then decide (t.aJ.length = 0) else false)
def LD (t : Ty) : Int :=
  if UB t = false then 1
  else if 32 < t.aJ.length ∨ 8 < t.args.length then 7
  else if (t.kind = 9 ∧ AL t.name = false) ∨ (t.kind = 10 ∧ (yw t.mod = false ∨ lg t.name = false)) then 4
  else if (t.aJ.any fun f => !bM f.name) = true then 4
  else ix (t.aJ.map Fd.name)
def s5 (t : Ty) : Int := if 4096 < t.size ∨ 32 < t.depth then 7 else cB LD t.nodes
end Go.Proofs.YtnboooapeopjoaaGreatDoor
end
