/-
  CONTRACTS: the library's contracts on strings and sorting, laid at this program (the layings' tables by the kit's lay-plain).
  CONTRACTS of the library's, taken over: looking for strings, splitting, sorting spans.
  CONTRACTS: names, versions of paths.
  CONTRACTS: paths.
  CONTRACTS: versions compared; strings in lists.
  CONTRACTS: the parts and the size of a type, by the reference.
  CONTRACTS: the data of histories; lines with their names.
  CONTRACTS: histories.
  CONTRACTS: Insert, by the reference.
  CONTRACTS: deprecated names.
  CONTRACTS: Exports, by the reference.
  CONTRACTS: bytes in lists.
  PLAIN LAWS of histories: what a part of a history is, and its violations.
  EQUALITY of violations.
  CONTRACTS: equal lists of violations, of strings.
-/
import Derived.Test.YtcajnfkkokeeeaaGreatDoorG2
import Derived.Shelf.Small.Wraps
import Derived.Shelf.Strings.Search3
import Derived.Shelf.Strings.LastIndex
import Derived.Shelf.Strings.Split
import Derived.Test.YtcajnfkkokeeeaaGreatDoorProg
set_option linter.all false
section
namespace Go.Proofs.YtcajnfkkokeeeaaGreatDoor
open Go.RowKit Go.Lib Go.Shelf
def lays103_ren : Go.Shelf.Ren := ⟨fun | 103 => 131 | 210 => 177 | 206 => 204 | n => n, fun | 9 => 9 | 4 => 4 | 24 => 199 | 3 => 3 | n => n, fun | n => n⟩
theorem lays103 : Go.Proofs.Lays.n103 Tryz.prog lays103_ren := {
 mixed := by kernel_rfl
 f103 := Tryz.func131.trans (congrArg some (by kernel_rfl))
 f206 := Tryz.func204.trans (congrArg some (by kernel_rfl))
 f210 := Tryz.func177.trans (congrArg some (by kernel_rfl))
 t3 := Tryz.underlying3
 a3 := Tryz.isAgg3
 z3 := Tryz.sizeOf3
 v3 := Tryz.zeroValue3
 t4 := Tryz.underlying4
 a4 := Tryz.isAgg4
 z4 := Tryz.sizeOf4
 v4 := Tryz.zeroValue4
 t9 := Tryz.underlying9
 a9 := Tryz.isAgg9
 z9 := Tryz.sizeOf9
 v9 := Tryz.zeroValue9
 t24 := Tryz.underlying199
 a24 := Tryz.isAgg199
 z24 := Tryz.sizeOf199
 v24 := Tryz.zeroValue199 }
theorem strings_CutPrefix (s p : ByteArray) (w : World) :
  Calls Tryz.prog 131 #[.string s, .string p] w fun e w' => e = .returned (.tuple #[.string ⟨(Lib.trimPrefix s.data.toList p.data.toList).toArray⟩, .bool (Lib.hasPrefix s.data.toList p.data.toList)]) ∧ w' = w := Any.strings_CutPrefix lays103 s p w
def lays144_ren : Go.Shelf.Ren := ⟨fun | 144 => 147 | 143 => 176 | 219 => 203 | 217 => 210 | 225 => 211 | 224 => 212 | 267 => 213 | 266 => 214 | 314 => 215 | n => n, fun | 9 => 9 | 4 => 4 | 3 => 3 | 5 => 5 | 46 => 174 | 146 => 202 | 51 => 201 | n => n, fun | 1 => 0 | n => n⟩
theorem lays144 : Go.Proofs.Lays.n144 Tryz.prog lays144_ren := {
 mixed := by kernel_rfl
 f143 := Tryz.func176.trans (congrArg some (by kernel_rfl))
 f144 := Tryz.func147.trans (congrArg some (by kernel_rfl))
 f217 := Tryz.func210.trans (congrArg some (by kernel_rfl))
 f219 := Tryz.func203.trans (congrArg some (by kernel_rfl))
 f224 := Tryz.func212.trans (congrArg some (by kernel_rfl))
 f225 := Tryz.func211.trans (congrArg some (by kernel_rfl))
 f266 := Tryz.func214.trans (congrArg some (by kernel_rfl))
 f267 := Tryz.func213.trans (congrArg some (by kernel_rfl))
 f314 := Tryz.func215.trans (congrArg some (by kernel_rfl))
 t3 := Tryz.underlying3
 a3 := Tryz.isAgg3
 z3 := Tryz.sizeOf3
 v3 := Tryz.zeroValue3
 t4 := Tryz.underlying4
 a4 := Tryz.isAgg4
 z4 := Tryz.sizeOf4
 v4 := Tryz.zeroValue4
 t5 := Tryz.underlying5
 a5 := Tryz.isAgg5
 z5 := Tryz.sizeOf5
 v5 := Tryz.zeroValue5
 t9 := Tryz.underlying9
 a9 := Tryz.isAgg9
 z9 := Tryz.sizeOf9
 v9 := Tryz.zeroValue9
 t46 := Tryz.underlying174
 a46 := Tryz.isAgg174
 z46 := Tryz.sizeOf174
 v46 := Tryz.zeroValue174
 t51 := Tryz.underlying201
 a51 := Tryz.isAgg201
 z51 := Tryz.sizeOf201
 v51 := Tryz.zeroValue201
 t146 := Tryz.underlying202
 a146 := Tryz.isAgg202
 z146 := Tryz.sizeOf202
 v146 := Tryz.zeroValue202
 g1 := by kernel_rfl }
theorem strings_Contains (s sub : ByteArray) (m : Int) (w : World) (hs : s.size < 4294967281) (hm : w.cell? ⟨0, 0, none⟩ = some (.int .i64 m)) :
  Calls Tryz.prog 147 #[.string s, .string sub] w fun e w' => e = .returned (.bool (Lib.contains s.data.toList sub.data.toList)) ∧ w' = w := Any.strings_Contains lays144 s sub m w hs hm
def lays148_ren : Go.Shelf.Ren := ⟨fun | 148 => 59 | 222 => 95 | 223 => 96 | 269 => 132 | n => n, fun | 9 => 9 | 3 => 3 | 4 => 4 | 5 => 5 | 146 => 202 | 51 => 201 | 46 => 174 | n => n, fun | n => n⟩
theorem lays148 : Go.Proofs.Lays.n148 Tryz.prog lays148_ren := {
 mixed := by kernel_rfl
 f148 := Tryz.func59.trans (congrArg some (by kernel_rfl))
 f222 := Tryz.func95.trans (congrArg some (by kernel_rfl))
 f223 := Tryz.func96.trans (congrArg some (by kernel_rfl))
 f269 := Tryz.func132.trans (congrArg some (by kernel_rfl))
 t3 := Tryz.underlying3
 a3 := Tryz.isAgg3
 z3 := Tryz.sizeOf3
 v3 := Tryz.zeroValue3
 t4 := Tryz.underlying4
 a4 := Tryz.isAgg4
 z4 := Tryz.sizeOf4
 v4 := Tryz.zeroValue4
 t5 := Tryz.underlying5
 a5 := Tryz.isAgg5
 z5 := Tryz.sizeOf5
 v5 := Tryz.zeroValue5
 t9 := Tryz.underlying9
 a9 := Tryz.isAgg9
 z9 := Tryz.sizeOf9
 v9 := Tryz.zeroValue9
 t46 := Tryz.underlying174
 a46 := Tryz.isAgg174
 z46 := Tryz.sizeOf174
 v46 := Tryz.zeroValue174
 t51 := Tryz.underlying201
 a51 := Tryz.isAgg201
 z51 := Tryz.sizeOf201
 v51 := Tryz.zeroValue201
 t146 := Tryz.underlying202
 a146 := Tryz.isAgg202
 z146 := Tryz.sizeOf202
 v146 := Tryz.zeroValue202 }
theorem strings_LastIndex_one (s sub : ByteArray) (h1 : sub.size = 1) (hs : s.size < 4611686018427387904) (w : World) :
  Calls Tryz.prog 59 #[.string s, .string sub] w fun e w' => e = .returned (.int .i64 (Lib.lastIndexByte s ((sub[0]'(by omega)).toNat : Int))) ∧ w' = w := Any.strings_LastIndex_one lays148 s sub h1 hs w
def lays146_ren : Go.Shelf.Ren := ⟨fun | 146 => 89 | 221 => 130 | 268 => 174 | 138 => 175 | 143 => 176 | 195 => 200 | 197 => 201 | 218 => 202 | 219 => 203 | 260 => 209 | 217 => 210 | 225 => 211 | 224 => 212 | 267 => 213 | 266 => 214 | 314 => 215 | n => n, fun | 9 => 9 | 31 => 36 | 3 => 3 | 4 => 4 | 0 => 0 | 105 => 253 | 21 => 21 | 5 => 5 | 46 => 174 | 119 => 261 | 139 => 264 | 138 => 263 | 146 => 202 | 51 => 201 | n => n, fun | 1 => 0 | 3 => 1 | 4 => 2 | n => n⟩
theorem lays146 : Go.Proofs.Lays.n146 Tryz.prog lays146_ren := {
 mixed := by kernel_rfl
 f138 := Tryz.func175.trans (congrArg some (by kernel_rfl))
 f143 := Tryz.func176.trans (congrArg some (by kernel_rfl))
 f146 := Tryz.func89.trans (congrArg some (by kernel_rfl))
 f195 := Tryz.func200.trans (congrArg some (by kernel_rfl))
 f197 := Tryz.func201.trans (congrArg some (by kernel_rfl))
 f217 := Tryz.func210.trans (congrArg some (by kernel_rfl))
 f218 := Tryz.func202.trans (congrArg some (by kernel_rfl))
 f219 := Tryz.func203.trans (congrArg some (by kernel_rfl))
 f221 := Tryz.func130.trans (congrArg some (by kernel_rfl))
 f224 := Tryz.func212.trans (congrArg some (by kernel_rfl))
 f225 := Tryz.func211.trans (congrArg some (by kernel_rfl))
 f260 := Tryz.func209.trans (congrArg some (by kernel_rfl))
 f266 := Tryz.func214.trans (congrArg some (by kernel_rfl))
 f267 := Tryz.func213.trans (congrArg some (by kernel_rfl))
 f268 := Tryz.func174.trans (congrArg some (by kernel_rfl))
 f314 := Tryz.func215.trans (congrArg some (by kernel_rfl))
 t0 := Tryz.underlying0
 a0 := Tryz.isAgg0
 z0 := Tryz.sizeOf0
 v0 := Tryz.zeroValue0
 t3 := Tryz.underlying3
 a3 := Tryz.isAgg3
 z3 := Tryz.sizeOf3
 v3 := Tryz.zeroValue3
 t4 := Tryz.underlying4
 a4 := Tryz.isAgg4
 z4 := Tryz.sizeOf4
 v4 := Tryz.zeroValue4
 t5 := Tryz.underlying5
 a5 := Tryz.isAgg5
 z5 := Tryz.sizeOf5
 v5 := Tryz.zeroValue5
 t9 := Tryz.underlying9
 a9 := Tryz.isAgg9
 z9 := Tryz.sizeOf9
 v9 := Tryz.zeroValue9
 t21 := Tryz.underlying21
 a21 := Tryz.isAgg21
 z21 := Tryz.sizeOf21
 v21 := Tryz.zeroValue21
 t31 := Tryz.underlying36
 a31 := Tryz.isAgg36
 z31 := Tryz.sizeOf36
 v31 := Tryz.zeroValue36
 t46 := Tryz.underlying174
 a46 := Tryz.isAgg174
 z46 := Tryz.sizeOf174
 v46 := Tryz.zeroValue174
 t51 := Tryz.underlying201
 a51 := Tryz.isAgg201
 z51 := Tryz.sizeOf201
 v51 := Tryz.zeroValue201
 t105 := Tryz.underlying253
 a105 := Tryz.isAgg253
 z105 := Tryz.sizeOf253
 v105 := Tryz.zeroValue253
 t119 := Tryz.underlying261
 a119 := Tryz.isAgg261
 z119 := Tryz.sizeOf261
 t138 := Tryz.underlying263
 a138 := Tryz.isAgg263
 z138 := Tryz.sizeOf263
 v138 := Tryz.zeroValue263
 t139 := Tryz.underlying264
 a139 := Tryz.isAgg264
 z139 := Tryz.sizeOf264
 v139 := Tryz.zeroValue264
 t146 := Tryz.underlying202
 a146 := Tryz.isAgg202
 z146 := Tryz.sizeOf202
 v146 := Tryz.zeroValue202
 g1 := by kernel_rfl
 g3 := by kernel_rfl
 g4 := by kernel_rfl }
theorem strings_Split (s sep : ByteArray) (m : Int) (w : World) (hs : s.size < 4294967281) (hm : w.cell? ⟨0, 0, none⟩ = some (.int .i64 m)) (h1 : 1 ≤ sep.size) :
  Calls Tryz.prog 89 #[.string s, .string sep] w fun e w' =>
   e = .returned (.slice (some ⟨w.heap.size, 0, none⟩) (Lib.countB s sep + 1) (Lib.countB s sep + 1)) ∧ w' = w.alloc (.cells ((Lib.splitB sep 0 (Lib.countB s sep) s).map Value.string).toArray 9) := Any.strings_Split lays146 (by kernel_rfl) s sep m w hs hm h1
end Go.Proofs.YtcajnfkkokeeeaaGreatDoor
end

section
namespace Go.Eng
variable [Glob]
open Go.RowKit (Below)
theorem FnOk.of_same {P : Program} {f : FuncId} {l : List Value} {v : Value} (hc : ∀ (xs : Array Value) (w : World), (callFunc f xs).run P w = .ok (.enter f xs) w) (hG : Glob.g = some 0)
  (h : ∀ w : World, w.cell? ⟨0, 0, none⟩ = some (.int .i64 Glob.n) → Calls P f l.toArray w fun e w' => e = .returned v ∧ w' = w) : FnOk P f (l.map V.sc) (absV v) := by
 refine ⟨hc, fun F hg w xs hF hx => ?_⟩
 have hxs : xs = l.toArray := by
  rw [← Array.toArray_toList (xs := xs)]
  congr 1
  refine List.ext_getElem? fun i => ?_
  cases hi : l[i]? with
  | none =>
   have h1 := hx.1
   rw [List.length_map] at h1
   rw [List.getElem?_eq_none (by have := List.getElem?_eq_none_iff.1 hi; omega)]
  | some a =>
   obtain ⟨y, hy, hr⟩ := hx.get (i := i) (v := .sc a) (by rw [List.getElem?_map, hi]; rfl)
   rw [hy, rep_sc hr]
 rw [hxs]
 refine (h w (hF _ _ (hg.n 0 hG))).mono ?_
 rintro e w' ⟨rfl, rfl⟩
 exact ⟨F, _, rfl, fun _ _ h => h, hF, fun _ _ h => .inl h, ⟨hg, absV_rep _ _⟩, Below.refl _ _⟩
end Go.Eng
namespace Go.Proofs.YtcajnfkkokeeeaaGreatDoor
open Go.Eng
open Go.RowKit (Below)
variable [Glob]
theorem contains_ok (hG : Glob.g = some 0) (s t : ByteArray) (hs : s.size < 4294967281) : FnOk Tryz.prog 147 [str s, str t] (bl (Lib.contains s.data.toList t.data.toList)) :=
 FnOk.of_same (l := [.string s, .string t]) Tryz.call147 hG fun w hw => strings_Contains s t Glob.n w hs hw
theorem cutPre_ok (hG : Glob.g = some 0) (s t : ByteArray) : FnOk Tryz.prog 131 [str s, str t] (.tup [str ⟨(Lib.trimPrefix s.data.toList t.data.toList).toArray⟩, bl (Lib.hasPrefix s.data.toList t.data.toList)]) :=
 FnOk.of_same (l := [.string s, .string t]) Tryz.call131 hG fun w _ => strings_CutPrefix s t w
theorem lastIx_ok (hG : Glob.g = some 0) (s : ByteArray) (hs : s.size < 4611686018427387904) : FnOk Tryz.prog 59 [str s, str ⟨#[47]⟩] (num (Lib.lastIndexByte s 47)) :=
 FnOk.of_same (l := [.string s, .string ⟨#[47]⟩]) Tryz.call59 hG fun w _ => strings_LastIndex_one s ⟨#[47]⟩ rfl hs w
def pieces (s : ByteArray) : List ByteArray := Lib.splitB ⟨#[47]⟩ 0 (Lib.countB s ⟨#[47]⟩) s
theorem pieces_length (s : ByteArray) : (pieces s).length = Lib.countB s ⟨#[47]⟩ + 1 := Lib.splitB_all ⟨#[47]⟩ (by decide) 0 _ s rfl
theorem split_ok (hG : Glob.g = some 0) (s : ByteArray) (hs : s.size < 4294967281) : FnOk Tryz.prog 89 [str s, str ⟨#[47]⟩] (.slice ((pieces s).map str)) := by
 refine ⟨Tryz.call89, fun F hg w xs hF hx => ?_⟩
 obtain ⟨x, ys, hxs, hr, hrest⟩ := hx.of_cons
 obtain ⟨y, zs, hys, hr2, hz⟩ := hrest.of_cons
 have hzs := hz.of_nil
 subst hzs
 have h1 := rep_sc hr
 have h2 := rep_sc hr2
 subst h1; subst h2; subst hys
 obtain rfl : xs = #[.string s, .string ⟨#[47]⟩] := by rw [← Array.toArray_toList (xs := xs), hxs]
 refine (strings_Split s ⟨#[47]⟩ Glob.n w hs (hF _ _ (hg.n 0 hG)) (by decide)).mono ?_
 rintro e w' ⟨rfl, rfl⟩
 have hold : ∀ ad y, F ad = some y → ad.block ≠ w.heap.size := fun ad y h e => by
  have := World.block_lt_of_cell? w ad (hF ad y h); omega
 have hnew : ∀ o, (w.alloc (.cells ((pieces s).map Value.string).toArray 9)).cell? ⟨w.heap.size, o, none⟩ = ((pieces s).map Value.string)[o]? := fun o => by
  unfold World.cell? World.alloc
  simp
 let F' : Addr → Option Value := fun ad => if ad.block = w.heap.size then (w.alloc (.cells ((pieces s).map Value.string).toArray 9)).cell? ad else F ad
 have hFF : ∀ ad y, F ad = some y → F' ad = some y := fun ad y h => by
  show (if _ then _ else _) = _
  rw [if_neg (hold ad y h)]; exact h
 have hg' : Gl F' := hg.mono hFF
 refine ⟨F', _, rfl, hFF, fun ad y h => ?_, fun ad y h => ?_, ⟨hg', ?_⟩, (Below.refl _ _).alloc (Nat.le_refl _) _⟩
 ·by_cases hb : ad.block = w.heap.size
  ·rw [show F' ad = _ from if_pos hb] at h; exact h
  ·rw [show F' ad = _ from if_neg hb] at h
   have h3 := hF ad y h
   rw [← h3]
   have hlt := World.block_lt_of_cell? w ad h3
   unfold World.cell?
   rw [Below.heap_alloc w _ _ hlt]
 ·by_cases hb : ad.block = w.heap.size
  ·exact .inr (by omega)
  ·rw [show F' ad = _ from if_neg hb] at h; exact .inl h
 ·have hl : ((pieces s).map str).length = Lib.countB s ⟨#[47]⟩ + 1 := by rw [List.length_map, pieces_length]
  have := Rep.slice ⟨F', fun _ _ => none, hg'⟩ ((pieces s).map str) (some ⟨w.heap.size, 0, none⟩) (Lib.countB s ⟨#[47]⟩ + 1) 1 ⟨w.heap.size, 0, none⟩ (fun i _ => (((pieces s).map Value.string)[i]?).getD undef) (fun _ => rfl) (by rw [hl]; exact Nat.le_refl _)
   (fun i row hi => by rw [List.getElem?_map, Option.map_eq_some_iff] at hi; obtain ⟨u, -, rfl⟩ := hi; rfl)
   (fun i row j c hi hj => by
    rw [List.getElem?_map, Option.map_eq_some_iff] at hi
    obtain ⟨u, hu, rfl⟩ := hi
    match j, hj with
    | 0, hj =>
     show F' _ = _
     rw [add_lit, show F' _ = _ from if_pos rfl, hnew]
     simp [hu]
    | j + 1, hj => simp [V.cells] at hj)
   (fun i row j c hi hj => by
    rw [List.getElem?_map, Option.map_eq_some_iff] at hi
    obtain ⟨u, hu, rfl⟩ := hi
    simp [hu, Value.oneCell'])
   (fun i row j c hi hj => by
    rw [List.getElem?_map, Option.map_eq_some_iff] at hi
    obtain ⟨u, hu, rfl⟩ := hi
    match j, hj with
    | 0, hj =>
     cases hj
     simp only [List.getElem?_map,hu,Option.map_some,Option.getD_some]
     exact .sc _ _
    | j + 1, hj => simp [V.cells] at hj)
  rw [hl] at this
  exact this
end Go.Proofs.YtcajnfkkokeeeaaGreatDoor
end

section
namespace Go.Proofs.YtcajnfkkokeeeaaGreatDoor
open Go.Eng
open Nat renaming reduceAdd → zA, reduceLT → zB, reduceLeDiff → zC, reduceMul → zD, reduceEqDiff → zE, reduceSub → zF
variable [Glob]
set_option maxHeartbeats 4000000
set_option maxRecDepth 100000
def kwTab : ByteArray := ⟨#[32,97,110,100,32,97,110,121,32,97,115,32,98,111,111,108,32,100,101,112,114,101,99,97,116,101,100,32,101,108,115,101,32,101,120,112,111,114,116,32,102,97,108,115,101,32,102,110,32,102,111,108,100,32,102,114,111,109,32,105,102,32,105,109,112,111,114,116,32,105,110,32,105,110,116,32,108,101,110,103,116,104,32,108,101,116,32,108,105,115,116,32,109,97,116,99,104,32,109,111,100,117,108,101,32,110,111,110,101,32,110,111,116,32,111,114,32,116,101,120,116,32,116,104,101,110,32,116,114,117,101,32,116,121,112,101,32,117,115,101,32]⟩
def kwB (s : ByteArray) : Bool := Lib.contains kwTab.data.toList (⟨#[32]⟩ ++ s ++ ⟨#[32]⟩ : ByteArray).data.toList
def nameB (s : ByteArray) : Bool := decide (1 ≤ s.size) && decide (s.size ≤ 32) && isSm (byteAt s 0) && allP isWd s && !kwB s
def segB (s : ByteArray) : Bool := nameB s && allP isSd s
def cutVee (s : ByteArray) : ByteArray := ⟨(Lib.trimPrefix s.data.toList [118]).toArray⟩
def hasVee (s : ByteArray) : Bool := Lib.hasPrefix s.data.toList [118]
def decL (t : ByteArray) : Nat → Int
 | 0 => 0
 | k + 1 => 10 * decL t k + (byteAt t k - 48)
def verT (t : ByteArray) : Bool := decide (1 ≤ t.size) && decide (t.size ≤ 3) && !(decide (1 < t.size) && decide (byteAt t 0 = 48)) && allP isDg t
def verOk (s : ByteArray) : Bool := hasVee s && verT (cutVee s)
def verN (s : ByteArray) : Int := decL (cutVee s) (cutVee s).size
theorem allP_get {p : Int → Bool} {s : ByteArray} (h : allP p s = true) {i : Nat} {c : UInt8} (hc : s[i]? = some c) : p c.toNat = true := List.all_eq_true.1 h c (List.mem_of_getElem? (byte_get hc))
theorem decL_bound {t : ByteArray} (h : allP isDg t = true) : ∀ k, k ≤ t.size → 0 ≤ decL t k ∧ decL t k < 10 ^ k
 | 0, _ => ⟨Int.le_refl _, by simp [decL]⟩
 | k + 1, hk => by
  obtain ⟨h1, h2⟩ := decL_bound h k (by omega)
  obtain ⟨c, hc⟩ := get_byte (s := t) (i := k) (by omega)
  have h3 := allP_get h hc
  unfold isDg at h3
  simp only [Bool.and_eq_true,decide_eq_true_eq] at h3
  rw [decL, byteAt_of hc, Int.pow_succ]
  omega
theorem decL_3 {t : ByteArray} (h : allP isDg t = true) (h3 : t.size ≤ 3) {k : Nat} (hk : k ≤ t.size) : 0 ≤ decL t k ∧ decL t k < 1000 := by
 obtain ⟨h1, h2⟩ := decL_bound h k hk
 refine ⟨h1, Int.lt_of_lt_of_le h2 ?_⟩
 have : k = 0 ∨ k = 1 ∨ k = 2 ∨ k = 3 := by omega
 rcases this with rfl | rfl | rfl | rfl <;> decide
theorem keyword_ok (hG : Glob.g = some 0) (s : ByteArray) (hs : s.size ≤ 1000000) : ∃ r_, (fun w => w = bl (kwB s)) r_ ∧ FnOk Tryz.prog 105 [str s] r_ := by
 refine vfn tt_ok [] 7 [.tmp 2] (fn := Tryz.f105) Tryz.func105 rfl Tryz.call105 ⟨rfl, rfl, by simp⟩ fun K hK => ?_
 have sa1 := fun x y => ev_sadd Tryz.prog 9 x y ⟨#[32]⟩ s (by rw [show (⟨#[32]⟩ : ByteArray).size = 1 from rfl, show IntKind.i64.max = 9223372036854775807 from rfl]; omega)
 have sa2 := fun x y => ev_sadd Tryz.prog 9 x y (⟨#[32]⟩ ++ s) ⟨#[32]⟩ (by rw [ByteArray.size_append, show (⟨#[32]⟩ : ByteArray).size = 1 from rfl, show IntKind.i64.max = 9223372036854775807 from rfl]; omega)
 simp only [sa1,sa2,go_sem,reduceIte,zA,zB,zC,zD,zE,zF,reduceCtorEq]
 refine cF (⟨_, rfl, contains_ok hG _ _ (by decide)⟩) ?_
 rintro _ rfl
 simp only [sa1,sa2,go_sem,reduceIte,zA,zB,zC,zD,zE,zF,reduceCtorEq]
 exact hK _ rfl
theorem isName_ok (hG : Glob.g = some 0) (s : ByteArray) : ∃ r_, (fun w => w = bl (nameB s)) r_ ∧ FnOk Tryz.prog 66 [str s] r_ := by
 refine vfn tt_ok [] 24 [.tmp 2] (fn := Tryz.f66) Tryz.func66 rfl Tryz.call66 ⟨rfl, rfl, by simp⟩ fun K hK => ?_
 have hT9 : Tryz.prog.underlying 9 = some .string := by kernel_rfl
 have sl : ∀ (a : ByteArray) (ty : TypeId), liftL Tryz.prog (Builtin.len_ #[9] ty) [.sc (.string a)] = some (num a.size) := fun a ty => ev_slen (P := Tryz.prog) (tt := tt) (T := 9) a hT9 ty
 simp only [sl,go_sem,reduceIte,zA,zB,zC,zD,zE,zF,reduceCtorEq]
 refine gif (fun hb1_2 => ?_) (fun hb1_2 => ?_)
 ·have h1 := size_ne rfl hb1_2
  obtain ⟨cv0, hcbv0⟩ := get_byte (s := s) (i := (0 : Int).toNat) (by omega)
  have hixv0 := ev_index (P := Tryz.prog) s hT9 .i64 (0) (by omega) (c := cv0) hcbv0
  have hb0 : byteAt s 0 = cv0.toNat := byteAt_of hcbv0
  simp only [hixv0,sl,go_sem,reduceIte,zA,zB,zC,zD,zE,zF,reduceCtorEq]
  refine gif (fun hb1_7 => ?_) (fun hb1_7 => ?_)
  ·simp only [hixv0,sl,go_sem,reduceIte,zA,zB,zC,zD,zE,zF,reduceCtorEq]
   refine cF (small_ex _) ?_
   rintro _ rfl
   simp only [hixv0,sl,go_sem,reduceIte,zA,zB,zC,zD,zE,zF,reduceCtorEq]
   refine gif (fun hb1_12 => ?_) (fun hb1_12 => ?_)
   ·simp only [hixv0,sl,go_sem,reduceIte,zA,zB,zC,zD,zE,zF,reduceCtorEq]
    refine cF (all_ex 104 isWd word_ex s (by have := of_decide_eq_true hb1_7; omega)) ?_
    rintro _ rfl
    simp only [hixv0,sl,go_sem,reduceIte,zA,zB,zC,zD,zE,zF,reduceCtorEq]
    refine gif (fun hb1_16 => ?_) (fun hb1_16 => ?_)
    ·simp only [hixv0,sl,go_sem,reduceIte,zA,zB,zC,zD,zE,zF,reduceCtorEq]
     refine cF (keyword_ok hG s (by have := of_decide_eq_true hb1_7; omega)) ?_
     rintro _ rfl
     simp only [hixv0,sl,go_sem,reduceIte,zA,zB,zC,zD,zE,zF,reduceCtorEq]
     exact hK _ (congrArg bl (by simp_all [nameB] <;> (intros; omega)))
    ·simp only [hixv0,sl,go_sem,reduceIte,zA,zB,zC,zD,zE,zF,reduceCtorEq]
     exact hK _ (congrArg bl (by simp_all [nameB] <;> (intros; omega)))
   ·simp only [hixv0,sl,go_sem,reduceIte,zA,zB,zC,zD,zE,zF,reduceCtorEq]
    exact hK _ (congrArg bl (by simp_all [nameB] <;> (intros; omega)))
  ·simp only [hixv0,sl,go_sem,reduceIte,zA,zB,zC,zD,zE,zF,reduceCtorEq]
   exact hK _ (congrArg bl (by simp_all [nameB] <;> (intros; omega)))
 ·have h1 := size_eq0 rfl hb1_2
  simp only [sl,go_sem,reduceIte,zA,zB,zC,zD,zE,zF,reduceCtorEq]
  exact hK _ (congrArg bl (by simp_all [nameB] <;> (intros; omega)))
theorem version_ok (hG : Glob.g = some 0) (s : ByteArray) : ∃ r_, (fun w => w = .tup [num (if verOk s = true then verN s else 0), bl (verOk s)]) r_ ∧ FnOk Tryz.prog 90 [str s] r_ := by
 refine vfn tt_ok [] 53 [.tmp 2, .tmp 3] (fn := Tryz.f90) Tryz.func90 rfl Tryz.call90 ⟨rfl, rfl, by simp⟩ fun K hK => ?_
 have hT9 : Tryz.prog.underlying 9 = some .string := by kernel_rfl
 have sl : ∀ (a : ByteArray) (ty : TypeId), liftL Tryz.prog (Builtin.len_ #[9] ty) [.sc (.string a)] = some (num a.size) := fun a ty => ev_slen (P := Tryz.prog) (tt := tt) (T := 9) a hT9 ty
 have hT5 : Tryz.prog.underlying 5 = some (.int .u8) := by kernel_rfl
 have hT3 : Tryz.prog.underlying 3 = some (.int .i64) := by kernel_rfl
 have cv := fun (k : IntKind) (n : Int) => ev_conv (P := Tryz.prog) (src := 5) (dst := 3) hT5 hT3 k n
 simp only [sl,cv,go_sem,reduceIte,zA,zB,zC,zD,zE,zF,reduceCtorEq]
 refine cF (⟨_, rfl, cutPre_ok hG s ⟨#[118]⟩⟩) ?_
 rintro _ rfl
 obtain ⟨t, ht⟩ : ∃ t, t = cutVee s := ⟨_, rfl⟩
 obtain ⟨hv, hhv⟩ : ∃ b, b = hasVee s := ⟨_, rfl⟩
 have e1 : (⟨(Lib.trimPrefix s.data.toList [118]).toArray⟩ : ByteArray) = t := ht.symm
 have e2 : Lib.hasPrefix s.data.toList [118] = hv := hhv.symm
 have hvo : verOk s = (hv && verT t) := by rw [hhv, ht]; rfl
 simp only [e1,e2]
 simp only [sl,cv,go_sem,reduceIte,zA,zB,zC,zD,zE,zF,reduceCtorEq]
 refine gif (fun hb2_2 => ?_) (fun hb2_2 => ?_)
 ·have hno : verOk s = false := by rw [hvo]; simp_all [verT] <;> (intros; omega)
  simp only [sl,cv,go_sem,reduceIte,zA,zB,zC,zD,zE,zF,reduceCtorEq]
  refine hK _ ?_
  first
   | (rw [hno]; rfl)
   | (rw [hok]; subst hge; unfold verN; rw [← ht]; rfl)
 ·simp only [sl,cv,go_sem,reduceIte,zA,zB,zC,zD,zE,zF,reduceCtorEq]
  refine gif (fun hb2_6 => ?_) (fun hb2_6 => ?_)
  ·have h1 : t.size = 0 := size_eq0 (e := ⟨#[]⟩) rfl (by rw [hb2_6]; rfl)
   have hno : verOk s = false := by rw [hvo]; simp_all [verT] <;> (intros; omega)
   simp only [sl,cv,go_sem,reduceIte,zA,zB,zC,zD,zE,zF,reduceCtorEq]
   refine hK _ ?_
   first
    | (rw [hno]; rfl)
    | (rw [hok]; subst hge; unfold verN; rw [← ht]; rfl)
  ·have h1 : 1 ≤ t.size := size_ne (e := ⟨#[]⟩) rfl (by rw [hb2_6]; rfl)
   obtain ⟨cv0, hcbv0⟩ := get_byte (s := t) (i := (0 : Int).toNat) (by omega)
   have hixv0 := ev_index (P := Tryz.prog) t hT9 .i64 (0) (by omega) (c := cv0) hcbv0
   have hb0 : byteAt t 0 = cv0.toNat := byteAt_of hcbv0
   simp only [hixv0,sl,cv,go_sem,reduceIte,zA,zB,zC,zD,zE,zF,reduceCtorEq]
   refine gif (fun hb2_11 => ?_) (fun hb2_11 => ?_)
   ·have hno : verOk s = false := by rw [hvo]; simp_all [verT] <;> (intros; omega)
    simp only [hixv0,sl,cv,go_sem,reduceIte,zA,zB,zC,zD,zE,zF,reduceCtorEq]
    refine hK _ ?_
    first
     | (rw [hno]; rfl)
     | (rw [hok]; subst hge; unfold verN; rw [← ht]; rfl)
   ·simp only [hixv0,sl,cv,go_sem,reduceIte,zA,zB,zC,zD,zE,zF,reduceCtorEq]
    refine gif (fun hb2_15 => ?_) (fun hb2_15 => ?_)
    ·simp only [hixv0,sl,cv,go_sem,reduceIte,zA,zB,zC,zD,zE,zF,reduceCtorEq]
     refine gif (fun hb2_21 => ?_) (fun hb2_21 => ?_)
     ·have hno : verOk s = false := by rw [hvo]; simp_all [verT] <;> (intros; omega)
      simp only [hixv0,sl,cv,go_sem,reduceIte,zA,zB,zC,zD,zE,zF,reduceCtorEq]
      refine hK _ ?_
      first
       | (rw [hno]; rfl)
       | (rw [hok]; subst hge; unfold verN; rw [← ht]; rfl)
     ·simp only [hixv0,sl,cv,go_sem,reduceIte,zA,zB,zC,zD,zE,zF,reduceCtorEq]
      refine cF (all_ex 94 isDg digit_ex t (by have := of_decide_eq_false hb2_11; omega)) ?_
      rintro _ rfl
      simp only [hixv0,sl,cv,go_sem,reduceIte,zA,zB,zC,zD,zE,zF,reduceCtorEq]
      refine gif (fun hc37 => ?_) (fun hc37 => ?_)
      ·have hno : verOk s = false := by rw [hvo]; simp_all [verT] <;> (intros; omega)
       simp only [hixv0,sl,cv,go_sem,reduceIte,zA,zB,zC,zD,zE,zF,reduceCtorEq]
       refine hK _ ?_
       first
        | (rw [hno]; rfl)
        | (rw [hok]; subst hge; unfold verN; rw [← ht]; rfl)
      ·have hok : verOk s = true := by rw [hvo]; simp_all [verT] <;> (intros; omega)
       have hvt : verT t = true := by rw [hvo] at hok; simp at hok; exact hok.2
       have hdg : allP isDg t = true := by unfold verT at hvt; simp only [Bool.and_eq_true] at hvt; exact hvt.2
       have h3 : t.size ≤ 3 := by unfold verT at hvt; simp only [Bool.and_eq_true,decide_eq_true_eq] at hvt; exact hvt.1.1.2
       simp only [hixv0,sl,cv,go_sem,reduceIte,zA,zB,zC,zD,zE,zF,reduceCtorEq]
       refine xloopL tt_ok [] [40,5] 0 [0,2,3,37,39] (fun vs => ((t.size : Int) - Go.Eng.intOf (vs.headD .undef)).toNat) (fun vs => ∃ i : Nat, vs = [num i, num (decL t i)] ∧ i ≤ t.size) (by omega) (by simp only [hixv0,sl,cv,go_sem,reduceIte,zA,zB,zC,zD,zE,zF,reduceCtorEq]) (⟨0, rfl, Nat.zero_le _⟩) fun vs hI Z1 hZ1 => ?_
       obtain ⟨i, rfl, hi⟩ := hI
       simp only [hixv0,sl,cv,go_sem,reduceIte,zA,zB,zC,zD,zE,zF,reduceCtorEq]
       refine gif (fun hc41 => ?_) (fun hc41 => ?_)
       ·have hlt : i < t.size := by simpa using hc41
        have hw := i64_succ i (by omega)
        obtain ⟨c, hcb⟩ := get_byte (s := t) (i := i) hlt
        have hix := ev_index (P := Tryz.prog) t hT9 .i64 (i : Int) (by omega) (c := c) (show t[((i : Nat) : Int).toNat]? = some c from hcb)
        have hcd := allP_get hdg hcb
        unfold isDg at hcd
        simp only [Bool.and_eq_true,decide_eq_true_eq] at hcd
        obtain ⟨hd0, hd1⟩ := decL_3 hdg h3 hi
        have hu : IntKind.u8.wrap ((c.toNat : Int) - 48) = (c.toNat : Int) - 48 := by have h := c.toNat_lt; simp only [IntKind.wrap,IntKind.bits,IntKind.signed]; simp; omega
        have hw48 : IntKind.i64.wrap ((c.toNat : Int) - 48) = (c.toNat : Int) - 48 := IntWalk.i64_in _ (by omega)
        have hw10 : IntKind.i64.wrap (10 * decL t i) = 10 * decL t i := IntWalk.i64_in _ (by omega)
        have hws : IntKind.i64.wrap (10 * decL t i + ((c.toNat : Int) - 48)) = decL t (i + 1) := by rw [decL, byteAt_of hcb]; exact IntWalk.i64_in _ (by omega)
        simp only [hixv0,hw,hix,hu,hw48,hw10,hws,sl,cv,go_sem,reduceIte,zA,zB,zC,zD,zE,zF,reduceCtorEq]
        refine hZ1 _ (endK (by omega) (by simp only [hixv0,hw,hix,hu,hw48,hw10,hws,sl,cv,go_sem,reduceIte,zA,zB,zC,zD,zE,zF,reduceCtorEq]) ?_ ?_) <;> simp only [lks,lk,reduceIte,zE]
        ·exact ⟨i + 1, rfl, hlt⟩
        ·simp only [Go.Eng.intOf,List.headD_cons]; omega
       ·have hge : i = t.size := Nat.le_antisymm hi (Nat.le_of_not_lt (by simpa using hc41))
        simp only [hixv0,sl,cv,go_sem,reduceIte,zA,zB,zC,zD,zE,zF,reduceCtorEq]
        refine hK _ ?_
        first
         | (rw [hno]; rfl)
         | (rw [hok]; subst hge; unfold verN; rw [← ht]; rfl)
    ·simp only [hixv0,sl,cv,go_sem,reduceIte,zA,zB,zC,zD,zE,zF,reduceCtorEq]
     refine cF (all_ex 94 isDg digit_ex t (by have := of_decide_eq_false hb2_11; omega)) ?_
     rintro _ rfl
     simp only [hixv0,sl,cv,go_sem,reduceIte,zA,zB,zC,zD,zE,zF,reduceCtorEq]
     refine gif (fun hc37 => ?_) (fun hc37 => ?_)
     ·have hno : verOk s = false := by rw [hvo]; simp_all [verT] <;> (intros; omega)
      simp only [hixv0,sl,cv,go_sem,reduceIte,zA,zB,zC,zD,zE,zF,reduceCtorEq]
      refine hK _ ?_
      first
       | (rw [hno]; rfl)
       | (rw [hok]; subst hge; unfold verN; rw [← ht]; rfl)
     ·have hok : verOk s = true := by rw [hvo]; simp_all [verT] <;> (intros; omega)
      have hvt : verT t = true := by rw [hvo] at hok; simp at hok; exact hok.2
      have hdg : allP isDg t = true := by unfold verT at hvt; simp only [Bool.and_eq_true] at hvt; exact hvt.2
      have h3 : t.size ≤ 3 := by unfold verT at hvt; simp only [Bool.and_eq_true,decide_eq_true_eq] at hvt; exact hvt.1.1.2
      simp only [hixv0,sl,cv,go_sem,reduceIte,zA,zB,zC,zD,zE,zF,reduceCtorEq]
      refine xloopL tt_ok [] [40,5] 0 [0,2,3,37,39] (fun vs => ((t.size : Int) - Go.Eng.intOf (vs.headD .undef)).toNat) (fun vs => ∃ i : Nat, vs = [num i, num (decL t i)] ∧ i ≤ t.size) (by omega) (by simp only [hixv0,sl,cv,go_sem,reduceIte,zA,zB,zC,zD,zE,zF,reduceCtorEq]) (⟨0, rfl, Nat.zero_le _⟩) fun vs hI Z2 hZ2 => ?_
      obtain ⟨i, rfl, hi⟩ := hI
      simp only [hixv0,sl,cv,go_sem,reduceIte,zA,zB,zC,zD,zE,zF,reduceCtorEq]
      refine gif (fun hc41 => ?_) (fun hc41 => ?_)
      ·have hlt : i < t.size := by simpa using hc41
       have hw := i64_succ i (by omega)
       obtain ⟨c, hcb⟩ := get_byte (s := t) (i := i) hlt
       have hix := ev_index (P := Tryz.prog) t hT9 .i64 (i : Int) (by omega) (c := c) (show t[((i : Nat) : Int).toNat]? = some c from hcb)
       have hcd := allP_get hdg hcb
       unfold isDg at hcd
       simp only [Bool.and_eq_true,decide_eq_true_eq] at hcd
       obtain ⟨hd0, hd1⟩ := decL_3 hdg h3 hi
       have hu : IntKind.u8.wrap ((c.toNat : Int) - 48) = (c.toNat : Int) - 48 := by have h := c.toNat_lt; simp only [IntKind.wrap,IntKind.bits,IntKind.signed]; simp; omega
       have hw48 : IntKind.i64.wrap ((c.toNat : Int) - 48) = (c.toNat : Int) - 48 := IntWalk.i64_in _ (by omega)
       have hw10 : IntKind.i64.wrap (10 * decL t i) = 10 * decL t i := IntWalk.i64_in _ (by omega)
       have hws : IntKind.i64.wrap (10 * decL t i + ((c.toNat : Int) - 48)) = decL t (i + 1) := by rw [decL, byteAt_of hcb]; exact IntWalk.i64_in _ (by omega)
       simp only [hixv0,hw,hix,hu,hw48,hw10,hws,sl,cv,go_sem,reduceIte,zA,zB,zC,zD,zE,zF,reduceCtorEq]
       refine hZ2 _ (endK (by omega) (by simp only [hixv0,hw,hix,hu,hw48,hw10,hws,sl,cv,go_sem,reduceIte,zA,zB,zC,zD,zE,zF,reduceCtorEq]) ?_ ?_) <;> simp only [lks,lk,reduceIte,zE]
       ·exact ⟨i + 1, rfl, hlt⟩
       ·simp only [Go.Eng.intOf,List.headD_cons]; omega
      ·have hge : i = t.size := Nat.le_antisymm hi (Nat.le_of_not_lt (by simpa using hc41))
       simp only [hixv0,sl,cv,go_sem,reduceIte,zA,zB,zC,zD,zE,zF,reduceCtorEq]
       refine hK _ ?_
       first
        | (rw [hno]; rfl)
        | (rw [hok]; subst hge; unfold verN; rw [← ht]; rfl)
end Go.Proofs.YtcajnfkkokeeeaaGreatDoor
end

section
namespace Go.Proofs.YtcajnfkkokeeeaaGreatDoor
open Go.Eng
open Nat renaming reduceAdd → zA, reduceLT → zB, reduceLeDiff → zC, reduceMul → zD, reduceEqDiff → zE, reduceSub → zF
variable [Glob]
set_option maxHeartbeats 4000000
set_option maxRecDepth 100000
def lastP (s : ByteArray) : ByteArray := (pieces s).getLast?.getD ⟨#[]⟩
def majOk (s : ByteArray) : Bool := verOk (lastP s) && decide (s.size ≤ 64) && decide (2 ≤ (pieces s).length) && (pieces s).all segB
def majN (s : ByteArray) : Int := if majOk s = true then verN (lastP s) else 0
def majE (s : ByteArray) : Int := if majOk s = true then 0 else 4
theorem pieces_le (s : ByteArray) : (pieces s).length ≤ s.size + 1 := by
 rw [pieces_length]
 have := Lib.countB_le ⟨#[47]⟩ (by decide) s.size s (Nat.le_refl _)
 omega
theorem lastP_at {s z : ByteArray} (h : (pieces s)[(pieces s).length - 1]? = some z) : lastP s = z := by
 unfold lastP
 rw [List.getLast?_eq_getElem?, h]; rfl
theorem all_of {α : Type} {q : α → Bool} {l : List α} (h : ∀ j < l.length, ∀ x, l[j]? = some x → q x = true) : l.all q = true := by
 rw [List.all_eq_true]
 intro x hx
 obtain ⟨j, hj⟩ := List.mem_iff_getElem?.1 hx
 exact h j (List.getElem?_eq_some_iff.1 hj).1 x hj
theorem all_no {α : Type} {q : α → Bool} {l : List α} {i : Nat} {x : α} (h : l[i]? = some x) (hq : q x = false) : l.all q = false := by
 cases ha : l.all q with
 | false => rfl
 | true => have := List.all_eq_true.1 ha x (List.mem_of_getElem? h); rw [hq] at this; cases this
theorem slash_of {s : ByteArray} (h : majOk s = true) : 0 ≤ Lib.lastIndexByte s 47 ∧ Lib.lastIndexByte s 47 ≤ s.size := by
 unfold majOk at h
 simp only [Bool.and_eq_true,decide_eq_true_eq] at h
 obtain ⟨⟨-, h2⟩, -⟩ := h
 rw [pieces_length] at h2
 have hc : Lib.countB s ⟨#[47]⟩ = s.data.toList.count 47 := by
  unfold Lib.countB
  exact Lib.count_one 47 s.data.toList
 have hm : (47 : UInt8) ∈ s.data.toList := List.count_pos_iff.1 (by omega)
 rcases Lib.lastIndexByte_spec s 47 with ⟨-, hno⟩ | ⟨i, hi, he, -⟩
 ·exfalso
  obtain ⟨j, hj⟩ := List.mem_iff_getElem?.1 hm
  have hjl : j < s.size := by have := (List.getElem?_eq_some_iff.1 hj).1; simpa using this
  refine hno j hjl ?_
  have h3 : s.data[j]? = some 47 := by simpa using hj
  rw [getElem!_pos s.data j (by simpa using hjl)]
  have := (Array.getElem?_eq_some_iff.1 h3).2
  rw [this]; rfl
 ·rw [he]; omega
theorem major_ok (hG : Glob.g = some 0) (s : ByteArray) (hs : s.size ≤ 1048576) : ∃ r_, (fun w => w = .tup [num (majN s), num (majE s)]) r_ ∧ FnOk Tryz.prog 57 [str s] r_ := by
 refine vfn tt_ok [] 49 [.tmp 2, .tmp 3] (fn := Tryz.f57) Tryz.func57 rfl Tryz.call57 ⟨rfl, rfl, by simp⟩ fun K hK => ?_
 have hT9 : Tryz.prog.underlying 9 = some .string := by kernel_rfl
 have sl : ∀ (a : ByteArray) (ty : TypeId), liftL Tryz.prog (Builtin.len_ #[9] ty) [.sc (.string a)] = some (num a.size) := fun a ty => ev_slen (P := Tryz.prog) (tt := tt) (T := 9) a hT9 ty
 simp only [sl,List.length_map,go_sem,reduceIte,zA,zB,zC,zD,zE,zF,reduceCtorEq]
 refine cF (⟨_, rfl, split_ok hG s (by omega)⟩) ?_
 rintro _ rfl
 obtain ⟨P, hP⟩ : ∃ P, P = pieces s := ⟨_, rfl⟩
 have hPl := pieces_le s
 have hP1 := pieces_length s
 rw [← hP]
 rw [← hP] at hPl hP1
 obtain ⟨z, hz⟩ : ∃ z, P[P.length - 1]? = some z := ⟨_, List.getElem?_eq_getElem (by omega)⟩
 have hlz : lastP s = z := lastP_at (by rw [← hP]; exact hz)
 have hwm : IntKind.i64.wrap ((P.length : Int) - 1) = ((P.length - 1 : Nat) : Int) := i64_c _ _ (by omega) (by omega)
 simp only [List.getElem?_map,hz,hwm,sl,List.length_map,go_sem,reduceIte,zA,zB,zC,zD,zE,zF,reduceCtorEq]
 refine cF (version_ok hG z) ?_
 rintro _ rfl
 simp only [List.getElem?_map,hz,hwm,sl,List.length_map,go_sem,reduceIte,zA,zB,zC,zD,zE,zF,reduceCtorEq]
 refine gif (fun hb3_2 => ?_) (fun hb3_2 => ?_)
 ·have hno : majOk s = false := by unfold majOk; rw [hlz, ← hP]; simp_all <;> (intros; omega)
  simp only [List.getElem?_map,hz,hwm,sl,List.length_map,go_sem,reduceIte,zA,zB,zC,zD,zE,zF,reduceCtorEq]
  refine hK _ ?_
  first
   | (unfold majN majE; rw [hno]; rfl)
   | (unfold majN majE; rw [hok, hlz]; simp_all; done)
   | (unfold majN majE; rw [hok, hlz]; simp_all; rfl)
 ·simp only [List.getElem?_map,hz,hwm,sl,List.length_map,go_sem,reduceIte,zA,zB,zC,zD,zE,zF,reduceCtorEq]
  refine gif (fun hb3_7 => ?_) (fun hb3_7 => ?_)
  ·have hno : majOk s = false := by unfold majOk; rw [hlz, ← hP]; simp_all <;> (intros; omega)
   simp only [List.getElem?_map,hz,hwm,sl,List.length_map,go_sem,reduceIte,zA,zB,zC,zD,zE,zF,reduceCtorEq]
   refine hK _ ?_
   first
    | (unfold majN majE; rw [hno]; rfl)
    | (unfold majN majE; rw [hok, hlz]; simp_all; done)
    | (unfold majN majE; rw [hok, hlz]; simp_all; rfl)
  ·simp only [List.getElem?_map,hz,hwm,sl,List.length_map,go_sem,reduceIte,zA,zB,zC,zD,zE,zF,reduceCtorEq]
   refine gif (fun hc32 => ?_) (fun hc32 => ?_)
   ·have hno : majOk s = false := by unfold majOk; rw [hlz, ← hP]; simp_all <;> (intros; omega)
    simp only [List.getElem?_map,hz,hwm,sl,List.length_map,go_sem,reduceIte,zA,zB,zC,zD,zE,zF,reduceCtorEq]
    refine hK _ ?_
    first
     | (unfold majN majE; rw [hno]; rfl)
     | (unfold majN majE; rw [hok, hlz]; simp_all; done)
     | (unfold majN majE; rw [hok, hlz]; simp_all; rfl)
   ·simp only [List.getElem?_map,hz,hwm,sl,List.length_map,go_sem,reduceIte,zA,zB,zC,zD,zE,zF,reduceCtorEq]
    refine xloopL tt_ok [] [35] 0 [5,32,33,34] (fun vs => ((P.length : Int) - Go.Eng.intOf (vs.headD .undef)).toNat) (fun vs => ∃ i : Nat, vs = [num i] ∧ i ≤ P.length ∧ ∀ j < i, ∀ x, P[j]? = some x → segB x = true) (by omega) (by simp only [List.getElem?_map,hz,hwm,sl,List.length_map,go_sem,reduceIte,zA,zB,zC,zD,zE,zF,reduceCtorEq]) (⟨0, rfl, Nat.zero_le _, fun j hj => absurd hj (Nat.not_lt_zero j)⟩) fun vs hI Z1 hZ1 => ?_
    obtain ⟨i, rfl, hi, hall⟩ := hI
    simp only [List.getElem?_map,hz,hwm,sl,List.length_map,go_sem,reduceIte,zA,zB,zC,zD,zE,zF,reduceCtorEq]
    refine gif (fun hc36 => ?_) (fun hc36 => ?_)
    ·have hlt : i < P.length := by simpa using hc36
     have hw := i64_succ i (by omega)
     obtain ⟨x, hx⟩ : ∃ x, P[i]? = some x := ⟨_, List.getElem?_eq_getElem hlt⟩
     simp only [List.getElem?_map,hz,hwm,hw,hx,sl,List.length_map,go_sem,reduceIte,zA,zB,zC,zD,zE,zF,reduceCtorEq]
     refine cF (isName_ok hG x) ?_
     rintro _ rfl
     simp only [List.getElem?_map,hz,hwm,hw,hx,sl,List.length_map,go_sem,reduceIte,zA,zB,zC,zD,zE,zF,reduceCtorEq]
     refine gif (fun hb8_3 => ?_) (fun hb8_3 => ?_)
     ·have hno : majOk s = false := by
       have ha : P.all segB = false := all_no hx (by unfold segB; simp_all)
       unfold majOk; rw [← hP, ha]; simp
      simp only [List.getElem?_map,hz,hwm,hw,hx,sl,List.length_map,go_sem,reduceIte,zA,zB,zC,zD,zE,zF,reduceCtorEq]
      refine hK _ ?_
      first
       | (unfold majN majE; rw [hno]; rfl)
       | (unfold majN majE; rw [hok, hlz]; simp_all; done)
       | (unfold majN majE; rw [hok, hlz]; simp_all; rfl)
     ·have hnm : nameB x = true := by simpa using hb8_3
      simp only [List.getElem?_map,hz,hwm,hw,hx,sl,List.length_map,go_sem,reduceIte,zA,zB,zC,zD,zE,zF,reduceCtorEq]
      refine cF (all_ex 92 isSd sd_ex x (by have h := hnm; unfold nameB at h; simp only [Bool.and_eq_true,decide_eq_true_eq] at h; omega)) ?_
      rintro _ rfl
      simp only [List.getElem?_map,hz,hwm,hw,hx,sl,List.length_map,go_sem,reduceIte,zA,zB,zC,zD,zE,zF,reduceCtorEq]
      refine gif (fun hc46 => ?_) (fun hc46 => ?_)
      ·have hno : majOk s = false := by
        have ha : P.all segB = false := all_no hx (by unfold segB; simp_all)
        unfold majOk; rw [← hP, ha]; simp
       simp only [List.getElem?_map,hz,hwm,hw,hx,sl,List.length_map,go_sem,reduceIte,zA,zB,zC,zD,zE,zF,reduceCtorEq]
       refine hK _ ?_
       first
        | (unfold majN majE; rw [hno]; rfl)
        | (unfold majN majE; rw [hok, hlz]; simp_all; done)
        | (unfold majN majE; rw [hok, hlz]; simp_all; rfl)
      ·simp only [List.getElem?_map,hz,hwm,hw,hx,sl,List.length_map,go_sem,reduceIte,zA,zB,zC,zD,zE,zF,reduceCtorEq]
       refine hZ1 _ (endK (by omega) (by simp only [List.getElem?_map,hz,hwm,hw,hx,sl,List.length_map,go_sem,reduceIte,zA,zB,zC,zD,zE,zF,reduceCtorEq]) ?_ ?_) <;> simp only [lks,lk,reduceIte,zE]
       ·refine ⟨i + 1, rfl, hlt, fun j hj => ?_⟩
        rcases Nat.lt_or_ge j i with h | h
        ·exact hall j h
        ·obtain rfl : j = i := by omega
         intro y hy
         rw [hx] at hy; cases hy; unfold segB; simp_all
       ·simp only [Go.Eng.intOf,List.headD_cons]; omega
    ·have hge : ¬ i < P.length := by simpa using hc36
     have hok : majOk s = true := by
      have ha : P.all segB = true := all_of fun j hj => hall j (by omega)
      unfold majOk; rw [hlz, ← hP, ha]; simp_all <;> omega
     simp only [List.getElem?_map,hz,hwm,sl,List.length_map,go_sem,reduceIte,zA,zB,zC,zD,zE,zF,reduceCtorEq]
     refine hK _ ?_
     first
      | (unfold majN majE; rw [hno]; rfl)
      | (unfold majN majE; rw [hok, hlz]; simp_all; done)
      | (unfold majN majE; rw [hok, hlz]; simp_all; rfl)
theorem isPath_ok (hG : Glob.g = some 0) (s : ByteArray) (hs : s.size ≤ 1048576) : ∃ r_, (fun w => w = bl (majOk s)) r_ ∧ FnOk Tryz.prog 58 [str s] r_ := by
 refine vfn tt_ok [] 12 [.tmp 2] (fn := Tryz.f58) Tryz.func58 rfl Tryz.call58 ⟨rfl, rfl, by simp⟩ fun K hK => ?_
 simp only [go_sem,reduceIte,zA,zB,zC,zD,zE,zF,reduceCtorEq]
 refine cF (major_ok hG s hs) ?_
 rintro _ rfl
 simp only [go_sem,reduceIte,zA,zB,zC,zD,zE,zF,reduceCtorEq]
 exact hK _ (congrArg bl (by unfold majE; by_cases h : majOk s = true <;> simp [h]))
end Go.Proofs.YtcajnfkkokeeeaaGreatDoor
end

section
namespace Go.Proofs.YtcajnfkkokeeeaaGreatDoor
open Go.Eng
open Nat renaming reduceAdd → zA, reduceLT → zB, reduceLeDiff → zC, reduceMul → zD, reduceEqDiff → zE, reduceSub → zF
variable [Glob]
set_option maxHeartbeats 4000000
set_option maxRecDepth 100000
def inB (s : ByteArray) (l : List ByteArray) : Bool := l.any fun b => decide (s = b)
theorem inB_iff {s : ByteArray} {l : List ByteArray} : inB s l = true ↔ s ∈ l := by unfold inB; simp
theorem inB_yes {s : ByteArray} {l : List ByteArray} (h : s ∈ l) : inB s l = true := inB_iff.2 h
theorem inB_no {s : ByteArray} {l : List ByteArray} (h : s ∉ l) : inB s l = false := by
 cases e : inB s l with
 | false => rfl
 | true => exact absurd (inB_iff.1 e) h
theorem Ver.drop3 (v : Ver) (i : Nat) (h : i < 3) : List.drop i [num v.mj, num v.mn, num v.pt] = num (v.part i) :: List.drop (i + 1) [num v.mj, num v.mn, num v.pt] := by
 obtain ⟨a, b, c⟩ := v
 match i, h with
 | 0, _ => rfl
 | 1, _ => rfl
 | 2, _ => rfl
theorem vcmp_ok (a b : Ver) : ∃ r_, (fun w => w = num (a.cmp b)) r_ ∧ FnOk Tryz.prog 38 [encVer a, encVer b] r_ := by
 refine vfn tt_ok [] 27 [.tmp 4] (fn := Tryz.f38) Tryz.func38 rfl Tryz.call38 ⟨rfl, rfl, by simp⟩ fun K hK => ?_
 simp only [encVer]
 simp only [Tryz.underlying137,go_sem,reduceIte,zA,zB,zC,zD,zE,zF,reduceCtorEq]
 refine xmixL tt_ok mixed_ok [⟨.r, 0, [0,1], [], []⟩, ⟨.n, 0, [], [], []⟩, ⟨.r, 0, [0,1], [], []⟩, ⟨.n, 0, [], [], []⟩, ⟨.a, 0, [], [], []⟩, ⟨.a, 1, [], [], []⟩, ⟨.s, 0, [], [], []⟩, ⟨.s, 1, [], [], []⟩] 2 (by kernel_rfl) ?_
 simp only [Tryz.underlying137,go_sem,reduceIte,zA,zB,zC,zD,zE,zF,reduceCtorEq]
 refine cG (by have h := parts_ok a; simp only [encVer] at h; exact h) ?_
 rintro _ rfl
 simp only [Tryz.underlying137,go_sem,reduceIte,zA,zB,zC,zD,zE,zF,reduceCtorEq]
 refine cG (by have h := parts_ok b; simp only [encVer] at h; exact h) ?_
 rintro _ rfl
 simp only [Tryz.underlying137,go_sem,reduceIte,zA,zB,zC,zD,zE,zF,reduceCtorEq]
 refine xloopL tt_ok [] [13] 4 [5,6] (fun vs => ((3 : Int) - Go.Eng.intOf (vs.headD .undef)).toNat) (fun vs => ∃ i : Nat, vs = [num i] ∧ i ≤ 3 ∧ ∀ j < i, cmpI (a.part j) (b.part j) = 0) (by omega) (by simp only [Tryz.underlying137,go_sem,reduceIte,zA,zB,zC,zD,zE,zF,reduceCtorEq]) (⟨0, rfl, Nat.zero_le _, fun j hj => absurd hj (Nat.not_lt_zero j)⟩) fun vs hI Z1 hZ1 => ?_
 obtain ⟨i, rfl, hi, hall⟩ := hI
 simp only [Tryz.underlying137,go_sem,reduceIte,zA,zB,zC,zD,zE,zF,reduceCtorEq]
 refine gif (fun hc14 => ?_) (fun hc14 => ?_)
 ·have hlt : i < 3 := by have := of_decide_eq_true hc14; omega
  rw [hc14]
  have hltI : (i : Int) < 3 := by omega
  have hw := i64_succ i (by omega)
  have hda := a.drop3 i hlt
  have hdb := b.drop3 i hlt
  have h33 : ((3 : Nat) : Int) = 3 := rfl
  simp only [hw,hltI,hda,hdb,h33,Int.natCast_nonneg,Int.toNat_natCast,Nat.mul_one,Nat.zero_add,List.head?_cons,Tryz.underlying137,go_sem,reduceIte,zA,zB,zC,zD,zE,zF,reduceCtorEq]
  refine xmixL tt_ok mixed_ok [⟨.n, 0, [], [], []⟩, ⟨.r, 0, [], [], []⟩, ⟨.r, 0, [], [], []⟩, ⟨.n, 0, [], [], []⟩, ⟨.r, 0, [], [], []⟩, ⟨.r, 0, [], [], []⟩, ⟨.n, 0, [], [], []⟩, ⟨.n, 0, [], [], []⟩] 0 (by kernel_rfl) ?_
  simp only [hw,hltI,hda,hdb,h33,Int.natCast_nonneg,Int.toNat_natCast,Nat.mul_one,Nat.zero_add,List.head?_cons,Tryz.underlying137,go_sem,reduceIte,zA,zB,zC,zD,zE,zF,reduceCtorEq]
  refine cG (cmpI_ok _ _) ?_
  rintro _ rfl
  simp only [hw,hltI,hda,hdb,h33,Int.natCast_nonneg,Int.toNat_natCast,Nat.mul_one,Nat.zero_add,List.head?_cons,Tryz.underlying137,go_sem,reduceIte,zA,zB,zC,zD,zE,zF,reduceCtorEq]
  refine gif (fun hc24 => ?_) (fun hc24 => ?_)
  ·have hres : cmpI (a.part i) (b.part i) = a.cmp b := (Ver.cmp_at hlt hall (by simpa using hc24)).symm
   simp only [hw,hltI,hda,hdb,h33,Int.natCast_nonneg,Int.toNat_natCast,Nat.mul_one,Nat.zero_add,List.head?_cons,Tryz.underlying137,go_sem,reduceIte,zA,zB,zC,zD,zE,zF,reduceCtorEq]
   exact hK _ (congrArg num hres)
  ·simp only [hw,hltI,hda,hdb,h33,Int.natCast_nonneg,Int.toNat_natCast,Nat.mul_one,Nat.zero_add,List.head?_cons,Tryz.underlying137,go_sem,reduceIte,zA,zB,zC,zD,zE,zF,reduceCtorEq]
   refine hZ1 _ (endK (by omega) (by simp only [hw,hltI,hda,hdb,h33,Int.natCast_nonneg,Int.toNat_natCast,Nat.mul_one,Nat.zero_add,List.head?_cons,Tryz.underlying137,go_sem,reduceIte,zA,zB,zC,zD,zE,zF,reduceCtorEq]) ?_ ?_) <;> simp only [lks,lk,reduceIte,zE]
   ·refine ⟨i + 1, rfl, hlt, fun j hj => ?_⟩
    rcases Nat.lt_or_ge j i with h | h
    ·exact hall j h
    ·obtain rfl : j = i := by omega
     simpa using hc24
   ·simp only [Go.Eng.intOf,List.headD_cons]; omega
 ·have hge : i = 3 := by have := of_decide_eq_false hc14; omega
  subst hge
  have hres : 0 = a.cmp b := (Ver.cmp_eq hall).symm
  simp only [Tryz.underlying137,go_sem,reduceIte,zA,zB,zC,zD,zE,zF,reduceCtorEq]
  exact hK _ (congrArg num hres)
theorem sidx_ok (ns : List ByteArray) (s : ByteArray) (hl : ns.length ≤ 1048576) : ∃ r_, (fun w => ∃ n : Int, w = num n ∧ decide (n ≥ 0) = inB s ns) r_ ∧ FnOk Tryz.prog 26 [.slice (ns.map str), str s] r_ := by
 refine vfn tt_ok [] 19 [.tmp 4] (fn := Tryz.f26) Tryz.func26 rfl Tryz.call26 ⟨rfl, rfl, by simp⟩ fun K hK => ?_
 simp only [List.length_map,go_sem,reduceIte,zA,zB,zC,zD,zE,zF,reduceCtorEq]
 refine xloopL tt_ok [] [8] 0 [0,1,7] (fun vs => ((ns.length : Int) - Go.Eng.intOf (vs.headD .undef)).toNat) (fun vs => ∃ i : Nat, vs = [num i] ∧ i ≤ ns.length ∧ ∀ j < i, ∀ b, ns[j]? = some b → s ≠ b) (by omega) (by simp only [List.length_map,go_sem,reduceIte,zA,zB,zC,zD,zE,zF,reduceCtorEq]) (⟨0, rfl, Nat.zero_le _, fun j hj => absurd hj (Nat.not_lt_zero j)⟩) fun vs hI Z1 hZ1 => ?_
 obtain ⟨i, rfl, hi, hno⟩ := hI
 simp only [List.length_map,go_sem,reduceIte,zA,zB,zC,zD,zE,zF,reduceCtorEq]
 refine gif (fun hc9 => ?_) (fun hc9 => ?_)
 ·have hlt : i < ns.length := by simpa using hc9
  obtain ⟨m, hx⟩ : ∃ m, ns[i]? = some m := ⟨_, List.getElem?_eq_getElem hlt⟩
  have hw := i64_succ i (by omega)
  simp only [List.getElem?_map,hx,hw,List.length_map,go_sem,reduceIte,zA,zB,zC,zD,zE,zF,reduceCtorEq]
  refine gif (fun hc16 => ?_) (fun hc16 => ?_)
  ·have heq : s = m := by rw [str_beq] at hc16; simpa using hc16
   have hres : decide ((i : Int) ≥ 0) = inB s ns := by rw [decide_eq_true (by omega : (i : Int) ≥ 0), inB_yes (heq ▸ List.mem_of_getElem? hx)]
   simp only [List.getElem?_map,hx,hw,List.length_map,go_sem,reduceIte,zA,zB,zC,zD,zE,zF,reduceCtorEq]
   exact hK _ ⟨_, rfl, hres⟩
  ·have hne : s ≠ m := by rw [str_beq] at hc16; simpa using hc16
   simp only [List.getElem?_map,hx,hw,List.length_map,go_sem,reduceIte,zA,zB,zC,zD,zE,zF,reduceCtorEq]
   refine hZ1 _ (endK (by omega) (by simp only [List.getElem?_map,hx,hw,List.length_map,go_sem,reduceIte,zA,zB,zC,zD,zE,zF,reduceCtorEq]) ?_ ?_) <;> simp only [lks,lk,reduceIte,zE]
   ·refine ⟨i + 1, rfl, hlt, fun j hj b hb => ?_⟩
    rcases Nat.lt_or_ge j i with h | h
    ·exact hno j h b hb
    ·obtain rfl : j = i := by omega
     rw [hx] at hb; cases hb; exact hne
   ·simp only [Go.Eng.intOf,List.headD_cons]; omega
 ·have hge : ¬ i < ns.length := by simpa using hc9
  have hres : decide ((-1 : Int) ≥ 0) = inB s ns := by
   rw [decide_eq_false (by decide : ¬ ((-1 : Int) ≥ 0)), inB_no]
   intro hm
   obtain ⟨j, hj⟩ := List.getElem?_of_mem hm
   exact hno j (by have := (List.getElem?_eq_some_iff.1 hj).1; omega) s hj rfl
  simp only [List.length_map,go_sem,reduceIte,zA,zB,zC,zD,zE,zF,reduceCtorEq]
  exact hK _ ⟨_, rfl, hres⟩
theorem scont_ok (ns : List ByteArray) (s : ByteArray) (hl : ns.length ≤ 1048576) : ∃ r_, (fun w => w = bl (inB s ns)) r_ ∧ FnOk Tryz.prog 12 [.slice (ns.map str), str s] r_ := by
 refine vfn tt_ok [] 9 [.tmp 4] (fn := Tryz.f12) Tryz.func12 rfl Tryz.call12 ⟨rfl, rfl, by simp⟩ fun K hK => ?_
 simp only [go_sem,reduceIte,zA,zB,zC,zD,zE,zF,reduceCtorEq]
 refine cF (sidx_ok ns s hl) ?_
 rintro _ ⟨n, rfl, hn⟩
 simp only [go_sem,reduceIte,zA,zB,zC,zD,zE,zF,reduceCtorEq]
 exact hK _ (congrArg bl hn)
end Go.Proofs.YtcajnfkkokeeeaaGreatDoor
end

section
namespace Go.Proofs.YtcajnfkkokeeeaaGreatDoor
open Go.Eng
open Nat renaming reduceAdd → zA, reduceLT → zB, reduceLeDiff → zC, reduceMul → zD, reduceEqDiff → zE, reduceSub → zF
variable [Glob]
set_option maxHeartbeats 4000000
set_option maxRecDepth 100000
theorem tys_snoc (ts : List Ty) (k : Int) (m n : ByteArray) (a : List Ty) (b : List Fd) : encTys ts ++ [V.agg [num k, str m, str n, .slice (encTys a), .slice (encFds b)]] = encTys (ts ++ [.mk k m n a b]) := by simp [encTys_map, encTy]
theorem tparts_ok (t : Ty) (hl : t.args.length ≤ 1048576) (hl2 : t.flds.length ≤ 1048576) : ∃ r_, (fun w => w = .slice (encTys t.parts)) r_ ∧ FnOk Tryz.prog 56 [encTy t] r_ := by
 refine vfn tt_ok [] 26 [.tmp 2] (fn := Tryz.f56) Tryz.func56 rfl Tryz.call56 ⟨rfl, rfl, by simp⟩ fun K hK => ?_
 obtain ⟨k, m, n, ts, fs⟩ := t
 simp only [Ty.args,Ty.flds] at hl hl2
 simp only [encTy]
 have hb1 : ts.length ≤ 34359738368 := by omega
 simp only [length_encTys,length_encFds,first_ty,hb1,go_sem,reduceIte,zA,zB,zC,zD,zE,zF,reduceCtorEq]
 refine xloop tt_ok [] (fun i : Nat => [(1, .ptr 0 0), (3, .ms 1 (i + 1) 0 (ts.length + i)), (4, num i)]) (fun i : Nat => [.box [num k, str m, str n, .slice (encTys ts), .slice (encFds fs)], .rows (i + 1) 5 (encTys (ts ++ (fs.take i).map Fd.ty))]) (fun i => fs.length - i) (fun i => i ≤ fs.length) (0) 2 (lies (by omega) (by simp only [length_encTys,length_encFds,first_ty,hb1,List.take_zero,List.map_nil,List.append_nil,Int.cast_ofNat_Int,go_sem,reduceIte,zA,zB,zC,zD,zE,zF,reduceCtorEq] <;> rfl)) (Nat.zero_le _) ?_
 intro i hi
 try dsimp only at hi
 try dsimp only
 have hw := i64_succ i (by omega)
 intro Z1 hZ1
 simp only [hw,length_encTys,length_encFds,first_ty,hb1,go_sem,reduceIte,zA,zB,zC,zD,zE,zF,reduceCtorEq]
 refine gif (fun hc13 => ?_) (fun hc13 => ?_)
 ·have hlt : i < fs.length := by simpa using hc13
  obtain ⟨g, hg⟩ : ∃ g, fs[i]? = some g := ⟨_, List.getElem?_eq_getElem hlt⟩
  have hft : (fs.take (i + 1)).map Fd.ty = (fs.take i).map Fd.ty ++ [g.ty] := by rw [List.take_add_one, hg]; simp
  obtain ⟨gn, ⟨gk, gm, gn2, gts, gfs⟩, go⟩ := g
  dsimp only [Fd.ty] at hft
  have hb2 : ts.length + i + 1 ≤ 34359738368 := by omega
  have hlen : (encTys (ts ++ (fs.take i).map Fd.ty)).length = ts.length + i := by rw [length_encTys, List.length_append, List.length_map, List.length_take]; omega
  have hlen2 : (encTys (ts ++ (fs.take i).map Fd.ty ++ [.mk gk gm gn2 gts gfs])).length = ts.length + (i + 1) := by rw [length_encTys, List.length_append, List.length_append, List.length_map, List.length_take, List.length_singleton]; omega
  simp only [hw,get_encFds,hg,encFd,hb2,hlen,length_encTys,length_encFds,first_ty,hb1,go_sem,reduceIte,zA,zB,zC,zD,zE,zF,reduceCtorEq]
  refine hZ1 _ ⟨i + 1, ?_, ?_, lies (by omega) (by (simp only [hw,hft,← List.append_assoc,tys_snoc,hlen2,Nat.add_assoc,go_sem,reduceIte,zA,zB,zC,zD,zE,zF,reduceCtorEq]))⟩
  ·exact hlt
  ·omega
 ·have hge : ¬ i < fs.length := by simpa using hc13
  obtain rfl : i = fs.length := by omega
  rw [List.take_length]
  have htl : (ts ++ fs.map Fd.ty).length = ts.length + fs.length := by rw [List.length_append, List.length_map]
  have htk : List.take (ts.length + fs.length) (encTys (ts ++ List.map Fd.ty fs)) = encTys (ts ++ List.map Fd.ty fs) := List.take_of_length_le (by rw [length_encTys, htl]; exact Nat.le_refl _)
  simp only [hw,htl,htk,Nat.le_refl,length_encTys,length_encFds,first_ty,hb1,go_sem,reduceIte,zA,zB,zC,zD,zE,zF,reduceCtorEq]
  exact hK _ rfl
theorem tsize_step (N : Nat) (ih : ∀ t : Ty, t.size ≤ N → ∃ r_, (fun w => w = num (t.size)) r_ ∧ FnOk Tryz.prog 35 [encTy t] r_) (t : Ty) (hN : t.size ≤ N + 1) (hb : N + 1 ≤ 1048576) : ∃ r_, (fun w => w = num (t.size)) r_ ∧ FnOk Tryz.prog 35 [encTy t] r_ := by
 refine vfn tt_ok [] 22 [.tmp 2] (fn := Tryz.f35) Tryz.func35 rfl Tryz.call35 ⟨rfl, rfl, by simp⟩ fun K hK => ?_
 have hsz := t.size_parts
 obtain ⟨ps, hps⟩ : ∃ x, x = t.parts := ⟨_, rfl⟩
 rw [← hps] at hsz
 have hlen := length_le_sum Ty.size (fun t => t.size_pos) ps
 have hpl : ps.length = t.args.length + t.flds.length := by rw [hps]; unfold Ty.parts; rw [List.length_append, List.length_map]
 have hpc := tparts_ok t (by omega) (by omega)
 rw [encTy_eq, ← hps] at hpc
 rw [encTy_eq]
 simp only [tyCells] at hpc ⊢
 simp only [length_encTys,go_sem,reduceIte,zA,zB,zC,zD,zE,zF,reduceCtorEq]
 refine cF (hpc) ?_
 rintro _ rfl
 simp only [length_encTys,go_sem,reduceIte,zA,zB,zC,zD,zE,zF,reduceCtorEq]
 refine xloopL tt_ok [] [5,3] 1 [2,4] (fun vs => ((ps.length : Int) - Go.Eng.intOf (vs.headD .undef)).toNat) (fun vs => ∃ i : Nat, vs = [num i, num ((1 + sumBy Ty.size (ps.take i) : Nat) : Int)] ∧ i ≤ ps.length) (by omega) (by simp only [length_encTys,go_sem,reduceIte,zA,zB,zC,zD,zE,zF,reduceCtorEq]) (⟨0, by first | rfl | simp [sumBy, lks, lk], Nat.zero_le _⟩) fun vs hI Z1 hZ1 => ?_
 obtain ⟨i, rfl, hi⟩ := hI
 simp only [length_encTys,go_sem,reduceIte,zA,zB,zC,zD,zE,zF,reduceCtorEq]
 refine gif (fun hc11 => ?_) (fun hc11 => ?_)
 ·have hlt : i < ps.length := by simpa using hc11
  obtain ⟨x, hx⟩ : ∃ x, ps[i]? = some x := ⟨_, List.getElem?_eq_getElem hlt⟩
  have hst := sumBy_take_succ Ty.size hx
  have hsl := sumBy_take_le Ty.size ps (i + 1)
  have hsp := x.size_pos
  have hw := i64_succ i (by omega)
  have hwa := i64_add (1 + sumBy Ty.size (ps.take i)) x.size (by omega)
  obtain ⟨k2, m2, n2, a2, f2⟩ := x
  simp only [get_encTys,hx,encTy,hw,hwa,length_encTys,go_sem,reduceIte,zA,zB,zC,zD,zE,zF,reduceCtorEq]
  refine cF (by have h := ih (.mk k2 m2 n2 a2 f2) (by omega); simp only [encTy] at h; exact h) ?_
  rintro _ rfl
  simp only [get_encTys,hx,encTy,hw,hwa,length_encTys,go_sem,reduceIte,zA,zB,zC,zD,zE,zF,reduceCtorEq]
  refine hZ1 _ (endK (by omega) (by simp only [get_encTys,hx,encTy,hw,hwa,length_encTys,go_sem,reduceIte,zA,zB,zC,zD,zE,zF,reduceCtorEq]) ?_ ?_) <;> simp only [lks,lk,reduceIte,zE]
  ·exact ⟨i + 1, by rw [hst, ← Nat.add_assoc], hlt⟩
  ·simp only [Go.Eng.intOf,List.headD_cons]; omega
 ·have hge : ¬ i < ps.length := by simpa using hc11
  obtain rfl : i = ps.length := by omega
  rw [List.take_length, ← hsz]
  simp only [length_encTys,go_sem,reduceIte,zA,zB,zC,zD,zE,zF,reduceCtorEq]
  exact hK _ rfl
theorem tsize_ok : ∀ (N : Nat) (t : Ty), t.size ≤ N → N ≤ 1048576 → ∃ r_, (fun w => w = num (t.size)) r_ ∧ FnOk Tryz.prog 35 [encTy t] r_ := by
 intro N
 induction N with
 | zero => intro t h; have := t.size_pos; omega
 | succ N ih => intro t h hb; exact tsize_step N (fun t ht => ih t ht (by omega)) t h hb
end Go.Proofs.YtcajnfkkokeeeaaGreatDoor
end

section
namespace Go.Proofs.YtcajnfkkokeeeaaGreatDoor
open Go.Eng
open Nat renaming reduceAdd → zA, reduceLT → zB, reduceLeDiff → zC, reduceMul → zD, reduceEqDiff → zE, reduceSub → zF
variable [Glob]
set_option maxHeartbeats 4000000
set_option maxRecDepth 100000
structure Te where
 name : ByteArray
 params : List Pm
 lower : Ty
 upper : Ty
structure Ve where
 name : ByteArray
 params : List Pm
 ty : Ty
structure Al where
 name : ByteArray
 mod : ByteArray
 target : ByteArray
structure Dp where
 name : ByteArray
 note : ByteArray
structure Ify where
 path : ByteArray
 types : List Te
 vals : List Ve
 als : List Al
 deps : List Dp
structure Pb where
 ver : Ver
 ifc : Ify
structure Vio where
 ver : Ver
 name : ByteArray
def encTe (e : Te) : V := .agg ([str e.name, .slice (e.params.map encPm)] ++ tyCells e.lower ++ tyCells e.upper)
def encVe (e : Ve) : V := .agg ([str e.name, .slice (e.params.map encPm)] ++ tyCells e.ty)
def encAl (a : Al) : V := .agg [str a.name, str a.mod, str a.target]
def encDp (d : Dp) : V := .agg [str d.name, str d.note]
def ifCells (i : Ify) : List V := [str i.path, .slice (i.types.map encTe), .slice (i.vals.map encVe), .slice (i.als.map encAl), .slice (i.deps.map encDp)]
def encIf (i : Ify) : V := .agg (ifCells i)
def pbCells (p : Pb) : List V := [num p.ver.mj, num p.ver.mn, num p.ver.pt, str p.ifc.path, .slice (p.ifc.types.map encTe), .slice (p.ifc.vals.map encVe), .slice (p.ifc.als.map encAl), .slice (p.ifc.deps.map encDp)]
def encPb (p : Pb) : V := .agg (pbCells p)
def encVio (v : Vio) : V := .agg [num v.ver.mj, num v.ver.mn, num v.ver.pt, str v.name]
def linN (s : ByteArray) : ByteArray := if majOk s = true then s.extract 0 (Lib.lastIndexByte s 47).toNat else ⟨#[]⟩
def relB (p : Pb) : Bool := p.ver.ok && decide (majE p.ifc.path = 0) && decide (majN p.ifc.path = p.ver.mj)
def nextB (q p : Pb) : Bool := decide (linN p.ifc.path = linN q.ifc.path) && decide (q.ver.cmp p.ver < 0)
def stepB : Option Pb → Pb → Bool
 | none, p => relB p
 | some q, p => relB p && nextB q p
def hisL : Option Pb → List Pb → Bool
 | _, [] => true
 | o, p :: l => stepB o p && hisL (some p) l
def hisOk (l : List Pb) : Bool := decide (l.length ≤ 256) && hisL none l
def PbB (p : Pb) : Prop := p.ifc.path.size ≤ 1048576 ∧ p.ifc.types.length ≤ 1048576 ∧ p.ifc.vals.length ≤ 1048576 ∧ p.ifc.als.length ≤ 1048576 ∧ p.ifc.deps.length ≤ 1048576
theorem lineN_ok (hG : Glob.g = some 0) (s : ByteArray) (hs : s.size ≤ 1048576) : ∃ r_, (fun w => w = .tup [str (linN s), num (majN s), num (majE s)]) r_ ∧ FnOk Tryz.prog 36 [str s] r_ := by
 refine vfn tt_ok [] 24 [.tmp 2, .tmp 3, .tmp 4] (fn := Tryz.f36) Tryz.func36 rfl Tryz.call36 ⟨rfl, rfl, by simp⟩ fun K hK => ?_
 have hT9 : Tryz.prog.underlying 9 = some .string := by kernel_rfl
 have sl : ∀ (a : ByteArray) (ty : TypeId), liftL Tryz.prog (Builtin.len_ #[9] ty) [.sc (.string a)] = some (num a.size) := fun a ty => ev_slen (P := Tryz.prog) (tt := tt) (T := 9) a hT9 ty
 simp only [sl,go_sem,reduceIte,zA,zB,zC,zD,zE,zF,reduceCtorEq]
 refine cF (major_ok hG s hs) ?_
 rintro _ rfl
 simp only [sl,go_sem,reduceIte,zA,zB,zC,zD,zE,zF,reduceCtorEq]
 refine cF (isPath_ok hG s hs) ?_
 rintro _ rfl
 simp only [sl,go_sem,reduceIte,zA,zB,zC,zD,zE,zF,reduceCtorEq]
 refine gif (fun hb2_3 => ?_) (fun hb2_3 => ?_)
 ·have hno : majOk s = false := by simp_all [majE]
  have e1 : majN s = 0 := by unfold majN; rw [hno]; rfl
  have e2 : majE s = 4 := by unfold majE; rw [hno]; rfl
  have hres : V.tup [str (linN s), num (majN s), num (majE s)] = .tup [str ⟨#[]⟩, num 0, num 4] := by unfold linN; rw [e1, e2, hno]; rfl
  simp only [sl,go_sem,reduceIte,zA,zB,zC,zD,zE,zF,reduceCtorEq]
  exact hK _ (by rw [hres] <;> rfl)
 ·simp only [sl,go_sem,reduceIte,zA,zB,zC,zD,zE,zF,reduceCtorEq]
  refine gif (fun hc18 => ?_) (fun hc18 => ?_)
  ·have hno : majOk s = false := by simp_all [majE]
   have e1 : majN s = 0 := by unfold majN; rw [hno]; rfl
   have e2 : majE s = 4 := by unfold majE; rw [hno]; rfl
   have hres : V.tup [str (linN s), num (majN s), num (majE s)] = .tup [str ⟨#[]⟩, num 0, num 4] := by unfold linN; rw [e1, e2, hno]; rfl
   simp only [sl,go_sem,reduceIte,zA,zB,zC,zD,zE,zF,reduceCtorEq]
   exact hK _ (by rw [hres] <;> rfl)
  ·have hok : majOk s = true := by cases h : majOk s <;> simp_all [majE]
   obtain ⟨hx0, hx1⟩ := slash_of hok
   have hcm : lift2 Tryz.prog (fun a h => Instr.sliceAt 9 a none (some h) none) (.sc (.string s)) (.sc (.int .i64 (Lib.lastIndexByte s 47))) = some (.sc (.string (s.extract 0 (Lib.lastIndexByte s 47).toNat))) := ev_cutto (P := Tryz.prog) (tt := tt) (mem := []) (T := 9) s hT9 .i64 (Lib.lastIndexByte s 47) hx0 hx1
   have e2 : majE s = 0 := by unfold majE; rw [hok]; rfl
   have hres : V.tup [str (linN s), num (majN s), num (majE s)] = .tup [str (s.extract 0 (Lib.lastIndexByte s 47).toNat), num (majN s), num 0] := by unfold linN; rw [e2, hok]; rfl
   simp only [hcm,sl,go_sem,reduceIte,zA,zB,zC,zD,zE,zF,reduceCtorEq]
   refine cF (⟨_, rfl, lastIx_ok hG s (by omega)⟩) ?_
   rintro _ rfl
   simp only [hcm,sl,go_sem,reduceIte,zA,zB,zC,zD,zE,zF,reduceCtorEq]
   exact hK _ (by rw [hres] <;> rfl)
end Go.Proofs.YtcajnfkkokeeeaaGreatDoor
end

section
namespace Go.Proofs.YtcajnfkkokeeeaaGreatDoor
open Go.Eng
open Nat renaming reduceAdd → zA, reduceLT → zB, reduceLeDiff → zC, reduceMul → zD, reduceEqDiff → zE, reduceSub → zF
variable [Glob]
set_option maxHeartbeats 4000000
set_option maxRecDepth 100000
def prevP (l : List Pb) (i : Nat) : Option Pb := if i = 0 then none else l[i - 1]?
theorem prevP_succ {l : List Pb} {i : Nat} {x : Pb} (h : l[i]? = some x) : prevP l (i + 1) = some x := by unfold prevP; rw [if_neg (by omega)]; exact h
theorem hisL_at {l : List Pb} {i : Nat} {x : Pb} (o : Option Pb) (h : l[i]? = some x) : hisL o (l.drop i) = (stepB o x && hisL (some x) (l.drop (i + 1))) := by
 have hi := (List.getElem?_eq_some_iff.1 h).1
 rw [List.drop_eq_getElem_cons hi, (List.getElem?_eq_some_iff.1 h).2, hisL]
theorem step_rel {o : Option Pb} {x : Pb} (h : relB x = false) : stepB o x = false := by cases o <;> simp [stepB, h]
theorem his_bad {l : List Pb} {i : Nat} {x : Pb} (hst : hisL none l = hisL (prevP l i) (l.drop i)) (hx : l[i]? = some x) (hno : stepB (prevP l i) x = false) : false = hisOk l := by
 unfold hisOk
 rw [hst, hisL_at _ hx, hno, Bool.false_and, Bool.and_false]
theorem his_next {l : List Pb} {i : Nat} {x : Pb} (hst : hisL none l = hisL (prevP l i) (l.drop i)) (hx : l[i]? = some x) (hs : stepB (prevP l i) x = true) : hisL none l = hisL (prevP l (i + 1)) (l.drop (i + 1)) := by
 rw [hst, hisL_at _ hx, hs, Bool.true_and, prevP_succ hx]
theorem his_ok (hG : Glob.g = some 0) (l : List Pb) (hl : l.length ≤ 1048576) (hb : ∀ p ∈ l, PbB p) : ∃ r_, (fun w => w = bl (hisOk l)) r_ ∧ FnOk Tryz.prog 20 [.slice (l.map encPb)] r_ := by
 refine vfn tt_ok [] 65 [.tmp 2] (fn := Tryz.f20) Tryz.func20 rfl Tryz.call20 ⟨rfl, rfl, by simp⟩ fun K hK => ?_
 have hT9 : Tryz.prog.underlying 9 = some .string := by kernel_rfl
 have sl : ∀ (a : ByteArray) (ty : TypeId), liftL Tryz.prog (Builtin.len_ #[9] ty) [.sc (.string a)] = some (num a.size) := fun a ty => ev_slen (P := Tryz.prog) (tt := tt) (T := 9) a hT9 ty
 simp only [sl,List.length_map,go_sem,reduceIte,zA,zB,zC,zD,zE,zF,reduceCtorEq]
 refine gif (fun hc11 => ?_) (fun hc11 => ?_)
 ·have hres : false = hisOk l := by unfold hisOk; rw [decide_eq_false (by have := of_decide_eq_true hc11; omega), Bool.false_and]
  simp only [sl,List.length_map,go_sem,reduceIte,zA,zB,zC,zD,zE,zF,reduceCtorEq]
  exact hK _ (congrArg bl hres)
 ·have hl2 : l.length ≤ 256 := by have := of_decide_eq_false hc11; omega
  simp only [sl,List.length_map,go_sem,reduceIte,zA,zB,zC,zD,zE,zF,reduceCtorEq]
  refine xloopL tt_ok [] [14,3] 0 [0,11,12,13] (fun vs => ((l.length : Int) - Go.Eng.intOf (vs.headD .undef)).toNat) (fun vs => ∃ (i : Nat) (nm : ByteArray), vs = [num i, str nm] ∧ i ≤ l.length ∧ hisL none l = hisL (prevP l i) (l.drop i) ∧ ∀ q, prevP l i = some q → nm = linN q.ifc.path) (by omega) (by simp only [sl,List.length_map,go_sem,reduceIte,zA,zB,zC,zD,zE,zF,reduceCtorEq]) (⟨0, ⟨#[]⟩, rfl, Nat.zero_le _, rfl, fun q h => by cases h⟩) fun vs hI Z1 hZ1 => ?_
  obtain ⟨i, nm, rfl, hi, hst, hnm⟩ := hI
  simp only [sl,List.length_map,go_sem,reduceIte,zA,zB,zC,zD,zE,zF,reduceCtorEq]
  refine gif (fun hc15 => ?_) (fun hc15 => ?_)
  ·have hlt : i < l.length := by simpa using hc15
   obtain ⟨x, hx⟩ : ∃ x, l[i]? = some x := ⟨_, List.getElem?_eq_getElem hlt⟩
   have hw := i64_succ i (by omega)
   have hxb := hb x (List.mem_of_getElem? hx)
   simp only [hw,List.getElem?_map,hx,encPb,pbCells,sl,List.length_map,go_sem,reduceIte,zA,zB,zC,zD,zE,zF,reduceCtorEq]
   refine cF (lineN_ok hG x.ifc.path hxb.1) ?_
   rintro _ rfl
   simp only [hw,List.getElem?_map,hx,encPb,pbCells,sl,List.length_map,go_sem,reduceIte,zA,zB,zC,zD,zE,zF,reduceCtorEq]
   refine xmixL tt_ok mixed_ok [⟨.n, 0, [], [], []⟩, ⟨.r, 0, [], [], []⟩, ⟨.n, 0, [], [], []⟩, ⟨.n, 0, [], [], []⟩, ⟨.n, 0, [], [], []⟩, ⟨.n, 0, [], [], []⟩, ⟨.n, 0, [], [], []⟩, ⟨.n, 0, [], [], []⟩, ⟨.n, 0, [], [], []⟩, ⟨.n, 0, [], [], []⟩, ⟨.n, 0, [], [], []⟩, ⟨.n, 0, [], [], []⟩, ⟨.r, 0, [], [], []⟩, ⟨.n, 0, [], [], []⟩, ⟨.n, 0, [], [], []⟩, ⟨.n, 0, [], [], []⟩, ⟨.n, 0, [], [], []⟩, ⟨.n, 0, [], [], []⟩, ⟨.n, 0, [], [], []⟩, ⟨.n, 0, [], [], []⟩, ⟨.n, 0, [], [], []⟩, ⟨.n, 0, [], [], []⟩, ⟨.n, 0, [], [], []⟩, ⟨.n, 0, [], [], []⟩, ⟨.n, 0, [], [], []⟩, ⟨.n, 0, [], [], []⟩, ⟨.r, 0, [], [], []⟩, ⟨.n, 0, [], [], []⟩, ⟨.r, 0, [], [], []⟩, ⟨.n, 0, [], [], []⟩, ⟨.r, 0, [], [], []⟩, ⟨.n, 0, [], [], []⟩, ⟨.n, 0, [], [], []⟩, ⟨.n, 0, [], [], []⟩, ⟨.n, 0, [], [], []⟩, ⟨.n, 0, [], [], []⟩] 0 (by kernel_rfl) ?_
   simp only [hw,List.getElem?_map,hx,encPb,pbCells,sl,List.length_map,go_sem,reduceIte,zA,zB,zC,zD,zE,zF,reduceCtorEq]
   refine cG (by have h := valid_ok x.ver; simp only [encVer] at h; exact h) ?_
   rintro _ rfl
   simp only [hw,List.getElem?_map,hx,encPb,pbCells,sl,List.length_map,go_sem,reduceIte,zA,zB,zC,zD,zE,zF,reduceCtorEq]
   refine gif (fun hb8_4 => ?_) (fun hb8_4 => ?_)
   ·have hv : x.ver.ok = false := by simpa using hb8_4
    have hres : false = hisOk l := his_bad hst hx (step_rel (by unfold relB; rw [hv]; rfl))
    simp only [hw,List.getElem?_map,hx,encPb,pbCells,sl,List.length_map,go_sem,reduceIte,zA,zB,zC,zD,zE,zF,reduceCtorEq]
    exact hK _ (congrArg bl hres)
   ·have hv : x.ver.ok = true := by simpa using hb8_4
    simp only [hw,List.getElem?_map,hx,encPb,pbCells,sl,List.length_map,go_sem,reduceIte,zA,zB,zC,zD,zE,zF,reduceCtorEq]
    refine gif (fun hb8_8 => ?_) (fun hb8_8 => ?_)
    ·have he : ¬ majE x.ifc.path = 0 := by simpa using hb8_8
     have hres : false = hisOk l := his_bad hst hx (step_rel (by unfold relB; rw [decide_eq_false he]; simp))
     simp only [hw,List.getElem?_map,hx,encPb,pbCells,sl,List.length_map,go_sem,reduceIte,zA,zB,zC,zD,zE,zF,reduceCtorEq]
     exact hK _ (congrArg bl hres)
    ·have he : majE x.ifc.path = 0 := by simpa using hb8_8
     simp only [hw,List.getElem?_map,hx,encPb,pbCells,sl,List.length_map,go_sem,reduceIte,zA,zB,zC,zD,zE,zF,reduceCtorEq]
     refine gif (fun hb8_15 => ?_) (fun hb8_15 => ?_)
     ·have hm : ¬ majN x.ifc.path = x.ver.mj := by simpa using hb8_15
      have hres : false = hisOk l := his_bad hst hx (step_rel (by unfold relB; rw [decide_eq_false hm]; simp))
      simp only [hw,List.getElem?_map,hx,encPb,pbCells,sl,List.length_map,go_sem,reduceIte,zA,zB,zC,zD,zE,zF,reduceCtorEq]
      exact hK _ (congrArg bl hres)
     ·have hm : majN x.ifc.path = x.ver.mj := by simpa using hb8_15
      have hrel : relB x = true := by unfold relB; rw [hv, decide_eq_true he, decide_eq_true hm]; rfl
      simp only [hw,List.getElem?_map,hx,encPb,pbCells,sl,List.length_map,go_sem,reduceIte,zA,zB,zC,zD,zE,zF,reduceCtorEq]
      refine gif (fun hb8_18 => ?_) (fun hb8_18 => ?_)
      ·have hi0 : i ≠ 0 := by have := of_decide_eq_true hb8_18; omega
       obtain ⟨q, hq⟩ : ∃ q, l[i - 1]? = some q := ⟨_, List.getElem?_eq_getElem (by omega)⟩
       have hpp : prevP l i = some q := by unfold prevP; rw [if_neg hi0]; exact hq
       have hnq := hnm q hpp
       have hwm : IntKind.i64.wrap ((i : Int) - 1) = ((i - 1 : Nat) : Int) := i64_c _ _ (by omega) (by omega)
       simp only [hw,List.getElem?_map,hx,encPb,pbCells,hwm,hq,sl,List.length_map,go_sem,reduceIte,zA,zB,zC,zD,zE,zF,reduceCtorEq]
       refine gif (fun hb8_22 => ?_) (fun hb8_22 => ?_)
       ·have hne : linN x.ifc.path ≠ linN q.ifc.path := by rw [← hnq]; rw [str_beq] at hb8_22; simpa using hb8_22
        have hres : false = hisOk l := his_bad hst hx (by rw [hpp]; unfold stepB nextB; dsimp only; rw [decide_eq_false hne]; simp)
        simp only [hw,List.getElem?_map,hx,encPb,pbCells,hwm,hq,sl,List.length_map,go_sem,reduceIte,zA,zB,zC,zD,zE,zF,reduceCtorEq]
        exact hK _ (congrArg bl hres)
       ·have hne : linN x.ifc.path = linN q.ifc.path := by rw [← hnq]; rw [str_beq] at hb8_22; simpa using hb8_22
        simp only [hw,List.getElem?_map,hx,encPb,pbCells,hwm,hq,sl,List.length_map,go_sem,reduceIte,zA,zB,zC,zD,zE,zF,reduceCtorEq]
        refine cG (by have h := vcmp_ok q.ver x.ver; simp only [encVer] at h; exact h) ?_
        rintro _ rfl
        simp only [hw,List.getElem?_map,hx,encPb,pbCells,hwm,hq,sl,List.length_map,go_sem,reduceIte,zA,zB,zC,zD,zE,zF,reduceCtorEq]
        refine gif (fun hc62 => ?_) (fun hc62 => ?_)
        ·have hcp : ¬ q.ver.cmp x.ver < 0 := by have := of_decide_eq_true hc62; omega
         have hres : false = hisOk l := his_bad hst hx (by rw [hpp]; unfold stepB nextB; dsimp only; rw [decide_eq_false hcp]; simp)
         simp only [hw,List.getElem?_map,hx,encPb,pbCells,hwm,hq,sl,List.length_map,go_sem,reduceIte,zA,zB,zC,zD,zE,zF,reduceCtorEq]
         exact hK _ (congrArg bl hres)
        ·have hcp : q.ver.cmp x.ver < 0 := by have := of_decide_eq_false hc62; omega
         have hs : stepB (prevP l i) x = true := by rw [hpp]; unfold stepB nextB; dsimp only; rw [hrel, decide_eq_true hne, decide_eq_true hcp]; rfl
         simp only [hw,List.getElem?_map,hx,encPb,pbCells,hwm,hq,sl,List.length_map,go_sem,reduceIte,zA,zB,zC,zD,zE,zF,reduceCtorEq]
         refine hZ1 _ (endK (by omega) (by simp only [hw,List.getElem?_map,hx,encPb,pbCells,hwm,hq,sl,List.length_map,go_sem,reduceIte,zA,zB,zC,zD,zE,zF,reduceCtorEq]) ?_ ?_) <;> simp only [lks,lk,reduceIte,zE]
         ·exact ⟨i + 1, linN x.ifc.path, rfl, hlt, his_next hst hx hs, fun q h => by rw [prevP_succ hx] at h; cases h; rfl⟩
         ·simp only [Go.Eng.intOf,List.headD_cons]; omega
      ·have hi0 : i = 0 := by have := of_decide_eq_false hb8_18; omega
       have hs : stepB (prevP l i) x = true := by unfold prevP; rw [if_pos hi0]; exact hrel
       simp only [hw,List.getElem?_map,hx,encPb,pbCells,sl,List.length_map,go_sem,reduceIte,zA,zB,zC,zD,zE,zF,reduceCtorEq]
       refine hZ1 _ (endK (by omega) (by simp only [hw,List.getElem?_map,hx,encPb,pbCells,sl,List.length_map,go_sem,reduceIte,zA,zB,zC,zD,zE,zF,reduceCtorEq]) ?_ ?_) <;> simp only [lks,lk,reduceIte,zE]
       ·exact ⟨i + 1, linN x.ifc.path, rfl, hlt, his_next hst hx hs, fun q h => by rw [prevP_succ hx] at h; cases h; rfl⟩
       ·simp only [Go.Eng.intOf,List.headD_cons]; omega
  ·have hge : i = l.length := by have := of_decide_eq_false hc15; omega
   have hres : true = hisOk l := by unfold hisOk; rw [hst, hge, List.drop_length, hisL, decide_eq_true hl2]; rfl
   simp only [sl,List.length_map,go_sem,reduceIte,zA,zB,zC,zD,zE,zF,reduceCtorEq]
   exact hK _ (congrArg bl hres)
end Go.Proofs.YtcajnfkkokeeeaaGreatDoor
end

section
namespace Go.Proofs.YtcajnfkkokeeeaaGreatDoor
open Go.Eng
open Nat renaming reduceAdd → zA, reduceLT → zB, reduceLeDiff → zC, reduceMul → zD, reduceEqDiff → zE, reduceSub → zF
variable [Glob]
set_option maxHeartbeats 4000000
set_option maxRecDepth 100000
structure Lin {α : Type} (lt : α → α → Bool) : Prop where
 irrefl : ∀ x, lt x x = false
 trans : ∀ x y z, lt x y = true → lt y z = true → lt x z = true
 tri : ∀ x y, lt x y = false → lt y x = false → x = y
section
variable {α : Type} [DecidableEq α] {lt : α → α → Bool}
theorem Lin.asymm (h : Lin lt) {x y : α} (hx : lt x y = true) : lt y x = false := by
 cases hy : lt y x with
 | false => rfl
 | true => have := h.trans x y x hx hy; rw [h.irrefl] at this; cases this
def insL (lt : α → α → Bool) : List α → α → List α
 | [], s => [s]
 | a :: r, s => if lt a s = true then a :: insL lt r s else if a = s then a :: r else s :: a :: r
def Asc (lt : α → α → Bool) (l : List α) : Prop := l.Pairwise fun a b => lt a b = true
theorem insL_mem {s : α} : ∀ {l : List α} {x : α}, x ∈ insL lt l s ↔ x = s ∨ x ∈ l
 | [], x => by simp [insL]
 | a :: r, x => by
  unfold insL
  split
  ·rw [List.mem_cons, insL_mem, List.mem_cons]
   constructor
   ·rintro (h | h | h)
    ·exact .inr (.inl h)
    ·exact .inl h
    ·exact .inr (.inr h)
   ·rintro (h | h | h)
    ·exact .inr (.inl h)
    ·exact .inl h
    ·exact .inr (.inr h)
  ·split
   ·rename_i h; subst h
    constructor
    ·exact .inr
    ·rintro (rfl | h)
     ·exact List.mem_cons_self ..
     ·exact h
   ·simp
theorem insL_asc (h : Lin lt) {s : α} : ∀ {l : List α}, Asc lt l → Asc lt (insL lt l s)
 | [], _ => by simp [insL, Asc]
 | a :: r, hl => by
  have h1 := List.pairwise_cons.1 hl
  unfold insL
  split
  ·rename_i ha
   refine List.pairwise_cons.2 ⟨fun b hb => ?_, insL_asc h h1.2⟩
   rcases insL_mem.1 hb with rfl | hb
   ·exact ha
   ·exact h1.1 b hb
  ·rename_i ha
   split
   ·exact hl
   ·rename_i he
    have hs : lt s a = true := by
     cases hsa : lt s a with
     | true => rfl
     | false => exact absurd (h.tri a s (by simpa using ha) hsa) he
    refine List.pairwise_cons.2 ⟨fun b hb => ?_, hl⟩
    rcases List.mem_cons.1 hb with rfl | hb
    ·exact hs
    ·exact h.trans _ _ _ hs (h1.1 b hb)
theorem Asc.ext (h : Lin lt) : ∀ {l m : List α}, Asc lt l → Asc lt m → (∀ x, x ∈ l ↔ x ∈ m) → l = m
 | [], [], _, _, _ => rfl
 | [], b :: r, _, _, he => by have := (he b).2 (List.mem_cons_self ..); simp at this
 | a :: r, [], _, _, he => by have := (he a).1 (List.mem_cons_self ..); simp at this
 | a :: r, b :: t, hl, hm, he => by
  have h1 := List.pairwise_cons.1 hl
  have h2 := List.pairwise_cons.1 hm
  have hab : a = b := by
   rcases List.mem_cons.1 ((he a).1 (List.mem_cons_self ..)) with e | ha
   ·exact e
   ·rcases List.mem_cons.1 ((he b).2 (List.mem_cons_self ..)) with e | hb
    ·exact e.symm
    ·have q1 := h2.1 a ha
     have q2 := h.asymm (h1.1 b hb)
     rw [q1] at q2; cases q2
  subst hab
  rw [Asc.ext h h1.2 h2.2 fun x => ?_]
  constructor
  ·intro hx
   rcases List.mem_cons.1 ((he x).1 (List.mem_cons_of_mem _ hx)) with rfl | hx'
   ·have := h1.1 x hx; rw [h.irrefl] at this; cases this
   ·exact hx'
  ·intro hx
   rcases List.mem_cons.1 ((he x).2 (List.mem_cons_of_mem _ hx)) with rfl | hx'
   ·have := h2.1 x hx; rw [h.irrefl] at this; cases this
   ·exact hx'
theorem insL_at {s : α} : ∀ {l : List α} {i : Nat}, (∀ j < i, ∀ b, l[j]? = some b → lt b s = true) → i ≤ l.length →
  (∀ b, l[i]? = some b → lt b s = false) → insL lt l s = if l[i]? = some s then l else l.take i ++ [s] ++ l.drop i
 | [], i, _, hi, _ => by
  have : i = 0 := by simpa using hi
  subst this; simp [insL]
 | a :: r, 0, _, _, hb => by
  have h0 := hb a rfl
  unfold insL
  rw [if_neg (by rw [h0]; simp)]
  by_cases he : a = s
  ·subst he; simp
  ·rw [if_neg he, if_neg (by simpa using he)]; simp
 | a :: r, i + 1, hj, hi, hb => by
  have h0 := hj 0 (by omega) a rfl
  have ih := insL_at (l := r) (i := i) (fun j hj' b hb' => hj (j + 1) (by omega) b (by simpa using hb')) (by simpa using hi) fun b hb' => hb b (by simpa using hb')
  unfold insL
  rw [if_pos h0, ih]
  simp only [List.getElem?_cons_succ,List.take_succ_cons,List.drop_succ_cons]
  split
  ·rfl
  ·rfl
def insAll (lt : α → α → Bool) (l m : List α) : List α := m.foldl (insL lt) l
theorem insAll_mem : ∀ {m l : List α} {x : α}, x ∈ insAll lt l m ↔ x ∈ l ∨ x ∈ m
 | [], l, x => by simp [insAll]
 | s :: m, l, x => by
  show x ∈ insAll lt (insL lt l s) m ↔ _
  rw [insAll_mem, insL_mem, List.mem_cons]
  constructor
  ·rintro ((h | h) | h)
   ·exact .inr (.inl h)
   ·exact .inl h
   ·exact .inr (.inr h)
  ·rintro (h | h | h)
   ·exact .inl (.inr h)
   ·exact .inl (.inl h)
   ·exact .inr h
theorem insAll_asc (h : Lin lt) : ∀ {m l : List α}, Asc lt l → Asc lt (insAll lt l m)
 | [], _, hl => hl
 | s :: m, l, hl => insAll_asc (m := m) (l := insL lt l s) h (insL_asc h hl)
end

theorem cutTo2 {α : Type} (l : List α) (f : α → V) (size : Nat) (hs : ∀ a, (f a).cells.length = size) (i : Nat) (hi : i ≤ l.length) (mem : List Blk) : cutAt mem size 0 (some (i : Int)) (.slice (l.map f)) = some (.slice ((l.take i).map f)) := by
 unfold cutAt
 have h1 : firstOk (l.map f) (0 : Int).toNat size = true := by
  unfold firstOk; split
  ·rename_i h; rw [List.getElem?_map, Option.map_eq_some_iff] at h; obtain ⟨t, -, rfl⟩ := h; simp [hs]
  ·rfl
 dsimp only
 rw [if_pos ⟨Int.le_refl _, by simp, by simpa using hi, h1⟩]
 simp [List.map_take]
theorem cutFrom2 {α : Type} (l : List α) (f : α → V) (size : Nat) (hs : ∀ a, (f a).cells.length = size) (i : Nat) (hi : i ≤ l.length) (mem : List Blk) : cutAt mem size (i : Int) none (.slice (l.map f)) = some (.slice ((l.drop i).map f)) := by
 unfold cutAt
 have h1 : firstOk (l.map f) (i : Int).toNat size = true := by
  unfold firstOk; split
  ·rename_i h; rw [List.getElem?_map, Option.map_eq_some_iff] at h; obtain ⟨t, -, rfl⟩ := h; simp [hs]
  ·rfl
 dsimp only
 rw [if_pos ⟨Int.natCast_nonneg _, by simpa using hi, by simp, h1⟩]
 congr 2
 rw [← List.map_drop, Int.toNat_natCast]
 refine List.take_of_length_le ?_
 simp only [Option.getD_none,List.length_map,List.length_drop]
 omega
theorem firstMap {α : Type} (l : List α) (f : α → V) (size : Nat) (hs : ∀ a, (f a).cells.length = size) : firstOk (l.map f) 0 size = true := by
 unfold firstOk; split
 ·rename_i h; rw [List.getElem?_map, Option.map_eq_some_iff] at h; obtain ⟨t, -, rfl⟩ := h; simp [hs]
 ·rfl
theorem lin_str : Lin ltB := by
 refine ⟨fun x => ?_, fun x y z h1 h2 => ?_, fun x y h1 h2 => ?_⟩
 ·rw [ltB_eq]; exact decide_eq_false (List.lt_irrefl _)
 ·rw [ltB_eq] at *
  exact decide_eq_true (List.lt_trans (of_decide_eq_true h1) (of_decide_eq_true h2))
 ·rw [ltB_eq] at h1 h2
  have h1 := of_decide_eq_false h1
  have h2 := of_decide_eq_false h2
  have := List.le_antisymm (List.not_lt.1 h2) (List.not_lt.1 h1)
  exact ByteArray.ext (Array.toList_inj.1 this)
theorem insert_ok (l : List ByteArray) (s : ByteArray) (hl : l.length ≤ 1048576) : ∃ r_, (fun v => v = .slice ((insL ltB l s).map str)) r_ ∧ FnOk Tryz.prog 24 [.slice (l.map str), str s] r_ := by
 refine vfn tt_ok [20000] 45 [.tmp 4] (fn := Tryz.f24) Tryz.func24 rfl Tryz.call24 ⟨rfl, rfl, by simp⟩ fun K hK => ?_
 simp only [List.length_map,go_sem,reduceIte,zA,zB,zC,zD,zE,zF,reduceCtorEq]
 refine xjoin tt_ok [20000] [5] 0 [0,1,4] (fun vs => ∃ i : Nat, vs = [num i] ∧ i ≤ l.length ∧ (∀ j < i, ∀ b, l[j]? = some b → ltB b s = true) ∧ ∀ b, l[i]? = some b → ltB b s = false) (fun Z1 hZ1 => ?_) ?_
 ·simp only [List.length_map,go_sem,reduceIte,zA,zB,zC,zD,zE,zF,reduceCtorEq]
  refine xloopL tt_ok [20000] [5] 0 [0,1,4] (fun vs => ((l.length : Int) - Go.Eng.intOf (vs.headD .undef)).toNat) (fun vs => ∃ i : Nat, vs = [num i] ∧ i ≤ l.length ∧ ∀ j < i, ∀ b, l[j]? = some b → ltB b s = true) (by omega) (by simp only [List.length_map,go_sem,reduceIte,zA,zB,zC,zD,zE,zF,reduceCtorEq]) (⟨0, rfl, Nat.zero_le _, fun j hj => absurd hj (Nat.not_lt_zero j)⟩) fun vs hI Z2 hZ2 => ?_
  obtain ⟨i, rfl, hi, hno⟩ := hI
  simp only [List.length_map,go_sem,reduceIte,zA,zB,zC,zD,zE,zF,reduceCtorEq]
  refine gif (fun hb2_4 => ?_) (fun hb2_4 => ?_)
  ·have hlt : i < l.length := by have := of_decide_eq_true hb2_4; omega
   obtain ⟨x, hx⟩ : ∃ x, l[i]? = some x := ⟨_, List.getElem?_eq_getElem hlt⟩
   have hw := i64_succ i (by omega)
   simp only [List.getElem?_map,hx,hw,List.length_map,go_sem,reduceIte,zA,zB,zC,zD,zE,zF,reduceCtorEq]
   refine gif (fun hc17 => ?_) (fun hc17 => ?_)
   ·have hxs : ltB x s = true := by simpa [ltB] using hc17
    simp only [List.getElem?_map,hx,hw,List.length_map,go_sem,reduceIte,zA,zB,zC,zD,zE,zF,reduceCtorEq]
    refine hZ2 _ (endK (by omega) (by simp only [List.getElem?_map,hx,hw,List.length_map,go_sem,reduceIte,zA,zB,zC,zD,zE,zF,reduceCtorEq]) ?_ ?_) <;> simp only [lks,lk,reduceIte,zE]
    ·refine ⟨i + 1, rfl, hlt, fun j hj b hb => ?_⟩
     rcases Nat.lt_or_ge j i with h | h
     ·exact hno j h b hb
     ·obtain rfl : j = i := by omega
      rw [hx] at hb; cases hb; exact hxs
    ·simp only [Go.Eng.intOf,List.headD_cons]; omega
   ·have hge : ∀ b, l[i]? = some b → ltB b s = false := fun b hb => by rw [hx] at hb; cases hb; simpa [ltB] using hc17
    simp only [List.getElem?_map,hx,hw,List.length_map,go_sem,reduceIte,zA,zB,zC,zD,zE,zF,reduceCtorEq]
    refine hZ1 _ (endJ (by omega) (by simp only [List.getElem?_map,hx,hw,List.length_map,go_sem,reduceIte,zA,zB,zC,zD,zE,zF,reduceCtorEq]) ?_)
    simp only [lks,lk,reduceIte,zE]
    exact ⟨i, rfl, hi, hno, hge⟩
  ·have hge : ∀ b, l[i]? = some b → ltB b s = false := fun b hb => by have := (List.getElem?_eq_some_iff.1 hb).1; have := of_decide_eq_false hb2_4; omega
   simp only [List.length_map,go_sem,reduceIte,zA,zB,zC,zD,zE,zF,reduceCtorEq]
   refine hZ1 _ (endJ (by omega) (by simp only [List.length_map,go_sem,reduceIte,zA,zB,zC,zD,zE,zF,reduceCtorEq]) ?_)
   simp only [lks,lk,reduceIte,zE]
   exact ⟨i, rfl, hi, hno, hge⟩
 ·intro vs hJ
  obtain ⟨i, rfl, hi, hno, hge⟩ := hJ
  have hins := insL_at hno hi hge
  simp only [List.length_map,go_sem,reduceIte,zA,zB,zC,zD,zE,zF,reduceCtorEq]
  refine gif (fun hb4_4 => ?_) (fun hb4_4 => ?_)
  ·have hlt : i < l.length := by have := of_decide_eq_true hb4_4; omega
   obtain ⟨x, hx⟩ : ∃ x, l[i]? = some x := ⟨_, List.getElem?_eq_getElem hlt⟩
   simp only [List.getElem?_map,hx,List.length_map,go_sem,reduceIte,zA,zB,zC,zD,zE,zF,reduceCtorEq]
   refine gif (fun hc31 => ?_) (fun hc31 => ?_)
   ·have hxs : x = s := by have h := hc31; rw [str_beq] at h; simpa using h
    have hres : V.slice (l.map str) = .slice ((insL ltB l s).map str) := by rw [hins, if_pos (by rw [hx, hxs])]
    simp only [List.getElem?_map,hx,List.length_map,go_sem,reduceIte,zA,zB,zC,zD,zE,zF,reduceCtorEq]
    first
     | exact hK _ hres
     | (refine hK _ ?_; rw [← hres, List.take_of_length_le (by simp; omega)]; simp)
   ·have hxs : ¬ x = s := by have h := hc31; rw [str_beq] at h; simpa using h
    have hns : ¬ l[i]? = some s := by rw [hx]; exact fun e => hxs (Option.some.inj e)
    have hres : (V.slice (((l.take i) ++ [s] ++ (l.drop i)).map str)) = .slice ((insL ltB l s).map str) := by rw [hins, if_neg hns]
    have hc1 := fun mem => cutTo2 l str 1 (fun _ => rfl) i hi mem
    have hc2 := fun mem => cutFrom2 l str 1 (fun _ => rfl) i hi mem
    have hf1 := fun (k : List ByteArray) => firstMap k str 1 (fun _ => rfl)
    have hf2 : firstOk [V.sc (.string s)] 0 1 = true := rfl
    have hle1 : (l.take i).length ≤ 34359738368 := by rw [List.length_take]; omega
    have hle2 : (l.take i).length + 1 ≤ 34359738368 := by rw [List.length_take]; omega
    have hle3 : (l.take i).length + 1 + (l.drop i).length ≤ 34359738368 := by rw [List.length_take, List.length_drop]; omega
    simp only [List.getElem?_map,hx,hc1,hc2,hf1,hf2,List.length_append,List.length_cons,List.length_nil,Nat.zero_add,hle1,hle2,hle3,hle1,List.length_map,go_sem,reduceIte,zA,zB,zC,zD,zE,zF,reduceCtorEq]
    refine xmixL tt_ok mixed_ok [⟨.a, 0, [], [], []⟩, ⟨.n, 0, [], [], []⟩, ⟨.n, 0, [], [], []⟩, ⟨.r, 0, [0], [1,2], []⟩, ⟨.w, 1, [], [0,1,2,3], []⟩, ⟨.n, 0, [], [], []⟩, ⟨.n, 0, [], [5], []⟩, ⟨.w, 2, [], [0,1,2,3,4,5,6], []⟩, ⟨.n, 0, [], [], []⟩, ⟨.n, 0, [], [], []⟩, ⟨.n, 0, [], [8,9], []⟩, ⟨.w, 3, [], [0,1,2,3,4,5,6,7,8,9,10], []⟩, ⟨.n, 0, [], [0,1,2,3,4,5,6,7,8,9,10,11], []⟩] 4 (by kernel_rfl) ?_
    simp only [List.getElem?_map,hx,hc1,hc2,hf1,hf2,List.length_append,List.length_cons,List.length_nil,Nat.zero_add,hle1,hle2,hle3,hle1,List.length_map,go_sem,reduceIte,zA,zB,zC,zD,zE,zF,reduceCtorEq]
    first
     | exact hK _ hres
     | (refine hK _ ?_; rw [← hres, List.take_of_length_le (by simp; omega)]; simp)
  ·have hns : ¬ l[i]? = some s := fun h => by have := (List.getElem?_eq_some_iff.1 h).1; have := of_decide_eq_false hb4_4; omega
   have hres : (V.slice (((l.take i) ++ [s] ++ (l.drop i)).map str)) = .slice ((insL ltB l s).map str) := by rw [hins, if_neg hns]
   have hc1 := fun mem => cutTo2 l str 1 (fun _ => rfl) i hi mem
   have hc2 := fun mem => cutFrom2 l str 1 (fun _ => rfl) i hi mem
   have hf1 := fun (k : List ByteArray) => firstMap k str 1 (fun _ => rfl)
   have hf2 : firstOk [V.sc (.string s)] 0 1 = true := rfl
   have hle1 : (l.take i).length ≤ 34359738368 := by rw [List.length_take]; omega
   have hle2 : (l.take i).length + 1 ≤ 34359738368 := by rw [List.length_take]; omega
   have hle3 : (l.take i).length + 1 + (l.drop i).length ≤ 34359738368 := by rw [List.length_take, List.length_drop]; omega
   simp only [hc1,hc2,hf1,hf2,List.length_append,List.length_cons,List.length_nil,Nat.zero_add,hle1,hle2,hle3,hle1,List.length_map,go_sem,reduceIte,zA,zB,zC,zD,zE,zF,reduceCtorEq]
   refine xmixL tt_ok mixed_ok [⟨.a, 0, [], [], []⟩, ⟨.n, 0, [], [], []⟩, ⟨.n, 0, [], [], []⟩, ⟨.r, 0, [0], [1,2], []⟩, ⟨.w, 1, [], [0,1,2,3], []⟩, ⟨.n, 0, [], [], []⟩, ⟨.n, 0, [], [5], []⟩, ⟨.w, 2, [], [0,1,2,3,4,5,6], []⟩, ⟨.n, 0, [], [], []⟩, ⟨.n, 0, [], [], []⟩, ⟨.n, 0, [], [8,9], []⟩, ⟨.w, 3, [], [0,1,2,3,4,5,6,7,8,9,10], []⟩, ⟨.n, 0, [], [0,1,2,3,4,5,6,7,8,9,10,11], []⟩] 4 (by kernel_rfl) ?_
   simp only [hc1,hc2,hf1,hf2,List.length_append,List.length_cons,List.length_nil,Nat.zero_add,hle1,hle2,hle3,hle1,List.length_map,go_sem,reduceIte,zA,zB,zC,zD,zE,zF,reduceCtorEq]
   first
    | exact hK _ hres
    | (refine hK _ ?_; rw [← hres, List.take_of_length_le (by simp; omega)]; simp)
end Go.Proofs.YtcajnfkkokeeeaaGreatDoor
end

section
namespace Go.Proofs.YtcajnfkkokeeeaaGreatDoor
open Go.Eng
open Nat renaming reduceAdd → zA, reduceLT → zB, reduceLeDiff → zC, reduceMul → zD, reduceEqDiff → zE, reduceSub → zF
variable [Glob]
set_option maxHeartbeats 4000000
set_option maxRecDepth 100000
theorem any_of {α : Type} {q : α → Bool} {l : List α} {i : Nat} {x : α} (h : l[i]? = some x) (hq : q x = true) : l.any q = true := List.any_eq_true.2 ⟨x, List.mem_of_getElem? h, hq⟩
theorem any_none {α : Type} {q : α → Bool} {l : List α} (h : ∀ j < l.length, ∀ x, l[j]? = some x → q x = false) : l.any q = false := by
 rw [List.any_eq_false]
 intro x hx
 obtain ⟨j, hj⟩ := List.mem_iff_getElem?.1 hx
 rw [h j (List.getElem?_eq_some_iff.1 hj).1 x hj]; simp
def depr (I : Ify) (nm : ByteArray) : Bool := I.deps.any fun d => decide (d.name = nm)
theorem clo44_ok (I : Ify) (nm : ByteArray) (d : Dp) : ∃ r_, (fun w => w = bl (decide (d.name = nm))) r_ ∧ FnOkS Tryz.prog 44 [encDp d, .ptr 1 0] ([.box [str I.path, .slice (I.types.map encTe), .slice (I.vals.map encVe), .slice (I.als.map encAl), .slice (I.deps.map encDp)], .box [str nm]]) r_ ([.box [str I.path, .slice (I.types.map encTe), .slice (I.vals.map encVe), .slice (I.als.map encAl), .slice (I.deps.map encDp)], .box [str nm]]) := by
 refine vfs tt_ok [] 8 [.tmp 3] (fn := Tryz.f44) Tryz.func44 rfl Tryz.call44 ⟨rfl, rfl, by simp⟩ fun K hK => ?_
 simp only [encDp]
 simp only [str_beq,go_sem,reduceIte,zA,zB,zC,zD,zE,zF,reduceCtorEq]
 exact hK _ _ ⟨rfl, rfl⟩
theorem idxD_ok (I : Ify) (nm : ByteArray) (l : List Dp) (hl : l.length ≤ 2097152) : ∃ r_, (fun w => ∃ k : Int, w = num k ∧ decide (0 ≤ k) = l.any (fun d => decide (d.name = nm))) r_ ∧ FnOkS Tryz.prog 31 [.slice (l.map encDp), .clo (.func 44) [] [.ptr 1 0]] ([.box [str I.path, .slice (I.types.map encTe), .slice (I.vals.map encVe), .slice (I.als.map encAl), .slice (I.deps.map encDp)], .box [str nm]]) r_ ([.box [str I.path, .slice (I.types.map encTe), .slice (I.vals.map encVe), .slice (I.als.map encAl), .slice (I.deps.map encDp)], .box [str nm]]) := by
 refine vfs tt_ok [] 19 [.tmp 4] (fn := Tryz.f31) Tryz.func31 rfl Tryz.call31 ⟨rfl, rfl, by simp⟩ fun K hK => ?_
 simp only [List.length_map,go_sem,reduceIte,zA,zB,zC,zD,zE,zF,reduceCtorEq]
 refine xloopL tt_ok [] [8] 2 [0,1,7] (fun vs => ((l.length : Int) - Go.Eng.intOf (vs.headD .undef)).toNat) (fun vs => ∃ i : Nat, vs = [num i] ∧ i ≤ l.length ∧ ∀ j < i, ∀ x, l[j]? = some x → (fun d => decide (d.name = nm)) x = false) (by omega) (by simp only [List.length_map,go_sem,reduceIte,zA,zB,zC,zD,zE,zF,reduceCtorEq]) (⟨0, rfl, Nat.zero_le _, fun j hj => absurd hj (Nat.not_lt_zero j)⟩) fun vs hI Z1 hZ1 => ?_
 obtain ⟨i, rfl, hi, hall⟩ := hI
 simp only [List.length_map,go_sem,reduceIte,zA,zB,zC,zD,zE,zF,reduceCtorEq]
 refine gif (fun hc9 => ?_) (fun hc9 => ?_)
 ·have hlt : i < l.length := by simpa using hc9
  have hw := i64_succ i (by omega)
  obtain ⟨x, hx⟩ : ∃ x, l[i]? = some x := ⟨_, List.getElem?_eq_getElem hlt⟩
  simp only [hw,List.getElem?_map,hx,encDp,List.length_map,go_sem,reduceIte,zA,zB,zC,zD,zE,zF,reduceCtorEq]
  refine cS (by have h := clo44_ok I nm x; simp only [encDp] at h; exact h) ?_
  rintro _ rfl
  simp only [hw,List.getElem?_map,hx,encDp,List.length_map,go_sem,reduceIte,zA,zB,zC,zD,zE,zF,reduceCtorEq]
  refine gif (fun hc16 => ?_) (fun hc16 => ?_)
  ·have hres : decide (0 ≤ (i : Int)) = l.any (fun d => decide (d.name = nm)) := by rw [any_of hx hc16]; exact decide_eq_true (Int.natCast_nonneg i)
   simp only [hw,List.getElem?_map,hx,encDp,List.length_map,go_sem,reduceIte,zA,zB,zC,zD,zE,zF,reduceCtorEq]
   exact hK _ _ ⟨⟨_, rfl, hres⟩, rfl⟩
  ·simp only [hw,List.getElem?_map,hx,encDp,List.length_map,go_sem,reduceIte,zA,zB,zC,zD,zE,zF,reduceCtorEq]
   refine hZ1 _ (endK (by omega) (by simp only [hw,List.getElem?_map,hx,encDp,List.length_map,go_sem,reduceIte,zA,zB,zC,zD,zE,zF,reduceCtorEq]) ?_ ?_) <;> simp only [lks,lk,reduceIte,zE]
   ·refine ⟨i + 1, rfl, hlt, fun j hj => ?_⟩
    rcases Nat.lt_or_ge j i with h | h
    ·exact hall j h
    ·obtain rfl : j = i := by omega
     intro y hy
     rw [hx] at hy; cases hy; exact hc16
   ·simp only [Go.Eng.intOf,List.headD_cons]; omega
 ·have hge : ¬ i < l.length := by simpa using hc9
  have hres : decide (0 ≤ (-1 : Int)) = l.any (fun d => decide (d.name = nm)) := (any_none fun j hj => hall j (by omega)).symm ▸ rfl
  simp only [List.length_map,go_sem,reduceIte,zA,zB,zC,zD,zE,zF,reduceCtorEq]
  exact hK _ _ ⟨⟨_, rfl, hres⟩, rfl⟩
theorem anyD_ok (I : Ify) (nm : ByteArray) (l : List Dp) (hl : l.length ≤ 2097152) : ∃ r_, (fun w => w = bl (l.any (fun d => decide (d.name = nm)))) r_ ∧ FnOkS Tryz.prog 43 [.slice (l.map encDp), .clo (.func 44) [] [.ptr 1 0]] ([.box [str I.path, .slice (I.types.map encTe), .slice (I.vals.map encVe), .slice (I.als.map encAl), .slice (I.deps.map encDp)], .box [str nm]]) r_ ([.box [str I.path, .slice (I.types.map encTe), .slice (I.vals.map encVe), .slice (I.als.map encAl), .slice (I.deps.map encDp)], .box [str nm]]) := by
 refine vfs tt_ok [] 9 [.tmp 4] (fn := Tryz.f43) Tryz.func43 rfl Tryz.call43 ⟨rfl, rfl, by simp⟩ fun K hK => ?_
 simp only [go_sem,reduceIte,zA,zB,zC,zD,zE,zF,reduceCtorEq]
 refine cS (idxD_ok I nm l hl) ?_
 rintro _ ⟨k, rfl, hk⟩
 simp only [go_sem,reduceIte,zA,zB,zC,zD,zE,zF,reduceCtorEq]
 exact hK _ _ ⟨congrArg bl hk, rfl⟩
theorem depr_ok (I : Ify) (nm : ByteArray) (hl : I.deps.length ≤ 2097152) : ∃ r_, (fun w => w = bl (depr I nm)) r_ ∧ FnOk Tryz.prog 23 [encIf I, str nm] r_ := by
 refine vfn tt_ok [] 9 [.tmp 4] (fn := Tryz.f23) Tryz.func23 rfl Tryz.call23 ⟨rfl, rfl, by simp⟩ fun K hK => ?_
 simp only [encIf,ifCells]
 simp only [go_sem,reduceIte,zA,zB,zC,zD,zE,zF,reduceCtorEq]
 refine cS (anyD_ok I nm I.deps hl) ?_
 rintro _ rfl
 simp only [go_sem,reduceIte,zA,zB,zC,zD,zE,zF,reduceCtorEq]
 exact hK _ rfl
end Go.Proofs.YtcajnfkkokeeeaaGreatDoor
end

section
namespace Go.Proofs.YtcajnfkkokeeeaaGreatDoor
open Go.Eng
open Nat renaming reduceAdd → zA, reduceLT → zB, reduceLeDiff → zC, reduceMul → zD, reduceEqDiff → zE, reduceSub → zF
variable [Glob]
set_option maxHeartbeats 4000000
set_option maxRecDepth 100000
section
variable {α : Type} [DecidableEq α] {lt : α → α → Bool}
theorem insL_length {s : α} : ∀ {l : List α}, (insL lt l s).length ≤ l.length + 1
 | [] => by simp [insL]
 | a :: r => by
  unfold insL
  split
  ·have := insL_length (s := s) (l := r); simp only [List.length_cons]; omega
  ·split <;> simp
theorem insAll_length : ∀ {m l : List α}, (insAll lt l m).length ≤ l.length + m.length
 | [], l => by simp [insAll]
 | s :: m, l => by
  have h1 := insAll_length (m := m) (l := insL lt l s)
  have h2 := insL_length (lt := lt) (s := s) (l := l)
  show (insAll lt (insL lt l s) m).length ≤ _
  rw [List.length_cons]; omega
end
def expT (I : Ify) : List ByteArray := insAll ltB [] (I.types.map Te.name)
def expV (I : Ify) : List ByteArray := insAll ltB (expT I) (I.vals.map Ve.name)
def expR (I : Ify) : List ByteArray := insAll ltB (expV I) (I.als.map Al.name)
theorem insAll_take {α : Type} (g : α → ByteArray) (a : List ByteArray) {l : List α} {i : Nat} {x : α} (h : l[i]? = some x) : insAll ltB a ((l.take (i + 1)).map g) = insL ltB (insAll ltB a ((l.take i).map g)) (g x) := by
 unfold insAll
 rw [List.take_add_one, h, List.map_append, List.foldl_append]; rfl
theorem insAll_le {α : Type} (g : α → ByteArray) (a : List ByteArray) (l : List α) (i : Nat) : (insAll ltB a ((l.take i).map g)).length ≤ a.length + l.length := by
 have h := insAll_length (lt := ltB) (l := a) (m := (l.take i).map g)
 rw [List.length_map, List.length_take] at h
 omega
theorem rexp_ok (I : Ify) (hb : I.types.length + I.vals.length + I.als.length ≤ 1048576) : ∃ r_, (fun w => w = .slice ((expR I).map str)) r_ ∧ FnOk Tryz.prog 10 [encIf I] r_ := by
 refine vfn tt_ok [2] 54 [.tmp 2] (fn := Tryz.f10) Tryz.func10 rfl Tryz.call10 ⟨rfl, rfl, by simp⟩ fun K hK => ?_
 simp only [encIf,ifCells]
 simp only [List.length_map,go_sem,reduceIte,zA,zB,zC,zD,zE,zF,reduceCtorEq]
 refine xfrz (v' := .slice []) 3 (by decide) rfl rfl ?_
 refine xgo tt_ok [2] ?_
 simp only [List.length_map,go_sem,reduceIte,zA,zB,zC,zD,zE,zF,reduceCtorEq]
 refine xloopL tt_ok [2] [4,3] 2 [1,2] (fun vs => ((I.types.length : Int) - Go.Eng.intOf (vs.headD .undef)).toNat) (fun vs => ∃ i : Nat, vs = [num i, .slice ((insAll ltB [] ((I.types.take i).map Te.name)).map str)] ∧ i ≤ I.types.length) (by omega) (by simp only [List.length_map,go_sem,reduceIte,zA,zB,zC,zD,zE,zF,reduceCtorEq]) (⟨0, rfl, Nat.zero_le _⟩) fun vs hI Z1 hZ1 => ?_
 obtain ⟨i, rfl, hi⟩ := hI
 have hle := insAll_le Te.name [] I.types i
 simp only [List.length_map,go_sem,reduceIte,zA,zB,zC,zD,zE,zF,reduceCtorEq]
 refine gif (fun hc12 => ?_) (fun hc12 => ?_)
 ·have hlt : i < I.types.length := by simpa using hc12
  have hw := i64_succ i (by omega)
  obtain ⟨x, hx⟩ : ∃ x, I.types[i]? = some x := ⟨_, List.getElem?_eq_getElem hlt⟩
  simp only [hw,List.getElem?_map,hx,encTe,List.length_map,go_sem,reduceIte,zA,zB,zC,zD,zE,zF,reduceCtorEq]
  refine cF (insert_ok (insAll ltB [] ((I.types.take i).map Te.name)) x.name (by rw [List.length_nil] at hle; omega)) ?_
  rintro _ rfl
  simp only [hw,List.getElem?_map,hx,encTe,List.length_map,go_sem,reduceIte,zA,zB,zC,zD,zE,zF,reduceCtorEq]
  refine hZ1 _ (endK (by omega) (by simp only [hw,List.getElem?_map,hx,encTe,List.length_map,go_sem,reduceIte,zA,zB,zC,zD,zE,zF,reduceCtorEq]) ?_ ?_) <;> simp only [lks,lk,reduceIte,zE]
  ·exact ⟨i + 1, by rw [insAll_take Te.name [] hx], hlt⟩
  ·simp only [Go.Eng.intOf,List.headD_cons]; omega
 ·have hge : i = I.types.length := by have := of_decide_eq_false hc12; omega
  rw [hge, List.take_length]
  have hT : insAll ltB [] (I.types.map Te.name) = expT I := rfl
  rw [hT]
  have hlT : (expT I).length ≤ I.types.length := by have := insAll_le Te.name [] I.types I.types.length; rw [List.take_length] at this; simpa [expT] using this
  simp only [List.length_map,go_sem,reduceIte,zA,zB,zC,zD,zE,zF,reduceCtorEq]
  refine xloopL tt_ok [2] [5,3] 2 [1,2,12] (fun vs => ((I.vals.length : Int) - Go.Eng.intOf (vs.headD .undef)).toNat) (fun vs => ∃ i : Nat, vs = [num i, .slice ((insAll ltB (expT I) ((I.vals.take i).map Ve.name)).map str)] ∧ i ≤ I.vals.length) (by omega) (by simp only [List.length_map,go_sem,reduceIte,zA,zB,zC,zD,zE,zF,reduceCtorEq]) (⟨0, rfl, Nat.zero_le _⟩) fun vs hI Z2 hZ2 => ?_
  obtain ⟨i, rfl, hi⟩ := hI
  have hle := insAll_le Ve.name (expT I) I.vals i
  simp only [List.length_map,go_sem,reduceIte,zA,zB,zC,zD,zE,zF,reduceCtorEq]
  refine gif (fun hc27 => ?_) (fun hc27 => ?_)
  ·have hlt : i < I.vals.length := by simpa using hc27
   have hw := i64_succ i (by omega)
   obtain ⟨x, hx⟩ : ∃ x, I.vals[i]? = some x := ⟨_, List.getElem?_eq_getElem hlt⟩
   simp only [hw,List.getElem?_map,hx,encVe,List.length_map,go_sem,reduceIte,zA,zB,zC,zD,zE,zF,reduceCtorEq]
   refine cF (insert_ok (insAll ltB (expT I) ((I.vals.take i).map Ve.name)) x.name (by omega)) ?_
   rintro _ rfl
   simp only [hw,List.getElem?_map,hx,encVe,List.length_map,go_sem,reduceIte,zA,zB,zC,zD,zE,zF,reduceCtorEq]
   refine hZ2 _ (endK (by omega) (by simp only [hw,List.getElem?_map,hx,encVe,List.length_map,go_sem,reduceIte,zA,zB,zC,zD,zE,zF,reduceCtorEq]) ?_ ?_) <;> simp only [lks,lk,reduceIte,zE]
   ·exact ⟨i + 1, by rw [insAll_take Ve.name (expT I) hx], hlt⟩
   ·simp only [Go.Eng.intOf,List.headD_cons]; omega
  ·have hge : i = I.vals.length := by have := of_decide_eq_false hc27; omega
   rw [hge, List.take_length]
   have hV : insAll ltB (expT I) (I.vals.map Ve.name) = expV I := rfl
   rw [hV]
   have hlV : (expV I).length ≤ (expT I).length + I.vals.length := by have := insAll_le Ve.name (expT I) I.vals I.vals.length; rw [List.take_length] at this; exact this
   simp only [List.length_map,go_sem,reduceIte,zA,zB,zC,zD,zE,zF,reduceCtorEq]
   refine xloopL tt_ok [2] [6,3] 2 [1,2,12,27] (fun vs => ((I.als.length : Int) - Go.Eng.intOf (vs.headD .undef)).toNat) (fun vs => ∃ i : Nat, vs = [num i, .slice ((insAll ltB (expV I) ((I.als.take i).map Al.name)).map str)] ∧ i ≤ I.als.length) (by omega) (by simp only [List.length_map,go_sem,reduceIte,zA,zB,zC,zD,zE,zF,reduceCtorEq]) (⟨0, rfl, Nat.zero_le _⟩) fun vs hI Z3 hZ3 => ?_
   obtain ⟨i, rfl, hi⟩ := hI
   have hle := insAll_le Al.name (expV I) I.als i
   simp only [List.length_map,go_sem,reduceIte,zA,zB,zC,zD,zE,zF,reduceCtorEq]
   refine gif (fun hc42 => ?_) (fun hc42 => ?_)
   ·have hlt : i < I.als.length := by simpa using hc42
    have hw := i64_succ i (by omega)
    obtain ⟨x, hx⟩ : ∃ x, I.als[i]? = some x := ⟨_, List.getElem?_eq_getElem hlt⟩
    simp only [hw,List.getElem?_map,hx,encAl,List.length_map,go_sem,reduceIte,zA,zB,zC,zD,zE,zF,reduceCtorEq]
    refine cF (insert_ok (insAll ltB (expV I) ((I.als.take i).map Al.name)) x.name (by omega)) ?_
    rintro _ rfl
    simp only [hw,List.getElem?_map,hx,encAl,List.length_map,go_sem,reduceIte,zA,zB,zC,zD,zE,zF,reduceCtorEq]
    refine hZ3 _ (endK (by omega) (by simp only [hw,List.getElem?_map,hx,encAl,List.length_map,go_sem,reduceIte,zA,zB,zC,zD,zE,zF,reduceCtorEq]) ?_ ?_) <;> simp only [lks,lk,reduceIte,zE]
    ·exact ⟨i + 1, by rw [insAll_take Al.name (expV I) hx], hlt⟩
    ·simp only [Go.Eng.intOf,List.headD_cons]; omega
   ·have hge : i = I.als.length := by have := of_decide_eq_false hc42; omega
    rw [hge, List.take_length]
    simp only [List.length_map,go_sem,reduceIte,zA,zB,zC,zD,zE,zF,reduceCtorEq]
    exact hK _ rfl
end Go.Proofs.YtcajnfkkokeeeaaGreatDoor
end

section
namespace Go.Proofs.YtcajnfkkokeeeaaGreatDoor
open Go.Eng
open Nat renaming reduceAdd → zA, reduceLT → zB, reduceLeDiff → zC, reduceMul → zD, reduceEqDiff → zE, reduceSub → zF
variable [Glob]
set_option maxHeartbeats 4000000
set_option maxRecDepth 100000
def inU (c : Int) (l : List Int) : Bool := l.any fun b => decide (c = b)
theorem inU_yes {c : Int} {l : List Int} {i : Nat} (h : l[i]? = some c) : inU c l = true := by unfold inU; exact List.any_eq_true.2 ⟨c, List.mem_of_getElem? h, decide_eq_true rfl⟩
theorem inU_no {c : Int} {l : List Int} (h : ∀ j < l.length, ∀ b, l[j]? = some b → c ≠ b) : inU c l = false := any_none fun j hj x hx => decide_eq_false (h j hj x hx)
theorem uidx_ok (l : List Int) (c : Int) (hl : l.length ≤ 1048576) : ∃ r_, (fun w => ∃ n : Int, w = num n ∧ decide (n ≥ 0) = inU c l) r_ ∧ FnOk Tryz.prog 25 [.slice (l.map u8), u8 c] r_ := by
 refine vfn tt_ok [] 19 [.tmp 4] (fn := Tryz.f25) Tryz.func25 rfl Tryz.call25 ⟨rfl, rfl, by simp⟩ fun K hK => ?_
 simp only [List.length_map,go_sem,reduceIte,zA,zB,zC,zD,zE,zF,reduceCtorEq]
 refine xloopL tt_ok [] [8] 0 [0,1,7] (fun vs => ((l.length : Int) - Go.Eng.intOf (vs.headD .undef)).toNat) (fun vs => ∃ i : Nat, vs = [num i] ∧ i ≤ l.length ∧ ∀ j < i, ∀ b, l[j]? = some b → c ≠ b) (by omega) (by simp only [List.length_map,go_sem,reduceIte,zA,zB,zC,zD,zE,zF,reduceCtorEq]) (⟨0, rfl, Nat.zero_le _, fun j hj => absurd hj (Nat.not_lt_zero j)⟩) fun vs hI Z1 hZ1 => ?_
 obtain ⟨i, rfl, hi, hall⟩ := hI
 simp only [List.length_map,go_sem,reduceIte,zA,zB,zC,zD,zE,zF,reduceCtorEq]
 refine gif (fun hc9 => ?_) (fun hc9 => ?_)
 ·have hlt : i < l.length := by simpa using hc9
  have hw := i64_succ i (by omega)
  obtain ⟨x, hx⟩ : ∃ x, l[i]? = some x := ⟨_, List.getElem?_eq_getElem hlt⟩
  simp only [hw,List.getElem?_map,hx,List.length_map,go_sem,reduceIte,zA,zB,zC,zD,zE,zF,reduceCtorEq]
  refine gif (fun hc16 => ?_) (fun hc16 => ?_)
  ·have heq : c = x := of_decide_eq_true hc16
   have hres : decide ((i : Int) ≥ 0) = inU c l := by rw [decide_eq_true (by omega : (i : Int) ≥ 0), inU_yes (heq ▸ hx)]
   simp only [hw,List.getElem?_map,hx,List.length_map,go_sem,reduceIte,zA,zB,zC,zD,zE,zF,reduceCtorEq]
   exact hK _ ⟨_, rfl, hres⟩
  ·have hne : c ≠ x := of_decide_eq_false hc16
   simp only [hw,List.getElem?_map,hx,List.length_map,go_sem,reduceIte,zA,zB,zC,zD,zE,zF,reduceCtorEq]
   refine hZ1 _ (endK (by omega) (by simp only [hw,List.getElem?_map,hx,List.length_map,go_sem,reduceIte,zA,zB,zC,zD,zE,zF,reduceCtorEq]) ?_ ?_) <;> simp only [lks,lk,reduceIte,zE]
   ·refine ⟨i + 1, rfl, hlt, fun j hj => ?_⟩
    rcases Nat.lt_or_ge j i with h | h
    ·exact hall j h
    ·obtain rfl : j = i := by omega
     intro y hy
     rw [hx] at hy; cases hy; exact hne
   ·simp only [Go.Eng.intOf,List.headD_cons]; omega
 ·have hge : ¬ i < l.length := by simpa using hc9
  have hres : decide ((-1 : Int) ≥ 0) = inU c l := by rw [decide_eq_false (by decide : ¬ ((-1 : Int) ≥ 0)), inU_no fun j hj => hall j (by omega)]
  simp only [List.length_map,go_sem,reduceIte,zA,zB,zC,zD,zE,zF,reduceCtorEq]
  exact hK _ ⟨_, rfl, hres⟩
theorem ucont_ok (l : List Int) (c : Int) (hl : l.length ≤ 1048576) : ∃ r_, (fun w => w = bl (inU c l)) r_ ∧ FnOk Tryz.prog 11 [.slice (l.map u8), u8 c] r_ := by
 refine vfn tt_ok [] 9 [.tmp 4] (fn := Tryz.f11) Tryz.func11 rfl Tryz.call11 ⟨rfl, rfl, by simp⟩ fun K hK => ?_
 simp only [go_sem,reduceIte,zA,zB,zC,zD,zE,zF,reduceCtorEq]
 refine cF (uidx_ok l c hl) ?_
 rintro _ ⟨n, rfl, hn⟩
 simp only [go_sem,reduceIte,zA,zB,zC,zD,zE,zF,reduceCtorEq]
 exact hK _ (congrArg bl hn)
end Go.Proofs.YtcajnfkkokeeeaaGreatDoor
end

section
namespace Go.Proofs.YtcajnfkkokeeeaaGreatDoor
open Go.Eng
variable [Glob]
def lostB (a b : Pb) (n : ByteArray) : Bool := !inB n (expR b.ifc) && (decide (a.ver.mj = b.ver.mj) || !depr a.ifc n)
def violL (a b : Pb) : List Vio := ((expR a.ifc).filter (lostB a b)).map fun n => ⟨b.ver, n⟩
def vios : List Pb → List Vio
 | a :: b :: l => violL a b ++ vios (b :: l)
 | _ => []
theorem vios_one (a : Pb) : vios [a] = [] := by unfold vios; rfl
theorem vios_split : ∀ (l : List Pb) (i : Nat), i < l.length → vios l = vios (l.take (i + 1)) ++ vios (l.drop i)
 | [], i, h => absurd h (Nat.not_lt_zero i)
 | [a], i, h => by
  obtain rfl : i = 0 := by simp at h; exact h
  rw [List.take_succ_cons, List.take_zero, List.drop_zero, vios_one]; rfl
 | a :: b :: l, 0, h => by
  rw [List.take_succ_cons, List.take_zero, List.drop_zero, vios_one]; rfl
 | a :: b :: l, i + 1, h => by
  have ih := vios_split (b :: l) i (by simp at h ⊢; omega)
  rw [List.take_succ_cons, List.take_succ_cons] at *
  rw [List.drop_succ_cons, vios, vios, ih, List.append_assoc]
theorem hisL_take : ∀ (l : List Pb) (o : Option Pb) (k : Nat), hisL o l = true → hisL o (l.take k) = true
 | [], o, k, h => by rw [List.take_nil]; exact h
 | a :: l, o, 0, h => by rw [List.take_zero]; cases o <;> rfl
 | a :: l, o, k + 1, h => by
  rw [hisL, Bool.and_eq_true] at h
  rw [List.take_succ_cons, hisL, h.1, hisL_take l (some a) k h.2]; rfl
theorem step_none {o : Option Pb} {p : Pb} (h : stepB o p = true) : stepB none p = true := by
 cases o with
 | none => exact h
 | some q => unfold stepB at h ⊢; dsimp only at h ⊢; rw [Bool.and_eq_true] at h; exact h.1
theorem hisL_none {l : List Pb} {o : Option Pb} (h : hisL o l = true) : hisL none l = true := by
 cases l with
 | nil => rfl
 | cons a l =>
  rw [hisL, Bool.and_eq_true] at h
  rw [hisL, step_none h.1, h.2]; rfl
theorem hisL_drop : ∀ (l : List Pb) (o : Option Pb) (k : Nat), hisL o l = true → hisL none (l.drop k) = true
 | [], o, k, h => by rw [List.drop_nil]; rfl
 | a :: l, o, 0, h => by rw [List.drop_zero]; exact hisL_none h
 | a :: l, o, k + 1, h => by
  rw [hisL, Bool.and_eq_true] at h
  rw [List.drop_succ_cons]; exact hisL_drop l (some a) k h.2
theorem hisOk_drop {l : List Pb} (h : hisOk l = true) (k : Nat) : hisOk (l.drop k) = true := by
 unfold hisOk at h ⊢
 rw [Bool.and_eq_true] at h ⊢
 exact ⟨decide_eq_true (by have := of_decide_eq_true h.1; rw [List.length_drop]; omega), hisL_drop l none k h.2⟩
end Go.Proofs.YtcajnfkkokeeeaaGreatDoor
end

section
namespace Go.Proofs.YtcajnfkkokeeeaaGreatDoor
open Go.Eng
variable [Glob]
theorem Vio.ext' {a b : Vio} (h1 : a.ver = b.ver) (h2 : a.name = b.name) : a = b := by cases a; cases b; simp_all
instance : DecidableEq Vio := fun a b => if h : a.ver = b.ver ∧ a.name = b.name then .isTrue (Vio.ext' h.1 h.2) else .isFalse fun e => h (by subst e; exact ⟨rfl, rfl⟩)
end Go.Proofs.YtcajnfkkokeeeaaGreatDoor
end

section
namespace Go.Proofs.YtcajnfkkokeeeaaGreatDoor
open Go.Eng
variable [Glob]
set_option maxHeartbeats 4000000
set_option maxRecDepth 100000
end Go.Proofs.YtcajnfkkokeeeaaGreatDoor
end
