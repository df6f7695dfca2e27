/-
  CONTRACTS: the library's contracts on strings and sorting, laid at this program (the layings' tables by the kit's lay-plain).
  CONTRACTS: slices.Sorted at the keys of a map, by the kit's contract.
  CONTRACTS: Exports, by the program.
  CONTRACTS: types of an interface, sizes, by the reference.
  PLAIN LAW DeprecateRemoves: a release that leaves names out.
  CONTRACTS: few; Check.
  CONTRACTS: Removable.
-/
import Derived.Test.YtcajnfkkokeeeaaGreatDoorG4
import Derived.Shelf.SlIter.Nil
import Derived.Shelf.SortM.Plain
import Derived.Shelf.SortM.SortNone
import Derived.Ground.GgzProg
import Derived.Ground.SlgmProg
import Derived.Test.YtcajnfkkokeeeaaGreatDoorProg
set_option linter.all false
section
namespace Go.Proofs.YtcajnfkkokeeeaaGreatDoor
open Go.RowKit Go.Maps Go.Sort Go.Shelf
def keys42_ren : Go.Shelf.Ren := ⟨fun | 7 => 42 | 10 => 64 | n => n, fun | 23 => 109 | 26 => 9 | 3 => 4 | 28 => 114 | 0 => 0 | 27 => 113 | 33 => 136 | 4 => 4 | n => n, fun | n => n⟩
theorem keys42 : Go.Proofs.SlLaysZ.n7 Tryz.prog keys42_ren := {
  mixed := by kernel_rfl
  f7 := ⟨Tryz.f42.name, by decide, Tryz.func42.trans (congrArg some (by kernel_rfl))⟩
  f10 := ⟨Tryz.f64.name, by decide, Tryz.func64.trans (congrArg some (by kernel_rfl))⟩
  t0 := Tryz.underlying0
  a0 := Tryz.isAgg0
  z0 := Tryz.sizeOf0
  v0 := Tryz.zeroValue0
  t4 := Tryz.underlying4
  a4 := Tryz.isAgg4
  z4 := Tryz.sizeOf4
  v4 := Tryz.zeroValue4
  t23 := Tryz.underlying109
  a23 := Tryz.isAgg109
  z23 := Tryz.sizeOf109
  v23 := Tryz.zeroValue109
  t26 := Tryz.underlying9
  a26 := Tryz.isAgg9
  z26 := Tryz.sizeOf9
  v26 := Tryz.zeroValue9
  t27 := Tryz.underlying113
  a27 := Tryz.isAgg113
  z27 := Tryz.sizeOf113
  v27 := Tryz.zeroValue113
  t28 := Tryz.underlying114
  a28 := Tryz.isAgg114
  z28 := Tryz.sizeOf114
  v28 := Tryz.zeroValue114
  t33 := Tryz.underlying136
  a33 := Tryz.isAgg136
  z33 := Tryz.sizeOf136
  v33 := Tryz.zeroValue136 }
def sorted41_ren : Go.Shelf.Ren := ⟨fun | 6 => 41 | 8 => 62 | 9 => 63 | 11 => 98 | 13 => 100 | 12 => 99 | 23 => 142 | 24 => 143 | 14 => 133 | 15 => 134 | 16 => 135 | 17 => 136 | 18 => 137 | 19 => 138 | 20 => 139 | 21 => 140 | 22 => 141 | 25 => 178 | 26 => 179 | 27 => 180 | 28 => 181 | 29 => 182 | 30 => 183 | 31 => 205 | n => n, fun | 26 => 9 | 28 => 114 | 24 => 36 | 0 => 0 | 3 => 3 | 37 => 174 | 48 => 201 | 50 => 214 | 4 => 4 | 40 => 206 | 39 => 205 | 45 => 165 | 5 => 5 | 9 => 9 | 51 => 235 | 55 => 239 | 57 => 255 | 58 => 256 | 33 => 136 | n => n, fun | n => n⟩
theorem sorted41 : Go.Proofs.SlLaysZ.n6 Tryz.prog sorted41_ren := {
  mixed := by kernel_rfl
  f6 := ⟨Tryz.f41.name, by decide, Tryz.func41.trans (congrArg some (by kernel_rfl))⟩
  f8 := ⟨Tryz.f62.name, by decide, Tryz.func62.trans (congrArg some (by kernel_rfl))⟩
  f11 := ⟨Tryz.f98.name, by decide, Tryz.func98.trans (congrArg some (by kernel_rfl))⟩
  t0 := Tryz.underlying0
  a0 := Tryz.isAgg0
  z0 := Tryz.sizeOf0
  v0 := Tryz.zeroValue0
  t24 := Tryz.underlying36
  a24 := Tryz.isAgg36
  z24 := Tryz.sizeOf36
  v24 := Tryz.zeroValue36
  t26 := Tryz.underlying9
  a26 := Tryz.isAgg9
  z26 := Tryz.sizeOf9
  v26 := Tryz.zeroValue9
  t28 := Tryz.underlying114
  a28 := Tryz.isAgg114
  z28 := Tryz.sizeOf114
  v28 := Tryz.zeroValue114
  i26 := by kernel_rfl }
def sort63_ren : Go.Shelf.Ren := ⟨fun | 6 => 63 | 8 => 100 | 9 => 99 | 19 => 142 | 20 => 143 | 21 => 133 | 22 => 134 | 23 => 135 | 24 => 136 | 25 => 137 | 26 => 138 | 27 => 139 | 28 => 140 | 29 => 141 | 36 => 178 | 31 => 179 | 32 => 180 | 37 => 181 | 38 => 182 | 39 => 183 | 41 => 205 | n => n, fun | 27 => 36 | 29 => 9 | 3 => 3 | 32 => 174 | 26 => 36 | 0 => 0 | 44 => 201 | 46 => 214 | 4 => 4 | 36 => 206 | 35 => 205 | 41 => 165 | 5 => 5 | 9 => 9 | 53 => 235 | 57 => 239 | 63 => 255 | 64 => 256 | n => n, fun | n => n⟩
theorem sort63 : Go.Proofs.SlLaysM.n6 Tryz.prog sort63_ren := {
  mixed := by kernel_rfl
  f6 := ⟨Tryz.f63.name, by decide, Tryz.func63.trans (congrArg some (by kernel_rfl))⟩
  f8 := Tryz.func100.trans (congrArg some (by kernel_rfl))
  f9 := ⟨Tryz.f99.name, by decide, Tryz.func99.trans (congrArg some (by kernel_rfl))⟩
  f19 := Tryz.func142.trans (congrArg some (by kernel_rfl))
  f20 := Tryz.func143.trans (congrArg some (by kernel_rfl))
  f21 := ⟨Tryz.f133.name, by decide, Tryz.func133.trans (congrArg some (by kernel_rfl))⟩
  f22 := ⟨Tryz.f134.name, by decide, Tryz.func134.trans (congrArg some (by kernel_rfl))⟩
  f23 := ⟨Tryz.f135.name, by decide, Tryz.func135.trans (congrArg some (by kernel_rfl))⟩
  f24 := ⟨Tryz.f136.name, by decide, Tryz.func136.trans (congrArg some (by kernel_rfl))⟩
  f25 := ⟨Tryz.f137.name, by decide, Tryz.func137.trans (congrArg some (by kernel_rfl))⟩
  f26 := ⟨Tryz.f138.name, by decide, Tryz.func138.trans (congrArg some (by kernel_rfl))⟩
  f27 := ⟨Tryz.f139.name, by decide, Tryz.func139.trans (congrArg some (by kernel_rfl))⟩
  f28 := ⟨Tryz.f140.name, by decide, Tryz.func140.trans (congrArg some (by kernel_rfl))⟩
  f29 := ⟨Tryz.f141.name, by decide, Tryz.func141.trans (congrArg some (by kernel_rfl))⟩
  f31 := Tryz.func179.trans (congrArg some (by kernel_rfl))
  f32 := Tryz.func180.trans (congrArg some (by kernel_rfl))
  f36 := ⟨Tryz.f178.name, by decide, Tryz.func178.trans (congrArg some (by kernel_rfl))⟩
  f37 := ⟨Tryz.f181.name, by decide, Tryz.func181.trans (congrArg some (by kernel_rfl))⟩
  f38 := ⟨Tryz.f182.name, by decide, Tryz.func182.trans (congrArg some (by kernel_rfl))⟩
  f39 := ⟨Tryz.f183.name, by decide, Tryz.func183.trans (congrArg some (by kernel_rfl))⟩
  f41 := ⟨Tryz.f205.name, by decide, Tryz.func205.trans (congrArg some (by kernel_rfl))⟩
  t0 := Tryz.underlying0
  a0 := Tryz.isAgg0
  z0 := Tryz.sizeOf0
  v0 := Tryz.zeroValue0
  t3 := Tryz.underlying3
  a3 := Tryz.isAgg3
  z3 := Tryz.sizeOf3
  v3 := Tryz.zeroValue3
  t4 := Tryz.underlying4
  a4 := Tryz.isAgg4
  z4 := Tryz.sizeOf4
  v4 := Tryz.zeroValue4
  t5 := Tryz.underlying5
  a5 := Tryz.isAgg5
  z5 := Tryz.sizeOf5
  v5 := Tryz.zeroValue5
  t9 := Tryz.underlying9
  a9 := Tryz.isAgg9
  z9 := Tryz.sizeOf9
  v9 := Tryz.zeroValue9
  t26 := Tryz.underlying36
  a26 := Tryz.isAgg36
  z26 := Tryz.sizeOf36
  v26 := Tryz.zeroValue36
  t27 := Tryz.underlying36
  a27 := Tryz.isAgg36
  z27 := Tryz.sizeOf36
  v27 := Tryz.zeroValue36
  t29 := Tryz.underlying9
  a29 := Tryz.isAgg9
  z29 := Tryz.sizeOf9
  v29 := Tryz.zeroValue9
  t32 := Tryz.underlying174
  a32 := Tryz.isAgg174
  z32 := Tryz.sizeOf174
  v32 := Tryz.zeroValue174
  t35 := Tryz.underlying205
  a35 := Tryz.isAgg205
  z35 := Tryz.sizeOf205
  v35 := Tryz.zeroValue205
  t36 := Tryz.underlying206
  a36 := Tryz.isAgg206
  z36 := Tryz.sizeOf206
  v36 := Tryz.zeroValue206
  t41 := Tryz.underlying165
  a41 := Tryz.isAgg165
  z41 := Tryz.sizeOf165
  v41 := Tryz.zeroValue165
  t44 := Tryz.underlying201
  a44 := Tryz.isAgg201
  z44 := Tryz.sizeOf201
  v44 := Tryz.zeroValue201
  t46 := Tryz.underlying214
  a46 := Tryz.isAgg214
  z46 := Tryz.sizeOf214
  v46 := Tryz.zeroValue214
  t53 := Tryz.underlying235
  a53 := Tryz.isAgg235
  z53 := Tryz.sizeOf235
  v53 := Tryz.zeroValue235
  t57 := Tryz.underlying239
  a57 := Tryz.isAgg239
  z57 := Tryz.sizeOf239
  v57 := Tryz.zeroValue239
  t63 := Tryz.underlying255
  a63 := Tryz.isAgg255
  z63 := Tryz.sizeOf255
  v63 := Tryz.zeroValue255
  t64 := Tryz.underlying256
  a64 := Tryz.isAgg256
  z64 := Tryz.sizeOf256
  v64 := Tryz.zeroValue256 }
theorem sorts41 (m : Nat) : AnyZ.SortsIn Tryz.prog sorted41_ren Fence.wide m :=
  ⟨fun blk off cap ss W hH hblk hsz => callsIn_wide.2 (AnyM.slices_Sort_string sort63 blk off cap ss W hH hblk hsz),
   fun p cap W => callsIn_wide.2 (AnyM.slices_Sort_string_none sort63 p cap W)⟩
end Go.Proofs.YtcajnfkkokeeeaaGreatDoor
end

section
namespace Go.Proofs.YtcajnfkkokeeeaaGreatDoor
open Go.Eng
open Go.RowKit (Below)
open Go.WideElems (Fit rd rg)
open Go.Proofs (encStr)
variable [Glob]
def readN : Value → Option (DataW Unit × List MemPlace) := fun _ => some (.nil, [])
theorem srt_ok (m : List Blk) (k kb : Nat) (s : List (Value × Nat × V) × Nat) (hg : NGood s) (hk : m[k]? = some (.box [.mp kb])) (hkb : m[kb]? = some (.map s.1 s.2)) (hl : s.1.length ≤ 1048576) :
  FnOkS Tryz.prog 41 [.clo (.func 64) [] [.ptr k 0]] m (.ms m.length 0 0 (sortedN s.1).length) (m ++ [.rows 0 1 ((sortedN s.1).map str)]) := by
 refine ⟨Tryz.call41, fun E w xs hs hx => ?_⟩
 obtain ⟨x, ys, hxs, hr, hrest⟩ := hx.of_cons
 have hys := hrest.of_nil
 subst hys
 obtain rfl : xs = #[x] := by cases xs; simp_all
 obtain ⟨g, e, c, rfl, hbk⟩ : ∃ g e c, x = .func (.func 64) #[] #[.pointer (some ⟨g, 0, none⟩)] ∧ E.blk k 0 = some (g, e, c) := by
  cases hr with
  | clo _ f first cap xs ys h1 h2 h3 h4 =>
   obtain rfl : xs = #[] := Array.eq_empty_of_size_eq_zero (by simpa using h1.symm)
   obtain ⟨y, rfl⟩ : ∃ y, ys = #[y] := by
    cases ys with
    | mk l =>
     match l, h2 with
     | [y], _ => exact ⟨y, rfl⟩
     | [], h2 => simp at h2
     | _ :: _ :: _, h2 => simp at h2
   have h5 := h4 0 (.ptr k 0) y rfl rfl
   cases h5 with
   | ptr _ _ _ g e c hb => exact ⟨g, e, c, rfl, hb⟩
 obtain ⟨g', T, bs, hb1, hh, hrl, -⟩ := hs.mem k _ hk
 rw [hbk] at hb1; cases hb1
 obtain ⟨y, zs, hy, hry, hrz⟩ := hrl.of_cons
 have hzs := hrz.of_nil
 subst hzs
 obtain ⟨gm, e2, c2, rfl, hbm⟩ := mp_inv hry
 obtain rfl : bs = #[.map (some gm)] := by cases bs; simp_all
 obtain ⟨gm', es, hb2, hh2, hrm, -⟩ := hs.mem kb _ hkb
 rw [hbm] at hb2; cases hb2
 have hu9 : Tryz.prog.underlying 9 = some .string := Tryz.underlying9
 have len : s.1.length = es.toList.length := hrm.1
 have pair : ∀ (i : Nat) (x : MapEntry), es.toList[i]? = some x → ∃ q, s.1[i]? = some q ∧ x.key = q.1 ∧ x.born = q.2.1 := fun i x hi => by
  obtain ⟨q, hq⟩ : ∃ q, s.1[i]? = some q := ⟨_, List.getElem?_eq_getElem (by rw [len]; exact (List.getElem?_eq_some_iff.1 hi).1)⟩
  obtain ⟨p1, p2, -⟩ := hrm.2 i q x hq hi
  exact ⟨q, hq, p1, p2⟩
 have hkeys : es.toList.map (·.key) = s.1.map (fun q => q.1) := by
  apply List.ext_getElem?
  intro i
  rw [List.getElem?_map, List.getElem?_map]
  cases hi : es.toList[i]? with
  | none => rw [List.getElem?_eq_none (by rw [len]; exact List.getElem?_eq_none_iff.1 hi)]; rfl
  | some x =>
   obtain ⟨q, hq, p1, -⟩ := pair i x hi
   rw [hq]; simp [p1]
 have hborn : es.toList.map (·.born) = s.1.map (fun q => q.2.1) := by
  apply List.ext_getElem?
  intro i
  rw [List.getElem?_map, List.getElem?_map]
  cases hi : es.toList[i]? with
  | none => rw [List.getElem?_eq_none (by rw [len]; exact List.getElem?_eq_none_iff.1 hi)]; rfl
  | some x =>
   obtain ⟨q, hq, -, p2⟩ := pair i x hi
   rw [hq]; simp [p2]
 have ent : ∀ x ∈ es.toList, ∃ a : ByteArray, x.key = .string a ∧ a.size ≤ 1048576 ∧ x.born < s.2 := fun x hx => by
  obtain ⟨i, hi⟩ := List.mem_iff_getElem?.1 hx
  obtain ⟨q, hq, p1, p2⟩ := pair i x hi
  obtain ⟨⟨a, ha, hs1⟩, -, hs2⟩ := hg.1 q (List.mem_of_getElem? hq)
  exact ⟨a, by rw [p1, ha], hs1, by rw [p2]; exact hs2⟩
 have hmaxv : (1048576 : Nat) ≤ maxLen := by decide
 have hrd : ∀ x ∈ es.toList, ∃ a : ByteArray, x.key = .string a ∧ rd Tryz.prog 9 readN x = some (.string a.data.toList, .nil) := fun x hx => by
  obtain ⟨a, ha, hsz, -⟩ := ent x hx
  refine ⟨a, ha, ?_⟩
  have : keyOf Tryz.prog 9 x.key = some (.string a.data.toList) := by
   unfold keyOf
   rw [hu9, ha]
   dsimp only
   unfold mapKey
   rw [hu9]
   dsimp only
   rw [if_pos (by omega)]
  unfold rd
  rw [this]; rfl
 have hF : Fit Tryz.prog 9 readN es s.2 := ⟨by rw [← Array.length_toList, ← len]; omega, ⟨fun x hx => (ent x hx).choose_spec.2.2, by rw [hborn]; exact hg.2.1, by rw [hkeys]; exact hg.2.2⟩, fun x hx => let ⟨_, _, h⟩ := hrd x hx; ⟨_, h⟩⟩
 obtain ⟨D0, hD0⟩ : ∃ D0 : DataW Unit, D0 = .map ((es.toList.map (rg Tryz.prog 9 readN)).foldr DataW.insert []) := ⟨_, rfl⟩
 have hown : w.ownsMap Tryz.prog 9 readN gm es.size D0 := ⟨es, s.2, hh2, hF, Nat.le_refl _, hD0⟩
 have hperm : (strKeys D0).Perm (s.1.map keyB) := by
  rw [hD0]
  simp only [strKeys]
  refine ((Go.WideShapes.sorted_perm _).map _).trans ?_
  rw [List.map_map]
  refine List.Perm.of_eq ?_
  apply List.ext_getElem?
  intro i
  rw [List.getElem?_map, List.getElem?_map]
  cases hi : es.toList[i]? with
  | none => rw [List.getElem?_eq_none (by rw [len]; exact List.getElem?_eq_none_iff.1 hi)]; rfl
  | some x =>
   obtain ⟨q, hq, p1, -⟩ := pair i x hi
   obtain ⟨a, ha, hr⟩ := hrd x (List.mem_of_getElem? hi)
   rw [hq]
   simp only [Option.map_some,Function.comp,rg,hr,Option.getD_some,strOf]
   unfold keyB
   rw [← p1, ha]
 have hsize : Maps.size D0 = s.1.length := by
  rw [hD0]
  simp only [Maps.size]
  rw [(Go.WideShapes.sorted_perm _).length_eq, List.length_map, len]
 have hlt : g < w.heap.size := (Array.getElem?_eq_some_iff.1 hh).1
 have hcell : w.cell? ⟨g, 0, none⟩ = some (.map (some gm)) := by simp [World.cell?, hh]
 have hseq : SeqGives Fence.wide 2 Tryz.prog 64 #[.pointer (some ⟨g, 0, none⟩)] encStr (fun ss => ss.Perm (strKeys D0)) (Maps.size D0) w :=
  AnyZ.keys_gives (ρ := keys42_ren) { keys42 with } Fence.wide _ trivial rfl (by omega) g gm es.size D0 _ hlt hcell hown
 have call := AnyZ.sorted_in sorted41 Fence.wide 5 trivial trivial trivial trivial rfl (by omega) (sorts41 _) (enters_of Tryz.func63 (by kernel_rfl) rfl) 64 #[.pointer (some ⟨g, 0, none⟩)] trivial (enters_of Tryz.func64 (by kernel_rfl) rfl) _ _ (by rw [hsize]; omega) (by rw [hsize]; omega) w hseq
 refine (callsIn_wide.1 call).mono ?_
 rintro e' w' ⟨v, ss, rfl, hS, hrow, hnil, hbel⟩
 have hsort : (ss.mergeSort (fun x y => decide (x ≤ y))).map (fun l => (⟨l.toArray⟩ : ByteArray)) = sortedN s.1 := by
  unfold sortedN
  rw [← mergeSort_of_perm (hS.trans hperm)]
 have hstr : (ss.mergeSort (fun x y => decide (x ≤ y))).map encStr = (sortedN s.1).map fun b => Value.string b := by
  rw [← hsort, List.map_map]; rfl
 have hlen : ss.length = (sortedN s.1).length := by rw [← hsort]; simp
 rw [hstr, hlen] at hrow
 rcases hrow.2 with ⟨rfl, h0⟩ | ⟨g2, cap, cur, rfl, hge, hc2, hcap, -, hcs, htk⟩
 ·have he : sortedN s.1 = [] := List.length_eq_zero_iff.1 h0
  obtain ⟨h1, h2⟩ := hs.below hbel
  refine ⟨E, _, rfl, h2, ?_, ?_⟩
  ·rw [he]
   have := h1.nilRows (key := m.length) (.inr rfl) 1
   simpa [setMem] using this
  ·rw [h0]; exact .msnil _ _ _ _
 ·have hg2 : g2 < w'.heap.size := (Array.getElem?_eq_some_iff.1 hc2).1
  have hFn : ∀ o, E.F ⟨g2, o, none⟩ = none := fun o => by
   cases hx : E.F ⟨g2, o, none⟩ with
   | none => rfl
   | some z => have := World.block_lt_of_cell? w _ (hs.F _ _ hx); simp at this; omega
  have hB : BlkOk (E.with m.length 0 (g2, 1, cap)) w' m.length (.rows 0 1 ((sortedN s.1).map str)) := by
   refine .inr ⟨g2, 9, cur, cap, if_pos ⟨rfl, rfl⟩, hc2, hcs, by rw [List.length_map]; exact hcap, fun i row hi => ?_, fun o => hFn o⟩
   rw [List.getElem?_map, Option.map_eq_some_iff] at hi
   obtain ⟨b, hb, rfl⟩ := hi
   refine ⟨rfl, fun j cc hj => ?_⟩
   match j with
   | 0 =>
    cases hj
    refine ⟨.string b, ?_, rfl, .sc _ _⟩
    have hil := (List.getElem?_eq_some_iff.1 hb).1
    have h3 : (cur.toList.take ((sortedN s.1).length * 1))[i]? = some (.string b) := by rw [htk, List.getElem?_map, hb]; rfl
    rw [List.getElem?_take_of_lt (by omega)] at h3
    simpa using h3
   | j + 1 => simp [V.cells] at hj
  obtain ⟨h1, h2⟩ := hs.adopt hbel (g := g2) (e := 1) (c := cap) hge hg2 rfl hB
  refine ⟨_, _, rfl, h2, h1, ?_⟩
  exact .ms _ _ _ _ _ g2 1 cap _ _ (if_pos ⟨rfl, rfl⟩) (fun _ => by simp) (fun _ => ⟨rfl, rfl⟩) ⟨hcap, Nat.zero_add _, fun _ => by simp⟩
end Go.Proofs.YtcajnfkkokeeeaaGreatDoor
end

section
namespace Go.Proofs.YtcajnfkkokeeeaaGreatDoor
open Go.Eng
open Nat renaming reduceAdd → zA, reduceLT → zB, reduceLeDiff → zC, reduceMul → zD, reduceEqDiff → zE, reduceSub → zF
variable [Glob]
set_option maxHeartbeats 4000000
set_option maxRecDepth 100000
theorem keys42_ok (m : List Blk) (kb : Nat) (hkb : kb < m.length) (hb : m.all (belowB (m.length + 1)) = true) : FnOkS Tryz.prog 42 [.mp kb] m (.clo (.func 64) [] [.ptr m.length 0]) (m ++ [.box [.mp kb]]) := by
 refine fns_ok tt_ok (fn := Tryz.f42) (m.length + 1) (by omega) Tryz.func42 rfl Tryz.call42 ?_
 simp only [ltb,startSt,Tryz.ntmps42,List.length_cons,List.length_nil,zA,zF,List.replicate_succ,List.replicate_zero]
 refine tri_seq_region tt_ok fun K hK => ?_
 simp only [go_sem,reduceIte,zA,zB,zC,zD,zE,zF,reduceCtorEq]
 refine hK _ ?_
 refine tri_seq_region tt_ok fun K hK => ?_
 simp only [go_sem,reduceIte,zA,zB,zC,zD,zE,zF,reduceCtorEq]
 refine hK _ ?_
 have ht : ∀ B : Blk, (m ++ [B]).take (m.length + 1) = m ++ [B] := fun B => List.take_of_length_le (by simp)
 refine tri_ret ⟨.inl rfl, rfl, by simp [belowV, belowL], ?_, ?_⟩
 ·dsimp only; rw [ht]; simp [hb, belowB, belowV]; omega
 ·dsimp only; rw [ht]
theorem keys_w (m : List Blk) (kb : Nat) (hkb : kb < m.length) (hb : m.all (belowB (m.length + 1)) = true) : ∃ r_ m_, (fun r m' => r = .clo (.func 64) [] [.ptr m.length 0] ∧ m' = m ++ [.box [.mp kb]]) r_ m_ ∧ FnOkS Tryz.prog 42 [.mp kb] m r_ m_ := ⟨_, _, ⟨rfl, rfl⟩, keys42_ok m kb hkb hb⟩
theorem srt_w (m : List Blk) (k kb : Nat) (s : List (Value × Nat × V) × Nat) (hg : NGood s) (hk : m[k]? = some (.box [.mp kb])) (hkb : m[kb]? = some (.map s.1 s.2)) (hl : s.1.length ≤ 1048576) : ∃ r_ m_, (fun r m' => r = .ms m.length 0 0 (sortedN s.1).length ∧ m' = m ++ [.rows 0 1 ((sortedN s.1).map str)]) r_ m_ ∧ FnOkS Tryz.prog 41 [.clo (.func 64) [] [.ptr k 0]] m r_ m_ := ⟨_, _, ⟨rfl, rfl⟩, srt_ok m k kb s hg hk hkb hl⟩
theorem exp_ok (I : Ify) (hb : I.types.length + I.vals.length + I.als.length ≤ 1048576) (hn : IfN I) : ∃ r_, (fun w => w = .slice ((expR I).map str)) r_ ∧ FnOk Tryz.prog 21 [encIf I] r_ := by
 refine vfn tt_ok [] 11 [.tmp 2] (fn := Tryz.f21) Tryz.func21 rfl Tryz.call21 ⟨rfl, rfl, by simp⟩ fun K hK => ?_
 simp only [encIf,ifCells]
 have hlen := expM_length I
 have hq := exp_eq hn
 have hgd := expM_good hn
 simp only [expM_b,List.length_map,go_sem,reduceIte,zA,zB,zC,zD,zE,zF,reduceCtorEq]
 refine cW (names_ok I hb) ?_
 rintro _ _ ⟨rfl, rfl⟩
 simp only [expM_b,List.length_map,go_sem,reduceIte,zA,zB,zC,zD,zE,zF,reduceCtorEq]
 refine cW (keys_w _ 1 (by simp) (by simp [belowB, belowV, expM_b, belowL])) ?_
 rintro _ _ ⟨rfl, rfl⟩
 simp only [ltb,List.length_cons,List.length_nil,zA]
 simp only [expM_b,List.length_map,go_sem,reduceIte,zA,zB,zC,zD,zE,zF,reduceCtorEq]
 refine cW (srt_w _ 3 1 (mkM strVal 0 (expM I), (expM I).length) hgd rfl rfl (by rw [mkM_length]; omega)) ?_
 rintro _ _ ⟨rfl, rfl⟩
 simp only [ltb,List.length_cons,List.length_nil,zA,hq]
 simp only [expM_b,List.length_map,go_sem,reduceIte,zA,zB,zC,zD,zE,zF,reduceCtorEq]
 rw [List.take_of_length_le (by simp)]
 exact hK _ rfl
theorem exps_ok (I : Ify) (hb : I.types.length + I.vals.length + I.als.length ≤ 1048576) (hn : IfN I) (s : ByteArray) : ∃ r_, (fun w => w = bl (inB s (expR I))) r_ ∧ FnOk Tryz.prog 22 [encIf I, str s] r_ := by
 refine vfn tt_ok [] 9 [.tmp 4] (fn := Tryz.f22) Tryz.func22 rfl Tryz.call22 ⟨rfl, rfl, by simp⟩ fun K hK => ?_
 simp only [encIf,ifCells]
 have hl : (expR I).length ≤ 1048576 := by rw [← exp_eq hn, sortedN_length, mkM_length]; have := expM_length I; omega
 simp only [go_sem,reduceIte,zA,zB,zC,zD,zE,zF,reduceCtorEq]
 refine cF (by have h := exp_ok I hb hn; simp only [encIf,ifCells] at h; exact h) ?_
 rintro _ rfl
 simp only [go_sem,reduceIte,zA,zB,zC,zD,zE,zF,reduceCtorEq]
 refine cF (scont_ok (expR I) s hl) ?_
 rintro _ rfl
 simp only [go_sem,reduceIte,zA,zB,zC,zD,zE,zF,reduceCtorEq]
 exact hK _ rfl
end Go.Proofs.YtcajnfkkokeeeaaGreatDoor
end

section
namespace Go.Proofs.YtcajnfkkokeeeaaGreatDoor
open Go.Eng
open Nat renaming reduceAdd → zA, reduceLT → zB, reduceLeDiff → zC, reduceMul → zD, reduceEqDiff → zE, reduceSub → zF
variable [Glob]
set_option maxHeartbeats 4000000
set_option maxRecDepth 100000
def teT (e : Te) (j : Nat) : List Ty := e.lower :: e.upper :: (e.params.take j).map Pm.bound
def veT (e : Ve) (j : Nat) : List Ty := e.ty :: (e.params.take j).map Pm.bound
def preT (I : Ify) (i : Nat) : List Ty := (I.types.take i).flatMap fun e => teT e e.params.length
def preV (I : Ify) (i : Nat) : List Ty := preT I I.types.length ++ (I.vals.take i).flatMap fun e => veT e e.params.length
def typesOf (I : Ify) : List Ty := preV I I.vals.length
def rT (I : Ify) (e : Te) (i j : Nat) : List Ty := preT I i ++ teT e j
def rV (I : Ify) (e : Ve) (i j : Nat) : List Ty := preV I i ++ veT e j
theorem preT_nil (I : Ify) : preT I 0 = [] := rfl
theorem preV_nil (I : Ify) : preV I 0 = preT I I.types.length := by unfold preV; simp
theorem rT_zero (I : Ify) (e : Te) (i : Nat) : rT I e i 0 = preT I i ++ [e.lower, e.upper] := rfl
theorem rV_zero (I : Ify) (e : Ve) (i : Nat) : rV I e i 0 = preV I i ++ [e.ty] := rfl
theorem rT_succ (I : Ify) {e : Te} (i : Nat) {j : Nat} {p : Pm} (h : e.params[j]? = some p) : rT I e i (j + 1) = rT I e i j ++ [p.bound] := by
 unfold rT teT; rw [List.take_add_one, h]; simp
theorem rV_succ (I : Ify) {e : Ve} (i : Nat) {j : Nat} {p : Pm} (h : e.params[j]? = some p) : rV I e i (j + 1) = rV I e i j ++ [p.bound] := by
 unfold rV veT; rw [List.take_add_one, h]; simp
theorem rT_full {I : Ify} {e : Te} {i : Nat} (h : I.types[i]? = some e) : rT I e i e.params.length = preT I (i + 1) := by
 unfold rT preT; rw [List.take_add_one, h]; simp
theorem rV_full {I : Ify} {e : Ve} {i : Nat} (h : I.vals[i]? = some e) : rV I e i e.params.length = preV I (i + 1) := by
 unfold rV preV; rw [List.take_add_one, h]; simp
theorem flat_le {α β : Type} (f : α → List β) : ∀ (l : List α) (i : Nat), ((l.take i).flatMap f).length ≤ (l.flatMap f).length
 | [], i => by simp
 | a :: l, 0 => by simp
 | a :: l, i + 1 => by have := flat_le f l i; simp only [List.take_succ_cons,List.flatMap_cons,List.length_append] at *; omega
theorem preT_le (I : Ify) (i : Nat) : (preT I i).length ≤ (preT I I.types.length).length := by
 unfold preT; rw [List.take_length]; exact flat_le _ _ _
theorem preV_le (I : Ify) (i : Nat) : (preV I i).length ≤ (typesOf I).length := by
 unfold typesOf preV; rw [List.take_length, List.length_append, List.length_append]; have := flat_le (fun e : Ve => veT e e.params.length) I.vals i; omega
theorem preT_le2 (I : Ify) (i : Nat) : (preT I i).length ≤ (typesOf I).length := by
 have := preT_le I i; have h2 := preV_le I 0; rw [preV_nil] at h2; omega
theorem rT_le {I : Ify} {e : Te} {i j : Nat} (h : I.types[i]? = some e) (hj : j ≤ e.params.length) : (rT I e i j).length ≤ (typesOf I).length := by
 have h1 := preT_le2 I (i + 1)
 rw [← rT_full h] at h1
 unfold rT teT at *
 simp only [List.length_append,List.length_cons,List.length_map,List.length_take] at *
 omega
theorem rV_le {I : Ify} {e : Ve} {i j : Nat} (h : I.vals[i]? = some e) (hj : j ≤ e.params.length) : (rV I e i j).length ≤ (typesOf I).length := by
 have h1 := preV_le I (i + 1)
 rw [← rV_full h] at h1
 unfold rV veT at *
 simp only [List.length_append,List.length_cons,List.length_map,List.length_take] at *
 omega
theorem len2 {α : Type} (l : List α) (a b : α) : (l ++ [a, b]).length = l.length + 2 := by simp
theorem len1 {α : Type} (l : List α) (a : α) : (l ++ [a]).length = l.length + 1 := by simp
theorem map2 {α β : Type} (f : α → β) (l : List α) (a b : α) : (l ++ [a, b]).map f = l.map f ++ [f a, f b] := by simp
theorem map1 {α β : Type} (f : α → β) (l : List α) (a : α) : (l ++ [a]).map f = l.map f ++ [f a] := by simp
theorem first5 (a b c d e : V) (r : List V) : firstOk (.agg [a, b, c, d, e] :: r) 0 5 = true := rfl
theorem first_tyM (ts : List Ty) (n : Nat) : firstOk (ts.map encTy) n 5 = true := by rw [← encTys_map]; exact first_ty ts n
theorem types_ok (I : Ify) (hb : I.types.length + I.vals.length ≤ 1048576) (hbt : ∀ e ∈ I.types, e.params.length ≤ 1048576) (hbv : ∀ e ∈ I.vals, e.params.length ≤ 1048576) (hn : (typesOf I).length ≤ 4194304) : ∃ r_, (fun w => w = .slice ((typesOf I).map encTy)) r_ ∧ FnOk Tryz.prog 34 [encIf I] r_ := by
 refine vfn tt_ok [] 96 [.tmp 2] (fn := Tryz.f34) Tryz.func34 rfl Tryz.call34 ⟨rfl, rfl, by simp⟩ fun K hK => ?_
 simp only [encIf,ifCells]
 simp only [List.length_map,first_tyM,first5,go_sem,reduceIte,zA,zB,zC,zD,zE,zF,reduceCtorEq]
 refine xloop tt_ok [] (fun a : Nat × Nat => [(1, .ptr 0 0), (3, .ms 1 a.2 0 (preT I a.1).length), (4, num a.1)]) (fun a : Nat × Nat => [.box [str I.path, .slice (I.types.map encTe), .slice (I.vals.map encVe), .slice (I.als.map encAl), .slice (I.deps.map encDp)], .rows a.2 5 ((preT I a.1).map encTy)]) (fun a => I.types.length - a.1) (fun a => a.1 ≤ I.types.length) ((0, 0)) 2 (lies (by omega) (by simp only [List.length_map,first_tyM,first5,preT_nil,List.map_nil,List.length_nil,Int.cast_ofNat_Int,go_sem,reduceIte,zA,zB,zC,zD,zE,zF,reduceCtorEq] <;> rfl)) (Nat.zero_le _) ?_
 intro ⟨i, v⟩ hi
 try dsimp only at hi
 try dsimp only
 intro Z1 hZ1
 simp only [List.length_map,first_tyM,first5,go_sem,reduceIte,zA,zB,zC,zD,zE,zF,reduceCtorEq]
 refine gif (fun hc13 => ?_) (fun hc13 => ?_)
 ·have hlti : i < I.types.length := by simpa using hc13
  have hwi := i64_succ i (by omega)
  obtain ⟨x, hx⟩ : ∃ x, I.types[i]? = some x := ⟨_, List.getElem?_eq_getElem hlti⟩
  have hxb := hbt x (List.mem_of_getElem? hx)
  have hle := rT_le hx (Nat.zero_le x.params.length)
  have hbl : (preT I i).length + 2 ≤ 34359738368 := by rw [rT_zero, len2] at hle; omega
  simp only [hx,encTe,hbl,tyCells,List.cons_append,List.nil_append,List.getElem?_map,encPm,List.length_map,first_tyM,first5,go_sem,reduceIte,zA,zB,zC,zD,zE,zF,reduceCtorEq]
  refine xmixL tt_ok mixed_ok [⟨.n, 0, [], [], []⟩, ⟨.n, 0, [], [], []⟩, ⟨.r, 0, [], [1], []⟩, ⟨.n, 0, [], [], []⟩, ⟨.r, 0, [], [1,2,3], []⟩, ⟨.n, 0, [], [1,2,3,4], []⟩, ⟨.r, 0, [], [1,2,3,4,5], []⟩, ⟨.n, 0, [], [], []⟩, ⟨.r, 0, [], [7], []⟩, ⟨.n, 0, [], [], []⟩, ⟨.r, 0, [], [7,8,9], []⟩, ⟨.n, 0, [], [7,8,9,10], []⟩, ⟨.r, 0, [], [7,8,9,10,11], []⟩, ⟨.n, 0, [], [1,2,3,4,5,6,7,8,9,10,11,12], []⟩, ⟨.w, 0, [], [0,1,2,3,4,5,6,7,8,9,10,11,12,13], []⟩, ⟨.n, 0, [], [0,1,2,3,4,5,6,7,8,9,10,11,12,13,14], []⟩] 1 (by kernel_rfl) ?_
  simp only [hx,encTe,hbl,tyCells,List.cons_append,List.nil_append,List.getElem?_map,encPm,List.length_map,first_tyM,first5,go_sem,reduceIte,zA,zB,zC,zD,zE,zF,reduceCtorEq]
  refine xloop tt_ok [] (fun a : Nat × Nat => [(1, .ptr 0 0), (3, .ms 1 a.2 0 (rT I x i a.1).length), (4, num i), (5, num a.1)]) (fun a : Nat × Nat => [.box [str I.path, .slice (I.types.map encTe), .slice (I.vals.map encVe), .slice (I.als.map encAl), .slice (I.deps.map encDp)], .rows a.2 5 ((rT I x i a.1).map encTy)]) (fun a => x.params.length - a.1) (fun a => a.1 ≤ x.params.length) ((0, v + 1)) 2 (lies (by omega) (by simp only [hx,encTe,hbl,tyCells,List.cons_append,List.nil_append,List.getElem?_map,encPm,List.length_map,first_tyM,first5,List.length_map,rT_zero,len2,map2,encTy_eq,tyCells,Int.cast_ofNat_Int,go_sem,reduceIte,zA,zB,zC,zD,zE,zF,reduceCtorEq] <;> rfl)) (Nat.zero_le _) ?_
  intro ⟨j, w⟩ hj
  try dsimp only at hj
  try dsimp only
  intro Z2 hZ2
  simp only [hx,encTe,hbl,tyCells,List.cons_append,List.nil_append,List.getElem?_map,encPm,List.length_map,first_tyM,first5,go_sem,reduceIte,zA,zB,zC,zD,zE,zF,reduceCtorEq]
  refine gif (fun hc39 => ?_) (fun hc39 => ?_)
  ·have hltj : j < x.params.length := by simpa using hc39
   have hwj := i64_succ j (by omega)
   obtain ⟨p, hp⟩ : ∃ p, x.params[j]? = some p := ⟨_, List.getElem?_eq_getElem hltj⟩
   have hle2 := rT_le hx hltj
   have hbl2 : (rT I x i j).length + 1 ≤ 34359738368 := by rw [rT_succ I i hp, len1] at hle2; omega
   simp only [hx,encTe,hbl,tyCells,List.cons_append,List.nil_append,List.getElem?_map,encPm,hp,hbl2,List.length_map,first_tyM,first5,go_sem,reduceIte,zA,zB,zC,zD,zE,zF,reduceCtorEq]
   refine hZ2 _ ⟨(j + 1, w + 1), ?_, ?_, lies (by omega) (by (simp only [List.length_map,hwj,rT_succ I i hp,len1,map1,encTy_eq,tyCells,go_sem,reduceIte,zA,zB,zC,zD,zE,zF,reduceCtorEq]))⟩
   ·exact hltj
   ·dsimp only; omega
  ·have hgej : j = x.params.length := by have := of_decide_eq_false hc39; omega
   rw [hgej, rT_full hx]
   simp only [hx,encTe,hbl,tyCells,List.cons_append,List.nil_append,List.getElem?_map,encPm,List.length_map,first_tyM,first5,go_sem,reduceIte,zA,zB,zC,zD,zE,zF,reduceCtorEq]
   refine hZ1 _ ⟨(i + 1, w), ?_, ?_, lies (by omega) (by (simp only [hwi,go_sem,reduceIte,zA,zB,zC,zD,zE,zF,reduceCtorEq]))⟩
   ·exact hlti
   ·dsimp only; omega
 ·have hgei : i = I.types.length := by have := of_decide_eq_false hc13; omega
  rw [hgei]
  simp only [List.length_map,first_tyM,first5,go_sem,reduceIte,zA,zB,zC,zD,zE,zF,reduceCtorEq]
  refine xloop tt_ok [] (fun a : Nat × Nat => [(1, .ptr 0 0), (3, .ms 1 a.2 0 (preV I a.1).length), (6, num a.1)]) (fun a : Nat × Nat => [.box [str I.path, .slice (I.types.map encTe), .slice (I.vals.map encVe), .slice (I.als.map encAl), .slice (I.deps.map encDp)], .rows a.2 5 ((preV I a.1).map encTy)]) (fun a => I.vals.length - a.1) (fun a => a.1 ≤ I.vals.length) ((0, v)) 2 (lies (by omega) (by simp only [List.length_map,first_tyM,first5,preV_nil,List.length_map,Int.cast_ofNat_Int,go_sem,reduceIte,zA,zB,zC,zD,zE,zF,reduceCtorEq] <;> rfl)) (Nat.zero_le _) ?_
  intro ⟨k, u⟩ hk
  try dsimp only at hk
  try dsimp only
  intro Z3 hZ3
  simp only [List.length_map,first_tyM,first5,go_sem,reduceIte,zA,zB,zC,zD,zE,zF,reduceCtorEq]
  refine gif (fun hc59 => ?_) (fun hc59 => ?_)
  ·have hltk : k < I.vals.length := by simpa using hc59
   have hwk := i64_succ k (by omega)
   obtain ⟨y, hy⟩ : ∃ y, I.vals[k]? = some y := ⟨_, List.getElem?_eq_getElem hltk⟩
   have hyb := hbv y (List.mem_of_getElem? hy)
   have hle3 := rV_le hy (Nat.zero_le y.params.length)
   have hbl3 : (preV I k).length + 1 ≤ 34359738368 := by rw [rV_zero, len1] at hle3; omega
   simp only [hy,encVe,hbl3,tyCells,List.cons_append,List.nil_append,List.getElem?_map,encPm,List.length_map,first_tyM,first5,go_sem,reduceIte,zA,zB,zC,zD,zE,zF,reduceCtorEq]
   refine xloop tt_ok [] (fun a : Nat × Nat => [(1, .ptr 0 0), (3, .ms 1 a.2 0 (rV I y k a.1).length), (6, num k), (7, num a.1)]) (fun a : Nat × Nat => [.box [str I.path, .slice (I.types.map encTe), .slice (I.vals.map encVe), .slice (I.als.map encAl), .slice (I.deps.map encDp)], .rows a.2 5 ((rV I y k a.1).map encTy)]) (fun a => y.params.length - a.1) (fun a => a.1 ≤ y.params.length) ((0, u + 1)) 2 (lies (by omega) (by simp only [hy,encVe,hbl3,tyCells,List.cons_append,List.nil_append,List.getElem?_map,encPm,List.length_map,first_tyM,first5,List.length_map,rV_zero,len1,map1,encTy_eq,tyCells,Int.cast_ofNat_Int,go_sem,reduceIte,zA,zB,zC,zD,zE,zF,reduceCtorEq] <;> rfl)) (Nat.zero_le _) ?_
   intro ⟨l, z⟩ hl
   try dsimp only at hl
   try dsimp only
   intro Z4 hZ4
   simp only [hy,encVe,hbl3,tyCells,List.cons_append,List.nil_append,List.getElem?_map,encPm,List.length_map,first_tyM,first5,go_sem,reduceIte,zA,zB,zC,zD,zE,zF,reduceCtorEq]
   refine gif (fun hc79 => ?_) (fun hc79 => ?_)
   ·have hltl : l < y.params.length := by simpa using hc79
    have hwl := i64_succ l (by omega)
    obtain ⟨p2, hp2⟩ : ∃ p2, y.params[l]? = some p2 := ⟨_, List.getElem?_eq_getElem hltl⟩
    have hle4 := rV_le hy hltl
    have hbl4 : (rV I y k l).length + 1 ≤ 34359738368 := by rw [rV_succ I k hp2, len1] at hle4; omega
    simp only [hy,encVe,hbl3,tyCells,List.cons_append,List.nil_append,List.getElem?_map,encPm,hp2,hbl4,List.length_map,first_tyM,first5,go_sem,reduceIte,zA,zB,zC,zD,zE,zF,reduceCtorEq]
    refine hZ4 _ ⟨(l + 1, z + 1), ?_, ?_, lies (by omega) (by (simp only [List.length_map,hwl,rV_succ I k hp2,len1,map1,encTy_eq,tyCells,go_sem,reduceIte,zA,zB,zC,zD,zE,zF,reduceCtorEq]))⟩
    ·exact hltl
    ·dsimp only; omega
   ·have hgel : l = y.params.length := by have := of_decide_eq_false hc79; omega
    rw [hgel, rV_full hy]
    simp only [hy,encVe,hbl3,tyCells,List.cons_append,List.nil_append,List.getElem?_map,encPm,List.length_map,first_tyM,first5,go_sem,reduceIte,zA,zB,zC,zD,zE,zF,reduceCtorEq]
    refine hZ3 _ ⟨(k + 1, z), ?_, ?_, lies (by omega) (by (simp only [hwk,go_sem,reduceIte,zA,zB,zC,zD,zE,zF,reduceCtorEq]))⟩
    ·exact hltk
    ·dsimp only; omega
  ·have hgek : k = I.vals.length := by have := of_decide_eq_false hc59; omega
   have hT : preV I k = typesOf I := by rw [hgek]; rfl
   rw [hT]
   simp only [List.length_map,first_tyM,first5,go_sem,reduceIte,zA,zB,zC,zD,zE,zF,reduceCtorEq]
   try rw [List.take_of_length_le (by simp)]
   exact hK _ rfl
theorem size_ok (l : List Ify) (hl : l.length ≤ 1048576) (hb : ∀ I ∈ l, I.types.length + I.vals.length ≤ 1048576 ∧ (∀ e ∈ I.types, e.params.length ≤ 1048576) ∧ (∀ e ∈ I.vals, e.params.length ≤ 1048576) ∧ (typesOf I).length ≤ 4194304 ∧ ∀ t ∈ typesOf I, t.size ≤ 1048576) : ∃ r_, (fun w => ∃ n : Int, w = num n) r_ ∧ FnOk Tryz.prog 19 [.slice (l.map encIf)] r_ := by
 refine vfn tt_ok [] 49 [.tmp 2] (fn := Tryz.f19) Tryz.func19 rfl Tryz.call19 ⟨rfl, rfl, by simp⟩ fun K hK => ?_
 simp only [List.length_map,go_sem,reduceIte,zA,zB,zC,zD,zE,zF,reduceCtorEq]
 refine xloopL tt_ok [] [4,3] 0 [0,2] (fun vs => ((l.length : Int) - Go.Eng.intOf (vs.headD .undef)).toNat) (fun vs => ∃ (i : Nat) (n : Int), vs = [num i, num n] ∧ i ≤ l.length) (by omega) (by simp only [List.length_map,go_sem,reduceIte,zA,zB,zC,zD,zE,zF,reduceCtorEq]) (⟨0, _, rfl, Nat.zero_le _⟩) fun vs hI Z1 hZ1 => ?_
 obtain ⟨i, n, rfl, hi⟩ := hI
 simp only [List.length_map,go_sem,reduceIte,zA,zB,zC,zD,zE,zF,reduceCtorEq]
 refine gif (fun hc12 => ?_) (fun hc12 => ?_)
 ·have hlti : i < l.length := by simpa using hc12
  have hwi := i64_succ i (by omega)
  obtain ⟨x, hx⟩ : ∃ x, l[i]? = some x := ⟨_, List.getElem?_eq_getElem hlti⟩
  have hxb := hb x (List.mem_of_getElem? hx)
  simp only [hwi,hx,encIf,ifCells,List.getElem?_map,List.length_map,go_sem,reduceIte,zA,zB,zC,zD,zE,zF,reduceCtorEq]
  refine cF (by have h := types_ok x hxb.1 hxb.2.1 hxb.2.2.1 hxb.2.2.2.1; simp only [encIf,ifCells] at h; exact h) ?_
  rintro _ rfl
  simp only [hwi,hx,encIf,ifCells,List.getElem?_map,List.length_map,go_sem,reduceIte,zA,zB,zC,zD,zE,zF,reduceCtorEq]
  refine xloopL tt_ok [] [6,3] 0 [0,2,4,5,9,10,11,12,15,16,17,18,19] (fun vs => (((typesOf x).length : Int) - Go.Eng.intOf (vs.headD .undef)).toNat) (fun vs => ∃ (j : Nat) (n : Int), vs = [num j, num n] ∧ j ≤ (typesOf x).length) (by omega) (by simp only [hwi,hx,encIf,ifCells,List.getElem?_map,List.length_map,go_sem,reduceIte,zA,zB,zC,zD,zE,zF,reduceCtorEq]) (⟨0, _, rfl, Nat.zero_le _⟩) fun vs hI Z2 hZ2 => ?_
  obtain ⟨j, n2, rfl, hj⟩ := hI
  simp only [hwi,hx,encIf,ifCells,List.getElem?_map,List.length_map,go_sem,reduceIte,zA,zB,zC,zD,zE,zF,reduceCtorEq]
  refine gif (fun hc23 => ?_) (fun hc23 => ?_)
  ·have hltj : j < (typesOf x).length := by simpa using hc23
   have hwj := i64_succ j (by omega)
   obtain ⟨t, ht⟩ : ∃ t, (typesOf x)[j]? = some t := ⟨_, List.getElem?_eq_getElem hltj⟩
   simp only [hwi,hx,encIf,ifCells,List.getElem?_map,hwj,ht,encTy_eq,tyCells,List.length_map,go_sem,reduceIte,zA,zB,zC,zD,zE,zF,reduceCtorEq]
   refine cF (by have h := tsize_ok 1048576 t (hxb.2.2.2.2 t (List.mem_of_getElem? ht)) (Nat.le_refl _); simp only [encTy_eq,tyCells] at h; exact h) ?_
   rintro _ rfl
   simp only [hwi,hx,encIf,ifCells,List.getElem?_map,hwj,ht,encTy_eq,tyCells,List.length_map,go_sem,reduceIte,zA,zB,zC,zD,zE,zF,reduceCtorEq]
   refine hZ2 _ (endK (by omega) (by simp only [hwi,hx,encIf,ifCells,List.getElem?_map,hwj,ht,encTy_eq,tyCells,List.length_map,go_sem,reduceIte,zA,zB,zC,zD,zE,zF,reduceCtorEq]) ?_ ?_) <;> simp only [lks,lk,reduceIte,zE]
   ·exact ⟨j + 1, _, rfl, hltj⟩
   ·simp only [Go.Eng.intOf,List.headD_cons]; omega
  ·have hgej : j = (typesOf x).length := by have := of_decide_eq_false hc23; omega
   simp only [hwi,hx,encIf,ifCells,List.getElem?_map,List.length_map,go_sem,reduceIte,zA,zB,zC,zD,zE,zF,reduceCtorEq]
   refine xmixL tt_ok mixed_ok [⟨.n, 0, [], [], []⟩, ⟨.n, 0, [], [], []⟩, ⟨.n, 0, [], [], []⟩, ⟨.r, 0, [], [], []⟩, ⟨.n, 0, [], [], []⟩, ⟨.r, 0, [], [], []⟩, ⟨.n, 0, [], [], []⟩, ⟨.n, 0, [], [], []⟩, ⟨.n, 0, [], [], []⟩, ⟨.n, 0, [], [], []⟩, ⟨.r, 0, [], [], []⟩, ⟨.n, 0, [], [], []⟩, ⟨.r, 0, [], [], []⟩, ⟨.n, 0, [], [], []⟩, ⟨.n, 0, [], [], []⟩, ⟨.n, 0, [], [], []⟩] 0 (by kernel_rfl) ?_
   simp only [hwi,hx,encIf,ifCells,List.getElem?_map,List.length_map,go_sem,reduceIte,zA,zB,zC,zD,zE,zF,reduceCtorEq]
   refine hZ1 _ (endK (by omega) (by simp only [hwi,hx,encIf,ifCells,List.getElem?_map,List.length_map,go_sem,reduceIte,zA,zB,zC,zD,zE,zF,reduceCtorEq]) ?_ ?_) <;> simp only [lks,lk,reduceIte,zE]
   ·exact ⟨i + 1, _, rfl, hlti⟩
   ·simp only [Go.Eng.intOf,List.headD_cons]; omega
 ·have hgei : i = l.length := by have := of_decide_eq_false hc12; omega
  simp only [List.length_map,go_sem,reduceIte,zA,zB,zC,zD,zE,zF,reduceCtorEq]
  exact hK _ ⟨_, rfl⟩
end Go.Proofs.YtcajnfkkokeeeaaGreatDoor
end

section
namespace Go.Proofs.YtcajnfkkokeeeaaGreatDoor
open Go.Eng
variable [Glob]
theorem vios_snoc {l : List Pb} {a nx : Pb} (h : l[l.length - 1]? = some a) : vios (l ++ [nx]) = vios l ++ violL a nx := by
 have hl := (List.getElem?_eq_some_iff.1 h).1
 rw [vios_split (l ++ [nx]) (l.length - 1) (by rw [List.length_append]; omega)]
 have h1 : (l ++ [nx]).take (l.length - 1 + 1) = l := by rw [show l.length - 1 + 1 = l.length by omega, List.take_left']; rfl
 have h2 : (l ++ [nx]).drop (l.length - 1) = [a, nx] := by
  rw [List.drop_append_of_le_length (by omega), List.drop_eq_getElem_cons hl, (List.getElem?_eq_some_iff.1 h).2, List.drop_eq_nil_of_le (by omega)]; rfl
 rw [h1, h2, vios, vios_one, List.append_nil]
def keptT (N : List ByteArray) (lv : Nat → Bool) : Nat → List ByteArray
 | 0 => []
 | k + 1 => keptT N lv k ++ (if lv k = true then [] else N[k]?.toList)
theorem keptT_mem {N : List ByteArray} {lv : Nat → Bool} {x : ByteArray} : ∀ {k : Nat}, x ∈ keptT N lv k ↔ ∃ j, j < k ∧ lv j = false ∧ N[j]? = some x
 | 0 => ⟨fun h => (by cases h), fun ⟨j, h, _⟩ => absurd h (Nat.not_lt_zero j)⟩
 | k + 1 => by
  rw [keptT, List.mem_append, keptT_mem (k := k)]
  constructor
  ·rintro (⟨j, h1, h2, h3⟩ | h)
   ·exact ⟨j, by omega, h2, h3⟩
   ·by_cases hk : lv k = true
    ·rw [if_pos hk] at h; cases h
    ·rw [if_neg hk] at h
     exact ⟨k, by omega, by simpa using hk, by simpa using h⟩
  ·rintro ⟨j, h1, h2, h3⟩
   by_cases hj : j = k
   ·subst hj; right; rw [if_neg (by simp [h2]), h3]; simp
   ·exact .inl ⟨j, by omega, h2, h3⟩
theorem asc_inj {N : List ByteArray} (h : Asc ltB N) {i j : Nat} {x : ByteArray} (hi : N[i]? = some x) (hj : N[j]? = some x) : i = j := by
 have key : ∀ {i j : Nat}, i < j → N[i]? = some x → N[j]? = some x → False := fun {i j} hij hi hj => by
  obtain ⟨h1, e1⟩ := List.getElem?_eq_some_iff.1 hi
  obtain ⟨h2, e2⟩ := List.getElem?_eq_some_iff.1 hj
  have := List.pairwise_iff_getElem.1 h i j h1 h2 hij
  rw [e1, e2, lin_str.irrefl] at this
  cases this
 rcases Nat.lt_trichotomy i j with h1 | h1 | h1
 ·exact (key h1 hi hj).elim
 ·exact h1
 ·exact (key h1 hj hi).elim
theorem expR_asc (I : Ify) : Asc ltB (expR I) := insAll_asc lin_str (insAll_asc lin_str (insAll_asc lin_str List.Pairwise.nil))
theorem expR_vals {I : Ify} (h1 : I.types = []) (h2 : I.als = []) {x : ByteArray} : x ∈ expR I ↔ x ∈ I.vals.map Ve.name := by
 unfold expR expV expT
 rw [h1, h2, insAll_mem, insAll_mem, insAll_mem]
 simp
theorem rem_law {a nx : Pb} {lv : Nat → Bool} (h1 : nx.ifc.types = []) (h2 : nx.ifc.als = []) (h3 : nx.ifc.vals.map Ve.name = keptT (expR a.ifc) lv (expR a.ifc).length) (hm : a.ver.mj ≠ nx.ver.mj) :
  violL a nx = [] ↔ ∀ (i : Nat) (n : ByteArray), (expR a.ifc)[i]? = some n → lv i = true → depr a.ifc n = true := by
 unfold violL
 rw [List.map_eq_nil_iff, List.filter_eq_nil_iff]
 have kept : ∀ (i : Nat) (n : ByteArray), (expR a.ifc)[i]? = some n → (inB n (expR nx.ifc) = true ↔ lv i = false) := fun i n hi => by
  rw [inB_iff, expR_vals h1 h2, h3, keptT_mem]
  constructor
  ·rintro ⟨j, -, hj, hn⟩
   rw [asc_inj (expR_asc a.ifc) hi hn]; exact hj
  ·intro h
   exact ⟨i, (List.getElem?_eq_some_iff.1 hi).1, h, hi⟩
 constructor
 ·intro h i n hi hl
  have h4 := h n (List.mem_of_getElem? hi)
  unfold lostB at h4
  have h5 : inB n (expR nx.ifc) = false := by
   cases e : inB n (expR nx.ifc) with
   | false => rfl
   | true => rw [(kept i n hi).1 e] at hl; cases hl
  rw [h5, decide_eq_false hm] at h4
  simpa using h4
 ·intro h n hn
  obtain ⟨i, hi⟩ := List.mem_iff_getElem?.1 hn
  unfold lostB
  cases hl : lv i with
  | false => rw [(kept i n hi).2 hl]; simp
  | true => rw [decide_eq_false hm, h i n hi hl]; simp
end Go.Proofs.YtcajnfkkokeeeaaGreatDoor
end

section
namespace Go.Proofs.YtcajnfkkokeeeaaGreatDoor
open Go.Eng
open Nat renaming reduceAdd → zA, reduceLT → zB, reduceLeDiff → zC, reduceMul → zD, reduceEqDiff → zE, reduceSub → zF
variable [Glob]
set_option maxHeartbeats 4000000
set_option maxRecDepth 100000
structure PbN (p : Pb) : Prop where
 b : PbB p
 n : IfN p.ifc
 all : p.ifc.types.length + p.ifc.vals.length + p.ifc.als.length ≤ 1048576
 tps : ∀ e ∈ p.ifc.types, e.params.length ≤ 1048576
 vps : ∀ e ∈ p.ifc.vals, e.params.length ≤ 1048576
 tys : (typesOf p.ifc).length ≤ 4194304
 sz : ∀ t ∈ typesOf p.ifc, t.size ≤ 1048576
def expL (p : Pb) : Nat := (expR p.ifc).length
theorem violL_le (a b : Pb) : (violL a b).length ≤ expL a := by
 unfold violL expL; rw [List.length_map]; exact List.length_filter_le _ _
theorem vios_le : ∀ l : List Pb, (vios l).length ≤ sumBy expL l
 | [] => Nat.zero_le _
 | [a] => by rw [vios_one]; exact Nat.zero_le _
 | a :: b :: l => by
  have h1 := vios_le (b :: l)
  have h2 := violL_le a b
  rw [vios, List.length_append, sumBy]; omega
def partV (l : List Pb) (i : Nat) (a b : Pb) (k : Nat) : List Vio := vios (l.take i) ++ (((expR a.ifc).take k).filter (lostB a b)).map fun n => ⟨b.ver, n⟩
theorem partV_zero (l : List Pb) (i : Nat) (a b : Pb) : partV l i a b 0 = vios (l.take i) := by simp [partV]
theorem partV_yes {l : List Pb} {i k : Nat} {a b : Pb} {s : ByteArray} (h : (expR a.ifc)[k]? = some s) (hl : lostB a b s = true) : partV l i a b (k + 1) = partV l i a b k ++ [⟨b.ver, s⟩] := by
 unfold partV; rw [List.take_add_one, h]; simp [hl]
theorem partV_no {l : List Pb} {i k : Nat} {a b : Pb} {s : ByteArray} (h : (expR a.ifc)[k]? = some s) (hl : lostB a b s = false) : partV l i a b (k + 1) = partV l i a b k := by
 unfold partV; rw [List.take_add_one, h]; simp [hl]
theorem partV_full {l : List Pb} {i : Nat} {a b : Pb} (hi : 0 < i) (ha : l[i - 1]? = some a) (hb : l[i]? = some b) : partV l i a b (expR a.ifc).length = vios (l.take (i + 1)) := by
 have hlt := (List.getElem?_eq_some_iff.1 hb).1
 have h1 : (l.take i)[(l.take i).length - 1]? = some a := by
  rw [List.length_take, Nat.min_eq_left (by omega), List.getElem?_take_of_lt (by omega)]; exact ha
 unfold partV
 rw [List.take_length, List.take_add_one, hb]
 show _ = vios (l.take i ++ [b])
 rw [vios_snoc h1]; rfl
theorem partV_le {l : List Pb} {i k : Nat} {a b : Pb} (ha : l[i - 1]? = some a) (hN : sumBy expL l ≤ 1048576) : (partV l i a b k).length ≤ 2097152 := by
 have h1 := vios_le (l.take i)
 have h2 := sumBy_take_le expL l i
 have h3 := sumBy_mem expL ha
 have h4 := List.length_filter_le (lostB a b) ((expR a.ifc).take k)
 have h5 := List.length_take_le k (expR a.ifc)
 unfold partV
 rw [List.length_append, List.length_map]
 unfold expL at h3
 have h6 : ((expR a.ifc).take k).length ≤ (expR a.ifc).length := by rw [List.length_take]; omega
 unfold expL at *
 omega
def chkV (l : List Pb) : V := if hisOk l = true then .tup [.slice ((vios l).map encVio), num 0] else .tup [.slice [], num 1]
theorem chk_no {l : List Pb} (h : hisOk l = false) : chkV l = .tup [.slice [], num 1] := by unfold chkV; rw [if_neg (by simp [h])]
theorem chk_yes {l : List Pb} (h : hisOk l = true) : chkV l = .tup [.slice ((vios l).map encVio), num 0] := by unfold chkV; rw [if_pos h]
theorem first4 (a b c d : V) (r : List V) : firstOk (.agg [a, b, c, d] :: r) 0 4 = true := rfl
theorem first_vio (l : List Vio) (n : Nat) : firstOk (l.map encVio) n 4 = true := by
 unfold firstOk; split
 ·rename_i h; simp at h; obtain ⟨t, -, rfl⟩ := h; rfl
 ·rfl
theorem mapv (l : List Vio) (a : Vio) : (l ++ [a]).map encVio = l.map encVio ++ [encVio a] := by simp
theorem hwm1 {i : Nat} (h : 0 < i) (h2 : i ≤ 1152921504606846976) : IntKind.i64.wrap ((i : Int) - 1) = ((i - 1 : Nat) : Int) := i64_c _ _ (by omega) (by omega)
theorem vios1 (l : List Pb) : vios (l.take 1) = [] := by
 cases l with
 | nil => rfl
 | cons a l => rw [List.take_succ_cons, List.take_zero, vios_one]
theorem few_ok (l : List Pb) (hl : l.length ≤ 1048576) (hb : ∀ p ∈ l, PbN p) : ∃ r_, isB r_ ∧ FnOk Tryz.prog 6 [.slice (l.map encPb)] r_ := by
 refine vfn tt_ok [] 26 [.tmp 2] (fn := Tryz.f6) Tryz.func6 rfl Tryz.call6 ⟨rfl, rfl, by simp⟩ fun K hK => ?_
 simp only [List.length_map,go_sem,reduceIte,zA,zB,zC,zD,zE,zF,reduceCtorEq]
 refine xloopL tt_ok [] [8,3] 0 [0,2,6,7] (fun vs => ((l.length : Int) - Go.Eng.intOf (vs.headD .undef)).toNat) (fun vs => ∃ (i : Nat) (n : Int), vs = [num i, num n] ∧ i ≤ l.length) (by omega) (by simp only [List.length_map,go_sem,reduceIte,zA,zB,zC,zD,zE,zF,reduceCtorEq]) (⟨0, _, rfl, Nat.zero_le _⟩) fun vs hI Z1 hZ1 => ?_
 obtain ⟨i, n, rfl, hi⟩ := hI
 simp only [List.length_map,go_sem,reduceIte,zA,zB,zC,zD,zE,zF,reduceCtorEq]
 refine gif (fun hc9 => ?_) (fun hc9 => ?_)
 ·have hlti : i < l.length := by simpa using hc9
  have hwi := i64_succ i (by omega)
  obtain ⟨x, hx⟩ : ∃ x, l[i]? = some x := ⟨_, List.getElem?_eq_getElem hlti⟩
  have hxb := hb x (List.mem_of_getElem? hx)
  simp only [hwi,hx,encPb,pbCells,List.getElem?_map,List.length_map,go_sem,reduceIte,zA,zB,zC,zD,zE,zF,reduceCtorEq]
  refine cF (by have h := size_ok [x.ifc] (by simp) (fun I hI => by rw [List.mem_singleton] at hI; subst hI; exact ⟨by have := hxb.all; omega, hxb.tps, hxb.vps, hxb.tys, hxb.sz⟩); simp only [List.map_cons,List.map_nil,encIf,ifCells] at h; exact h) ?_
  rintro _ ⟨m, rfl⟩
  simp only [hwi,hx,encPb,pbCells,List.getElem?_map,List.length_map,go_sem,reduceIte,zA,zB,zC,zD,zE,zF,reduceCtorEq]
  refine hZ1 _ (endK (by omega) (by simp only [hwi,hx,encPb,pbCells,List.getElem?_map,List.length_map,go_sem,reduceIte,zA,zB,zC,zD,zE,zF,reduceCtorEq]) ?_ ?_) <;> simp only [lks,lk,reduceIte,zE]
  ·exact ⟨i + 1, _, rfl, hlti⟩
  ·simp only [Go.Eng.intOf,List.headD_cons]; omega
 ·have hgei : i = l.length := by have := of_decide_eq_false hc9; omega
  simp only [List.length_map,go_sem,reduceIte,zA,zB,zC,zD,zE,zF,reduceCtorEq]
  refine gif (fun hb7_3 => ?_) (fun hb7_3 => ?_)
  ·simp only [List.length_map,go_sem,reduceIte,zA,zB,zC,zD,zE,zF,reduceCtorEq]
   exact hK _ ⟨_, rfl⟩
  ·simp only [List.length_map,go_sem,reduceIte,zA,zB,zC,zD,zE,zF,reduceCtorEq]
   exact hK _ ⟨_, rfl⟩
theorem chk_ok (hG : Glob.g = some 0) (l : List Pb) (hl : l.length ≤ 1048576) (hb : ∀ p ∈ l, PbN p) (hN : sumBy expL l ≤ 1048576) : ∃ r_, (fun w => w = chkV l) r_ ∧ FnOk Tryz.prog 7 [.slice (l.map encPb)] r_ := by
 refine vfn tt_ok [] 66 [.tmp 2, .tmp 3] (fn := Tryz.f7) Tryz.func7 rfl Tryz.call7 ⟨rfl, rfl, by simp⟩ fun K hK => ?_
 simp only [List.length_map,first_vio,first4,go_sem,reduceIte,zA,zB,zC,zD,zE,zF,reduceCtorEq]
 refine cF (his_ok hG l hl (fun p hp => (hb p hp).b)) ?_
 rintro _ rfl
 simp only [List.length_map,first_vio,first4,go_sem,reduceIte,zA,zB,zC,zD,zE,zF,reduceCtorEq]
 refine gif (fun hc12 => ?_) (fun hc12 => ?_)
 ·have hno : hisOk l = false := by simpa using hc12
  have hres := chk_no hno
  simp only [List.length_map,first_vio,first4,go_sem,reduceIte,zA,zB,zC,zD,zE,zF,reduceCtorEq]
  try rw [List.take_of_length_le (by simp)]
  exact hK _ (by rw [hres])
 ·simp only [List.length_map,first_vio,first4,go_sem,reduceIte,zA,zB,zC,zD,zE,zF,reduceCtorEq]
  have hok : hisOk l = true := by simpa using hc12
  refine xnil 4 0 4 (by decide) rfl ?_
  refine xloop tt_ok [] (fun a : Nat × Nat => [(0, .slice (l.map encPb)), (4, .ms 0 a.2 0 (vios (l.take a.1)).length), (5, num a.1)]) (fun a : Nat × Nat => [.rows a.2 4 ((vios (l.take a.1)).map encVio)]) (fun a => l.length - a.1) (fun a => 0 < a.1) ((1, 0)) 1 (lies (by omega) (by simp only [List.length_map,first_vio,first4,vios1,List.map_nil,List.length_nil,Int.cast_ofNat_Int,go_sem,reduceIte,zA,zB,zC,zD,zE,zF,reduceCtorEq] <;> rfl)) (Nat.one_pos) ?_
  intro ⟨i, v⟩ hi
  try dsimp only at hi
  try dsimp only
  intro Z1 hZ1
  simp only [List.length_map,first_vio,first4,go_sem,reduceIte,zA,zB,zC,zD,zE,zF,reduceCtorEq]
  refine gif (fun hc16 => ?_) (fun hc16 => ?_)
  ·have hlti : i < l.length := by simpa using hc16
   have hwi := i64_succ i (by omega)
   have hwm := hwm1 hi (by omega)
   obtain ⟨y, hy⟩ : ∃ y, l[i]? = some y := ⟨_, List.getElem?_eq_getElem hlti⟩
   obtain ⟨x, hx⟩ : ∃ x, l[i - 1]? = some x := ⟨_, List.getElem?_eq_getElem (by omega)⟩
   have hxb := hb x (List.mem_of_getElem? hx)
   have hyb := hb y (List.mem_of_getElem? hy)
   have hxl : (expR x.ifc).length ≤ 1048576 := by have h := sumBy_mem expL hx; unfold expL at h hN; omega
   simp only [hwm,hx,hy,encPb,pbCells,List.getElem?_map,List.length_map,first_vio,first4,go_sem,reduceIte,zA,zB,zC,zD,zE,zF,reduceCtorEq]
   refine xmixL tt_ok mixed_ok [⟨.n, 0, [], [], []⟩, ⟨.n, 0, [], [], []⟩, ⟨.n, 0, [], [], []⟩, ⟨.r, 0, [0,1], [], []⟩, ⟨.r, 0, [0,1], [], []⟩, ⟨.n, 0, [], [], []⟩, ⟨.n, 0, [], [], []⟩, ⟨.r, 0, [0,1], [], []⟩, ⟨.r, 0, [0,1], [], []⟩, ⟨.a, 0, [], [], []⟩, ⟨.a, 1, [], [], []⟩, ⟨.s, 0, [], [], []⟩, ⟨.s, 1, [], [], []⟩] 2 (by kernel_rfl) ?_
   simp only [hwm,hx,hy,encPb,pbCells,List.getElem?_map,List.length_map,first_vio,first4,go_sem,reduceIte,zA,zB,zC,zD,zE,zF,reduceCtorEq]
   refine cF (by have h := exp_ok x.ifc hxb.all hxb.n; simp only [encIf,ifCells] at h; exact h) ?_
   rintro _ rfl
   simp only [hwm,hx,hy,encPb,pbCells,List.getElem?_map,List.length_map,first_vio,first4,go_sem,reduceIte,zA,zB,zC,zD,zE,zF,reduceCtorEq]
   refine xloop tt_ok [] (fun a : Nat × Nat => [(0, .slice (l.map encPb)), (4, .ms 0 a.2 0 (partV l i x y a.1).length), (5, num i), (6, .ptr 1 0), (7, .ptr 2 0), (30, .slice ((expR x.ifc).map str)), (31, num (expR x.ifc).length), (32, num a.1)]) (fun a : Nat × Nat => [.rows a.2 4 ((partV l i x y a.1).map encVio), .box [num x.ver.mj, num x.ver.mn, num x.ver.pt, str x.ifc.path, .slice (x.ifc.types.map encTe), .slice (x.ifc.vals.map encVe), .slice (x.ifc.als.map encAl), .slice (x.ifc.deps.map encDp)], .box [num y.ver.mj, num y.ver.mn, num y.ver.pt, str y.ifc.path, .slice (y.ifc.types.map encTe), .slice (y.ifc.vals.map encVe), .slice (y.ifc.als.map encAl), .slice (y.ifc.deps.map encDp)]]) (fun a => (expR x.ifc).length - a.1) (fun a => a.1 ≤ (expR x.ifc).length) ((0, v)) 3 (lies (by omega) (by simp only [hwm,hx,hy,encPb,pbCells,List.getElem?_map,List.length_map,first_vio,first4,partV_zero,List.length_map,Int.cast_ofNat_Int,go_sem,reduceIte,zA,zB,zC,zD,zE,zF,reduceCtorEq] <;> rfl)) (Nat.zero_le _) ?_
   intro ⟨k, w⟩ hk
   try dsimp only at hk
   try dsimp only
   intro Z2 hZ2
   simp only [hwm,hx,hy,encPb,pbCells,List.getElem?_map,List.length_map,first_vio,first4,go_sem,reduceIte,zA,zB,zC,zD,zE,zF,reduceCtorEq]
   refine gif (fun hc33 => ?_) (fun hc33 => ?_)
   ·have hltk : k < (expR x.ifc).length := by simpa using hc33
    have hwk := i64_succ k (by omega)
    obtain ⟨s, hs⟩ : ∃ s, (expR x.ifc)[k]? = some s := ⟨_, List.getElem?_eq_getElem hltk⟩
    rcases Bool.eq_false_or_eq_true (lostB x y s) with hls | hls
    ·simp only [hwm,hx,hy,encPb,pbCells,List.getElem?_map,hs,List.length_map,first_vio,first4,go_sem,reduceIte,zA,zB,zC,zD,zE,zF,reduceCtorEq]
     refine cF (by have h := exps_ok y.ifc hyb.all hyb.n s; simp only [encIf,ifCells] at h; exact h) ?_
     rintro _ rfl
     simp only [hwm,hx,hy,encPb,pbCells,List.getElem?_map,hs,List.length_map,first_vio,first4,go_sem,reduceIte,zA,zB,zC,zD,zE,zF,reduceCtorEq]
     refine gif (fun hb11_5 => ?_) (fun hb11_5 => ?_)
     ·simp only [hwm,hx,hy,encPb,pbCells,List.getElem?_map,hs,List.length_map,first_vio,first4,go_sem,reduceIte,zA,zB,zC,zD,zE,zF,reduceCtorEq]
      refine gif (fun hb11_13 => ?_) (fun hb11_13 => ?_)
      ·have hple : (partV l i x y k).length + 1 ≤ 34359738368 := by have := partV_le (i := i) (k := k) (b := y) hx hN; omega
       simp only [hwm,hx,hy,encPb,pbCells,List.getElem?_map,hs,hple,List.length_map,first_vio,first4,go_sem,reduceIte,zA,zB,zC,zD,zE,zF,reduceCtorEq]
       refine hZ2 _ ⟨(k + 1, w + 1), ?_, ?_, lies (by omega) (by (simp only [List.length_map,hwk,partV_yes hs hls,len1,mapv,encVio,go_sem,reduceIte,zA,zB,zC,zD,zE,zF,reduceCtorEq]))⟩
       ·exact hltk
       ·dsimp only; omega
      ·simp only [hwm,hx,hy,encPb,pbCells,List.getElem?_map,hs,List.length_map,first_vio,first4,go_sem,reduceIte,zA,zB,zC,zD,zE,zF,reduceCtorEq]
       refine cF (by have h := depr_ok x.ifc s (by have := hxb.b.2.2.2.2; omega); simp only [encIf,ifCells] at h; exact h) ?_
       rintro _ rfl
       simp only [hwm,hx,hy,encPb,pbCells,List.getElem?_map,hs,List.length_map,first_vio,first4,go_sem,reduceIte,zA,zB,zC,zD,zE,zF,reduceCtorEq]
       refine gif (fun hc56 => ?_) (fun hc56 => ?_)
       ·have hple : (partV l i x y k).length + 1 ≤ 34359738368 := by have := partV_le (i := i) (k := k) (b := y) hx hN; omega
        simp only [hwm,hx,hy,encPb,pbCells,List.getElem?_map,hs,hple,List.length_map,first_vio,first4,go_sem,reduceIte,zA,zB,zC,zD,zE,zF,reduceCtorEq]
        refine hZ2 _ ⟨(k + 1, w + 1), ?_, ?_, lies (by omega) (by (simp only [List.length_map,hwk,partV_yes hs hls,len1,mapv,encVio,go_sem,reduceIte,zA,zB,zC,zD,zE,zF,reduceCtorEq]))⟩
        ·exact hltk
        ·dsimp only; omega
       ·(unfold lostB at hls; rw [hb11_5, hb11_13, hc56] at hls; cases hls)
     ·(unfold lostB at hls; rw [hb11_5] at hls; cases hls)
    ·simp only [hwm,hx,hy,encPb,pbCells,List.getElem?_map,hs,List.length_map,first_vio,first4,go_sem,reduceIte,zA,zB,zC,zD,zE,zF,reduceCtorEq]
     refine cF (by have h := exps_ok y.ifc hyb.all hyb.n s; simp only [encIf,ifCells] at h; exact h) ?_
     rintro _ rfl
     simp only [hwm,hx,hy,encPb,pbCells,List.getElem?_map,hs,List.length_map,first_vio,first4,go_sem,reduceIte,zA,zB,zC,zD,zE,zF,reduceCtorEq]
     refine gif (fun hb11_5 => ?_) (fun hb11_5 => ?_)
     ·simp only [hwm,hx,hy,encPb,pbCells,List.getElem?_map,hs,List.length_map,first_vio,first4,go_sem,reduceIte,zA,zB,zC,zD,zE,zF,reduceCtorEq]
      refine gif (fun hb11_13 => ?_) (fun hb11_13 => ?_)
      ·(unfold lostB at hls; rw [hb11_5, hb11_13] at hls; cases hls)
      ·simp only [hwm,hx,hy,encPb,pbCells,List.getElem?_map,hs,List.length_map,first_vio,first4,go_sem,reduceIte,zA,zB,zC,zD,zE,zF,reduceCtorEq]
       refine cF (by have h := depr_ok x.ifc s (by have := hxb.b.2.2.2.2; omega); simp only [encIf,ifCells] at h; exact h) ?_
       rintro _ rfl
       simp only [hwm,hx,hy,encPb,pbCells,List.getElem?_map,hs,List.length_map,first_vio,first4,go_sem,reduceIte,zA,zB,zC,zD,zE,zF,reduceCtorEq]
       refine gif (fun hc56 => ?_) (fun hc56 => ?_)
       ·(unfold lostB at hls; rw [hb11_5, hb11_13, hc56] at hls; cases hls)
       ·simp only [hwm,hx,hy,encPb,pbCells,List.getElem?_map,hs,List.length_map,first_vio,first4,go_sem,reduceIte,zA,zB,zC,zD,zE,zF,reduceCtorEq]
        refine hZ2 _ ⟨(k + 1, w), ?_, ?_, lies (by omega) (by (simp only [List.length_map,hwk,partV_no hs hls,go_sem,reduceIte,zA,zB,zC,zD,zE,zF,reduceCtorEq]))⟩
        ·exact hltk
        ·dsimp only; omega
     ·simp only [hwm,hx,hy,encPb,pbCells,List.getElem?_map,hs,List.length_map,first_vio,first4,go_sem,reduceIte,zA,zB,zC,zD,zE,zF,reduceCtorEq]
      refine hZ2 _ ⟨(k + 1, w), ?_, ?_, lies (by omega) (by (simp only [List.length_map,hwk,partV_no hs hls,go_sem,reduceIte,zA,zB,zC,zD,zE,zF,reduceCtorEq]))⟩
      ·exact hltk
      ·dsimp only; omega
   ·have hgek : k = (expR x.ifc).length := by have := of_decide_eq_false hc33; omega
    rw [hgek, partV_full hi hx hy]
    simp only [hwm,hx,hy,encPb,pbCells,List.getElem?_map,List.length_map,first_vio,first4,go_sem,reduceIte,zA,zB,zC,zD,zE,zF,reduceCtorEq]
    refine hZ1 _ ⟨(i + 1, w), ?_, ?_, lies (by omega) (by (simp only [hwi,go_sem,reduceIte,zA,zB,zC,zD,zE,zF,reduceCtorEq]))⟩
    ·exact Nat.succ_pos _
    ·dsimp only; omega
  ·have hge : ¬ i < l.length := by simpa using hc16
   have htk : vios (l.take i) = vios l := by rw [List.take_of_length_le (by omega)]
   rw [htk]
   have hres := chk_yes hok
   simp only [List.length_map,first_vio,first4,go_sem,reduceIte,zA,zB,zC,zD,zE,zF,reduceCtorEq]
   try rw [List.take_of_length_le (by simp)]
   exact hK _ (by rw [hres])
end Go.Proofs.YtcajnfkkokeeeaaGreatDoor
end

section
namespace Go.Proofs.YtcajnfkkokeeeaaGreatDoor
open Go.Eng
open Nat renaming reduceAdd → zA, reduceLT → zB, reduceLeDiff → zC, reduceMul → zD, reduceEqDiff → zE, reduceSub → zF
variable [Glob]
set_option maxHeartbeats 4000000
set_option maxRecDepth 100000
def remL (l : List Pb) : List ByteArray := match l[l.length - 1]? with
 | none => []
 | some p => (expR p.ifc).filter (depr p.ifc)
def remV (l : List Pb) : V := if hisOk l = true then .tup [.slice ((remL l).map str), num 0] else .tup [.slice [], num 1]
theorem rem_no {l : List Pb} (h : hisOk l = false) : remV l = .tup [.slice [], num 1] := by unfold remV; rw [if_neg (by simp [h])]
theorem rem_yes {l : List Pb} (h : hisOk l = true) : remV l = .tup [.slice ((remL l).map str), num 0] := by unfold remV; rw [if_pos h]
theorem remL_at {l : List Pb} {p : Pb} (h : l[l.length - 1]? = some p) : remL l = (expR p.ifc).filter (depr p.ifc) := by unfold remL; rw [h]
def partR (x : Pb) (k : Nat) : List ByteArray := ((expR x.ifc).take k).filter (depr x.ifc)
theorem partR_nil (x : Pb) : partR x 0 = [] := rfl
theorem partR_yes {x : Pb} {k : Nat} {s : ByteArray} (h : (expR x.ifc)[k]? = some s) (hl : depr x.ifc s = true) : partR x (k + 1) = partR x k ++ [s] := by
 unfold partR; rw [List.take_add_one, h]; simp [hl]
theorem partR_no {x : Pb} {k : Nat} {s : ByteArray} (h : (expR x.ifc)[k]? = some s) (hl : depr x.ifc s = false) : partR x (k + 1) = partR x k := by
 unfold partR; rw [List.take_add_one, h]; simp [hl]
theorem partR_le (x : Pb) (k : Nat) : (partR x k).length ≤ (expR x.ifc).length := by
 unfold partR
 have h4 := List.length_filter_le (depr x.ifc) ((expR x.ifc).take k)
 rw [List.length_take] at h4; omega
theorem first_str (l : List ByteArray) (n : Nat) : firstOk (l.map str) n 1 = true := by
 unfold firstOk; split
 ·rename_i h; simp at h; obtain ⟨t, -, rfl⟩ := h; rfl
 ·rfl
theorem maps1 (l : List ByteArray) (a : ByteArray) : (l ++ [a]).map str = l.map str ++ [str a] := by simp
theorem rem_ok (hG : Glob.g = some 0) (l : List Pb) (hl : l.length ≤ 1048576) (hb : ∀ p ∈ l, PbN p) (hN : sumBy expL l ≤ 1048576) : ∃ r_, (fun w => w = remV l) r_ ∧ FnOk Tryz.prog 9 [.slice (l.map encPb)] r_ := by
 refine vfn tt_ok [6] 37 [.tmp 2, .tmp 3] (fn := Tryz.f9) Tryz.func9 rfl Tryz.call9 ⟨rfl, rfl, by simp⟩ fun K hK => ?_
 simp only [List.length_map,first_str,go_sem,reduceIte,zA,zB,zC,zD,zE,zF,reduceCtorEq]
 refine cF (his_ok hG l hl (fun p hp => (hb p hp).b)) ?_
 rintro _ rfl
 simp only [List.length_map,first_str,go_sem,reduceIte,zA,zB,zC,zD,zE,zF,reduceCtorEq]
 refine gif (fun hc10 => ?_) (fun hc10 => ?_)
 ·have hno : hisOk l = false := by simpa using hc10
  have hres := rem_no hno
  simp only [List.length_map,first_str,go_sem,reduceIte,zA,zB,zC,zD,zE,zF,reduceCtorEq]
  try rw [List.take_of_length_le (by simp)]
  exact hK _ (by rw [hres] <;> rfl)
 ·have hok : hisOk l = true := by simpa using hc10
  simp only [List.length_map,first_str,go_sem,reduceIte,zA,zB,zC,zD,zE,zF,reduceCtorEq]
  refine gif (fun hc13 => ?_) (fun hc13 => ?_)
  ·have h0 : l.length = 0 := by have := of_decide_eq_true hc13; omega
   have hr0 : remL l = [] := by unfold remL; rw [List.getElem?_eq_none (by omega)]
   have hres := rem_yes hok
   rw [hr0] at hres
   simp only [List.length_map,first_str,go_sem,reduceIte,zA,zB,zC,zD,zE,zF,reduceCtorEq]
   try rw [List.take_of_length_le (by simp)]
   exact hK _ (by rw [hres] <;> rfl)
  ·have h0 : 0 < l.length := by have := of_decide_eq_false hc13; omega
   have hwm := hwm1 h0 (by omega)
   obtain ⟨x, hx⟩ : ∃ x, l[l.length - 1]? = some x := ⟨_, List.getElem?_eq_getElem (by omega)⟩
   have hxb := hb x (List.mem_of_getElem? hx)
   have hxl : (expR x.ifc).length ≤ 1048576 := by have h := sumBy_mem expL hx; unfold expL at h hN; omega
   have hres := rem_yes hok
   rw [remL_at hx] at hres
   simp only [hwm,hx,encPb,pbCells,List.getElem?_map,List.length_map,first_str,go_sem,reduceIte,zA,zB,zC,zD,zE,zF,reduceCtorEq]
   refine xnil 4 0 1 (by decide) rfl ?_
   refine xgo tt_ok [6] ?_
   simp only [hwm,hx,encPb,pbCells,List.getElem?_map,List.length_map,first_str,go_sem,reduceIte,zA,zB,zC,zD,zE,zF,reduceCtorEq]
   refine cF (by have h := exp_ok x.ifc hxb.all hxb.n; simp only [encIf,ifCells] at h; exact h) ?_
   rintro _ rfl
   simp only [hwm,hx,encPb,pbCells,List.getElem?_map,List.length_map,first_str,go_sem,reduceIte,zA,zB,zC,zD,zE,zF,reduceCtorEq]
   refine xloop tt_ok [6] (fun a : Nat × Nat => [(4, .ms 0 a.2 0 (partR x a.1).length), (5, .ptr 1 0), (22, .slice ((expR x.ifc).map str)), (23, num (expR x.ifc).length), (24, num a.1)]) (fun a : Nat × Nat => [.rows a.2 1 ((partR x a.1).map str), .box [str x.ifc.path, .slice (x.ifc.types.map encTe), .slice (x.ifc.vals.map encVe), .slice (x.ifc.als.map encAl), .slice (x.ifc.deps.map encDp)]]) (fun a => (expR x.ifc).length - a.1) (fun a => a.1 ≤ (expR x.ifc).length) ((0, 0)) 2 (lies (by omega) (by simp only [hwm,hx,encPb,pbCells,List.getElem?_map,List.length_map,first_str,partR_nil,List.map_nil,List.length_nil,List.length_map,Int.cast_ofNat_Int,go_sem,reduceIte,zA,zB,zC,zD,zE,zF,reduceCtorEq] <;> rfl)) (Nat.zero_le _) ?_
   intro ⟨k, w⟩ hk
   try dsimp only at hk
   try dsimp only
   intro Z1 hZ1
   simp only [hwm,hx,encPb,pbCells,List.getElem?_map,List.length_map,first_str,go_sem,reduceIte,zA,zB,zC,zD,zE,zF,reduceCtorEq]
   refine gif (fun hc25 => ?_) (fun hc25 => ?_)
   ·have hltk : k < (expR x.ifc).length := by simpa using hc25
    have hwk := i64_succ k (by omega)
    obtain ⟨s, hs⟩ : ∃ s, (expR x.ifc)[k]? = some s := ⟨_, List.getElem?_eq_getElem hltk⟩
    rcases Bool.eq_false_or_eq_true (depr x.ifc s) with hls | hls
    ·simp only [hwm,hx,encPb,pbCells,List.getElem?_map,hs,List.length_map,first_str,go_sem,reduceIte,zA,zB,zC,zD,zE,zF,reduceCtorEq]
     refine cF (by have h := depr_ok x.ifc s (by have := hxb.b.2.2.2.2; omega); simp only [encIf,ifCells] at h; exact h) ?_
     rintro _ rfl
     simp only [hwm,hx,encPb,pbCells,List.getElem?_map,hs,List.length_map,first_str,go_sem,reduceIte,zA,zB,zC,zD,zE,zF,reduceCtorEq]
     refine gif (fun hc30 => ?_) (fun hc30 => ?_)
     ·have hple : (partR x k).length + 1 ≤ 34359738368 := by have := partR_le x k; omega
      simp only [hwm,hx,encPb,pbCells,List.getElem?_map,hs,hple,List.length_map,first_str,go_sem,reduceIte,zA,zB,zC,zD,zE,zF,reduceCtorEq]
      refine hZ1 _ ⟨(k + 1, w + 1), ?_, ?_, lies (by omega) (by (simp only [List.length_map,hwk,partR_yes hs hls,len1,maps1,go_sem,reduceIte,zA,zB,zC,zD,zE,zF,reduceCtorEq]))⟩
      ·exact hltk
      ·dsimp only; omega
     ·(rw [hls] at hc30; cases hc30)
    ·simp only [hwm,hx,encPb,pbCells,List.getElem?_map,hs,List.length_map,first_str,go_sem,reduceIte,zA,zB,zC,zD,zE,zF,reduceCtorEq]
     refine cF (by have h := depr_ok x.ifc s (by have := hxb.b.2.2.2.2; omega); simp only [encIf,ifCells] at h; exact h) ?_
     rintro _ rfl
     simp only [hwm,hx,encPb,pbCells,List.getElem?_map,hs,List.length_map,first_str,go_sem,reduceIte,zA,zB,zC,zD,zE,zF,reduceCtorEq]
     refine gif (fun hc30 => ?_) (fun hc30 => ?_)
     ·(rw [hls] at hc30; cases hc30)
     ·simp only [hwm,hx,encPb,pbCells,List.getElem?_map,hs,List.length_map,first_str,go_sem,reduceIte,zA,zB,zC,zD,zE,zF,reduceCtorEq]
      refine hZ1 _ ⟨(k + 1, w), ?_, ?_, lies (by omega) (by (simp only [List.length_map,hwk,partR_no hs hls,go_sem,reduceIte,zA,zB,zC,zD,zE,zF,reduceCtorEq]))⟩
      ·exact hltk
      ·dsimp only; omega
   ·have hgek : k = (expR x.ifc).length := by have := of_decide_eq_false hc25; omega
    have hpf : partR x k = (expR x.ifc).filter (depr x.ifc) := by rw [hgek]; unfold partR; rw [List.take_length]
    rw [hpf]
    simp only [hwm,hx,encPb,pbCells,List.getElem?_map,List.length_map,first_str,go_sem,reduceIte,zA,zB,zC,zD,zE,zF,reduceCtorEq]
    try rw [List.take_of_length_le (by simp)]
    exact hK _ (by rw [hres] <;> rfl)
end Go.Proofs.YtcajnfkkokeeeaaGreatDoor
end
