/-
  CONTRACTS: the library's contracts on slices.Sorted over the keys of a map, laid at this program (the layings' tables by the kit's lay-plain).
  CONTRACTS: slices.Sorted at the keys of a map, by the kit's contract.
  CONTRACTS: Free of the program: the names of a type's variables, in their order.
  CONTRACTS: fewTypes.
  CONTRACTS: EqualTypes of the program.
  THE LAW SyntaxComposes itself.
  CONTRACTS: the reference's EqualTypeLists and EqualTypes.
  THE LAW SyntaxVariables itself.
  CONTRACTS: slices.Compact at strings.
  CONTRACTS: slices.Compact at uses.
  CONTRACTS: slices.Sort at strings, in place, by the kit's contract; sorting no element.
  CONTRACTS: Mentions of the program, its rows handed on to be written.
-/
import Derived.Test.YtpjdfcigadnhcaaGreatDoorF9
import Derived.Shelf.SlIter.Nil
import Derived.Shelf.SortM.Plain
import Derived.Shelf.SortM.SortNone
import Derived.Ground.GgzProg
import Derived.Ground.SlgmProg
import Derived.Test.YtpjdfcigadnhcaaGreatDoorProg
set_option linter.all false
section
namespace Go.Proofs.YtpjdfcigadnhcaaGreatDoor
open Go.RowKit Go.Maps Go.Sort Go.Shelf
def keys67_ren : Go.Shelf.Ren := ⟨fun | 7 => 67 | 10 => 107 | n => n, fun | 23 => 96 | 26 => 9 | 3 => 4 | 28 => 99 | 0 => 0 | 27 => 98 | 33 => 56 | 4 => 4 | n => n, fun | n => n⟩
theorem keys67 : Go.Proofs.SlLaysZ.n7 Tryz.prog keys67_ren := {
  mixed := by kernel_rfl
  f7 := ⟨Tryz.f67.name, by decide, Tryz.func67.trans (congrArg some (by kernel_rfl))⟩
  f10 := ⟨Tryz.f107.name, by decide, Tryz.func107.trans (congrArg some (by kernel_rfl))⟩
  t0 := Tryz.underlying0
  a0 := Tryz.isAgg0
  z0 := Tryz.sizeOf0
  v0 := Tryz.zeroValue0
  t4 := Tryz.underlying4
  a4 := Tryz.isAgg4
  z4 := Tryz.sizeOf4
  v4 := Tryz.zeroValue4
  t23 := Tryz.underlying96
  a23 := Tryz.isAgg96
  z23 := Tryz.sizeOf96
  v23 := Tryz.zeroValue96
  t26 := Tryz.underlying9
  a26 := Tryz.isAgg9
  z26 := Tryz.sizeOf9
  v26 := Tryz.zeroValue9
  t27 := Tryz.underlying98
  a27 := Tryz.isAgg98
  z27 := Tryz.sizeOf98
  v27 := Tryz.zeroValue98
  t28 := Tryz.underlying99
  a28 := Tryz.isAgg99
  z28 := Tryz.sizeOf99
  v28 := Tryz.zeroValue99
  t33 := Tryz.underlying56
  a33 := Tryz.isAgg56
  z33 := Tryz.sizeOf56
  v33 := Tryz.zeroValue56 }
def sorted66_ren : Go.Shelf.Ren := ⟨fun | 6 => 66 | 8 => 106 | 9 => 42 | 11 => 159 | 13 => 89 | 12 => 88 | 23 => 136 | 24 => 137 | 14 => 127 | 15 => 128 | 16 => 129 | 17 => 130 | 18 => 131 | 19 => 132 | 20 => 133 | 21 => 134 | 22 => 135 | 25 => 175 | 26 => 176 | 27 => 177 | 28 => 178 | 29 => 179 | 30 => 125 | 31 => 196 | n => n, fun | 26 => 9 | 28 => 99 | 24 => 46 | 0 => 0 | 3 => 3 | 37 => 125 | 48 => 160 | 50 => 162 | 4 => 4 | 40 => 152 | 39 => 151 | 45 => 157 | 5 => 5 | 9 => 9 | 51 => 180 | 55 => 184 | 57 => 194 | 58 => 195 | 33 => 56 | n => n, fun | n => n⟩
theorem sorted66 : Go.Proofs.SlLaysZ.n6 Tryz.prog sorted66_ren := {
  mixed := by kernel_rfl
  f6 := ⟨Tryz.f66.name, by decide, Tryz.func66.trans (congrArg some (by kernel_rfl))⟩
  f8 := ⟨Tryz.f106.name, by decide, Tryz.func106.trans (congrArg some (by kernel_rfl))⟩
  f11 := ⟨Tryz.f159.name, by decide, Tryz.func159.trans (congrArg some (by kernel_rfl))⟩
  t0 := Tryz.underlying0
  a0 := Tryz.isAgg0
  z0 := Tryz.sizeOf0
  v0 := Tryz.zeroValue0
  t24 := Tryz.underlying46
  a24 := Tryz.isAgg46
  z24 := Tryz.sizeOf46
  v24 := Tryz.zeroValue46
  t26 := Tryz.underlying9
  a26 := Tryz.isAgg9
  z26 := Tryz.sizeOf9
  v26 := Tryz.zeroValue9
  t28 := Tryz.underlying99
  a28 := Tryz.isAgg99
  z28 := Tryz.sizeOf99
  v28 := Tryz.zeroValue99
  i26 := by kernel_rfl }
def sort42_ren : Go.Shelf.Ren := ⟨fun | 6 => 42 | 8 => 89 | 9 => 88 | 19 => 136 | 20 => 137 | 21 => 127 | 22 => 128 | 23 => 129 | 24 => 130 | 25 => 131 | 26 => 132 | 27 => 133 | 28 => 134 | 29 => 135 | 36 => 175 | 31 => 176 | 32 => 177 | 37 => 178 | 38 => 179 | 39 => 125 | 41 => 196 | n => n, fun | 27 => 46 | 29 => 9 | 3 => 3 | 32 => 125 | 26 => 46 | 0 => 0 | 44 => 160 | 46 => 162 | 4 => 4 | 36 => 152 | 35 => 151 | 41 => 157 | 5 => 5 | 9 => 9 | 53 => 180 | 57 => 184 | 63 => 194 | 64 => 195 | n => n, fun | n => n⟩
theorem sort42 : Go.Proofs.SlLaysM.n6 Tryz.prog sort42_ren := {
  mixed := by kernel_rfl
  f6 := ⟨Tryz.f42.name, by decide, Tryz.func42.trans (congrArg some (by kernel_rfl))⟩
  f8 := Tryz.func89.trans (congrArg some (by kernel_rfl))
  f9 := ⟨Tryz.f88.name, by decide, Tryz.func88.trans (congrArg some (by kernel_rfl))⟩
  f19 := Tryz.func136.trans (congrArg some (by kernel_rfl))
  f20 := Tryz.func137.trans (congrArg some (by kernel_rfl))
  f21 := ⟨Tryz.f127.name, by decide, Tryz.func127.trans (congrArg some (by kernel_rfl))⟩
  f22 := ⟨Tryz.f128.name, by decide, Tryz.func128.trans (congrArg some (by kernel_rfl))⟩
  f23 := ⟨Tryz.f129.name, by decide, Tryz.func129.trans (congrArg some (by kernel_rfl))⟩
  f24 := ⟨Tryz.f130.name, by decide, Tryz.func130.trans (congrArg some (by kernel_rfl))⟩
  f25 := ⟨Tryz.f131.name, by decide, Tryz.func131.trans (congrArg some (by kernel_rfl))⟩
  f26 := ⟨Tryz.f132.name, by decide, Tryz.func132.trans (congrArg some (by kernel_rfl))⟩
  f27 := ⟨Tryz.f133.name, by decide, Tryz.func133.trans (congrArg some (by kernel_rfl))⟩
  f28 := ⟨Tryz.f134.name, by decide, Tryz.func134.trans (congrArg some (by kernel_rfl))⟩
  f29 := ⟨Tryz.f135.name, by decide, Tryz.func135.trans (congrArg some (by kernel_rfl))⟩
  f31 := Tryz.func176.trans (congrArg some (by kernel_rfl))
  f32 := Tryz.func177.trans (congrArg some (by kernel_rfl))
  f36 := ⟨Tryz.f175.name, by decide, Tryz.func175.trans (congrArg some (by kernel_rfl))⟩
  f37 := ⟨Tryz.f178.name, by decide, Tryz.func178.trans (congrArg some (by kernel_rfl))⟩
  f38 := ⟨Tryz.f179.name, by decide, Tryz.func179.trans (congrArg some (by kernel_rfl))⟩
  f39 := ⟨Tryz.f125.name, by decide, Tryz.func125.trans (congrArg some (by kernel_rfl))⟩
  f41 := ⟨Tryz.f196.name, by decide, Tryz.func196.trans (congrArg some (by kernel_rfl))⟩
  t0 := Tryz.underlying0
  a0 := Tryz.isAgg0
  z0 := Tryz.sizeOf0
  v0 := Tryz.zeroValue0
  t3 := Tryz.underlying3
  a3 := Tryz.isAgg3
  z3 := Tryz.sizeOf3
  v3 := Tryz.zeroValue3
  t4 := Tryz.underlying4
  a4 := Tryz.isAgg4
  z4 := Tryz.sizeOf4
  v4 := Tryz.zeroValue4
  t5 := Tryz.underlying5
  a5 := Tryz.isAgg5
  z5 := Tryz.sizeOf5
  v5 := Tryz.zeroValue5
  t9 := Tryz.underlying9
  a9 := Tryz.isAgg9
  z9 := Tryz.sizeOf9
  v9 := Tryz.zeroValue9
  t26 := Tryz.underlying46
  a26 := Tryz.isAgg46
  z26 := Tryz.sizeOf46
  v26 := Tryz.zeroValue46
  t27 := Tryz.underlying46
  a27 := Tryz.isAgg46
  z27 := Tryz.sizeOf46
  v27 := Tryz.zeroValue46
  t29 := Tryz.underlying9
  a29 := Tryz.isAgg9
  z29 := Tryz.sizeOf9
  v29 := Tryz.zeroValue9
  t32 := Tryz.underlying125
  a32 := Tryz.isAgg125
  z32 := Tryz.sizeOf125
  v32 := Tryz.zeroValue125
  t35 := Tryz.underlying151
  a35 := Tryz.isAgg151
  z35 := Tryz.sizeOf151
  v35 := Tryz.zeroValue151
  t36 := Tryz.underlying152
  a36 := Tryz.isAgg152
  z36 := Tryz.sizeOf152
  v36 := Tryz.zeroValue152
  t41 := Tryz.underlying157
  a41 := Tryz.isAgg157
  z41 := Tryz.sizeOf157
  v41 := Tryz.zeroValue157
  t44 := Tryz.underlying160
  a44 := Tryz.isAgg160
  z44 := Tryz.sizeOf160
  v44 := Tryz.zeroValue160
  t46 := Tryz.underlying162
  a46 := Tryz.isAgg162
  z46 := Tryz.sizeOf162
  v46 := Tryz.zeroValue162
  t53 := Tryz.underlying180
  a53 := Tryz.isAgg180
  z53 := Tryz.sizeOf180
  v53 := Tryz.zeroValue180
  t57 := Tryz.underlying184
  a57 := Tryz.isAgg184
  z57 := Tryz.sizeOf184
  v57 := Tryz.zeroValue184
  t63 := Tryz.underlying194
  a63 := Tryz.isAgg194
  z63 := Tryz.sizeOf194
  v63 := Tryz.zeroValue194
  t64 := Tryz.underlying195
  a64 := Tryz.isAgg195
  z64 := Tryz.sizeOf195
  v64 := Tryz.zeroValue195 }
theorem sorts66 (m : Nat) : Go.Proofs.AnyZ.SortsIn Tryz.prog sorted66_ren Fence.wide m :=
  ⟨fun blk off cap ss W hH hblk hsz => callsIn_wide.2 (Go.Proofs.AnyM.slices_Sort_string sort42 blk off cap ss W hH hblk hsz),
   fun p cap W => callsIn_wide.2 (Go.Proofs.AnyM.slices_Sort_string_none sort42 p cap W)⟩
end Go.Proofs.YtpjdfcigadnhcaaGreatDoor
end

section
namespace Go.Proofs.YtpjdfcigadnhcaaGreatDoor
open Go.Eng
open Go.RowKit (Below)
open Go.WideElems (Fit rd rg)
open Go.Proofs (encStr)
variable [Glob]
def readN : Value → Option (DataW Unit × List MemPlace) := fun _ => some (.nil, [])
theorem srt_ok (m : List Blk) (k kb : Nat) (s : List (Value × Nat × V) × Nat) (hg : NGood s) (hk : m[k]? = some (.box [.mp kb])) (hkb : m[kb]? = some (.map s.1 s.2)) (hl : s.1.length ≤ 1048576) :
  FnOkS Tryz.prog 66 [.clo (.func 107) [] [.ptr k 0]] m (.ms m.length 0 0 (sortedN s.1).length) (m ++ [.rows 0 1 ((sortedN s.1).map str)]) := by
 refine ⟨Tryz.call66, fun E w xs hs hx => ?_⟩
 obtain ⟨x, ys, hxs, hr, hrest⟩ := hx.of_cons
 have hys := hrest.of_nil
 subst hys
 obtain rfl : xs = #[x] := by cases xs; simp_all
 obtain ⟨g, e, c, rfl, hbk⟩ : ∃ g e c, x = .func (.func 107) #[] #[.pointer (some ⟨g, 0, none⟩)] ∧ E.blk k 0 = some (g, e, c) := by
  cases hr with
  | clo _ f first cap xs ys h1 h2 h3 h4 =>
   obtain rfl : xs = #[] := Array.eq_empty_of_size_eq_zero (by simpa using h1.symm)
   obtain ⟨y, rfl⟩ : ∃ y, ys = #[y] := by
    cases ys with
    | mk l =>
     match l, h2 with
     | [y], _ => exact ⟨y, rfl⟩
     | [], h2 => simp at h2
     | _ :: _ :: _, h2 => simp at h2
   have h5 := h4 0 (.ptr k 0) y rfl rfl
   cases h5 with
   | ptr _ _ _ g e c hb => exact ⟨g, e, c, rfl, hb⟩
 obtain ⟨g', T, bs, hb1, hh, hrl, -⟩ := hs.mem k _ hk
 rw [hbk] at hb1; cases hb1
 obtain ⟨y, zs, hy, hry, hrz⟩ := hrl.of_cons
 have hzs := hrz.of_nil
 subst hzs
 obtain ⟨gm, e2, c2, rfl, hbm⟩ := mp_inv hry
 obtain rfl : bs = #[.map (some gm)] := by cases bs; simp_all
 obtain ⟨gm', es, hb2, hh2, hrm, -⟩ := hs.mem kb _ hkb
 rw [hbm] at hb2; cases hb2
 have hu9 : Tryz.prog.underlying 9 = some .string := Tryz.underlying9
 have len : s.1.length = es.toList.length := hrm.1
 have pair : ∀ (i : Nat) (x : MapEntry), es.toList[i]? = some x → ∃ q, s.1[i]? = some q ∧ x.key = q.1 ∧ x.born = q.2.1 := fun i x hi => by
  obtain ⟨q, hq⟩ : ∃ q, s.1[i]? = some q := ⟨_, List.getElem?_eq_getElem (by rw [len]; exact (List.getElem?_eq_some_iff.1 hi).1)⟩
  obtain ⟨p1, p2, -⟩ := hrm.2 i q x hq hi
  exact ⟨q, hq, p1, p2⟩
 have hkeys : es.toList.map (·.key) = s.1.map (fun q => q.1) := by
  apply List.ext_getElem?
  intro i
  rw [List.getElem?_map, List.getElem?_map]
  cases hi : es.toList[i]? with
  | none => rw [List.getElem?_eq_none (by rw [len]; exact List.getElem?_eq_none_iff.1 hi)]; rfl
  | some x =>
   obtain ⟨q, hq, p1, -⟩ := pair i x hi
   rw [hq]; simp [p1]
 have hborn : es.toList.map (·.born) = s.1.map (fun q => q.2.1) := by
  apply List.ext_getElem?
  intro i
  rw [List.getElem?_map, List.getElem?_map]
  cases hi : es.toList[i]? with
  | none => rw [List.getElem?_eq_none (by rw [len]; exact List.getElem?_eq_none_iff.1 hi)]; rfl
  | some x =>
   obtain ⟨q, hq, -, p2⟩ := pair i x hi
   rw [hq]; simp [p2]
 have ent : ∀ x ∈ es.toList, ∃ a : ByteArray, x.key = .string a ∧ a.size ≤ 1048576 ∧ x.born < s.2 := fun x hx => by
  obtain ⟨i, hi⟩ := List.mem_iff_getElem?.1 hx
  obtain ⟨q, hq, p1, p2⟩ := pair i x hi
  obtain ⟨⟨a, ha, hs1⟩, -, hs2⟩ := hg.1 q (List.mem_of_getElem? hq)
  exact ⟨a, by rw [p1, ha], hs1, by rw [p2]; exact hs2⟩
 have hmaxv : (1048576 : Nat) ≤ maxLen := by decide
 have hrd : ∀ x ∈ es.toList, ∃ a : ByteArray, x.key = .string a ∧ rd Tryz.prog 9 readN x = some (.string a.data.toList, .nil) := fun x hx => by
  obtain ⟨a, ha, hsz, -⟩ := ent x hx
  refine ⟨a, ha, ?_⟩
  have : keyOf Tryz.prog 9 x.key = some (.string a.data.toList) := by
   unfold keyOf
   rw [hu9, ha]
   dsimp only
   unfold mapKey
   rw [hu9]
   dsimp only
   rw [if_pos (by omega)]
  unfold rd
  rw [this]; rfl
 have hF : Fit Tryz.prog 9 readN es s.2 := ⟨by rw [← Array.length_toList, ← len]; omega, ⟨fun x hx => (ent x hx).choose_spec.2.2, by rw [hborn]; exact hg.2.1, by rw [hkeys]; exact hg.2.2⟩, fun x hx => let ⟨_, _, h⟩ := hrd x hx; ⟨_, h⟩⟩
 obtain ⟨D0, hD0⟩ : ∃ D0 : DataW Unit, D0 = .map ((es.toList.map (rg Tryz.prog 9 readN)).foldr DataW.insert []) := ⟨_, rfl⟩
 have hown : w.ownsMap Tryz.prog 9 readN gm es.size D0 := ⟨es, s.2, hh2, hF, Nat.le_refl _, hD0⟩
 have hperm : (strKeys D0).Perm (s.1.map keyB) := by
  rw [hD0]
  simp only [strKeys]
  refine ((Go.WideShapes.sorted_perm _).map _).trans ?_
  rw [List.map_map]
  refine List.Perm.of_eq ?_
  apply List.ext_getElem?
  intro i
  rw [List.getElem?_map, List.getElem?_map]
  cases hi : es.toList[i]? with
  | none => rw [List.getElem?_eq_none (by rw [len]; exact List.getElem?_eq_none_iff.1 hi)]; rfl
  | some x =>
   obtain ⟨q, hq, p1, -⟩ := pair i x hi
   obtain ⟨a, ha, hr⟩ := hrd x (List.mem_of_getElem? hi)
   rw [hq]
   simp only [Option.map_some,Function.comp,rg,hr,Option.getD_some,strOf]
   unfold keyB
   rw [← p1, ha]
 have hsize : Maps.size D0 = s.1.length := by
  rw [hD0]
  simp only [Maps.size]
  rw [(Go.WideShapes.sorted_perm _).length_eq, List.length_map, len]
 have hlt : g < w.heap.size := (Array.getElem?_eq_some_iff.1 hh).1
 have hcell : w.cell? ⟨g, 0, none⟩ = some (.map (some gm)) := by simp [World.cell?, hh]
 have hseq : SeqGives Fence.wide 2 Tryz.prog 107 #[.pointer (some ⟨g, 0, none⟩)] encStr (fun ss => ss.Perm (strKeys D0)) (Maps.size D0) w :=
  AnyZ.keys_gives (ρ := keys67_ren) { keys67 with } Fence.wide _ trivial rfl (by omega) g gm es.size D0 _ hlt hcell hown
 have call := AnyZ.sorted_in sorted66 Fence.wide 5 trivial trivial trivial trivial rfl (by omega) (sorts66 _) (enters_of Tryz.func42 (by kernel_rfl) rfl) 107 #[.pointer (some ⟨g, 0, none⟩)] trivial (enters_of Tryz.func107 (by kernel_rfl) rfl) _ _ (by rw [hsize]; omega) (by rw [hsize]; omega) w hseq
 refine (callsIn_wide.1 call).mono ?_
 rintro e' w' ⟨v, ss, rfl, hS, hrow, hnil, hbel⟩
 have hsort : (ss.mergeSort (fun x y => decide (x ≤ y))).map (fun l => (⟨l.toArray⟩ : ByteArray)) = sortedN s.1 := by
  unfold sortedN
  rw [← mergeSort_of_perm (hS.trans hperm)]
 have hstr : (ss.mergeSort (fun x y => decide (x ≤ y))).map encStr = (sortedN s.1).map fun b => Value.string b := by
  rw [← hsort, List.map_map]; rfl
 have hlen : ss.length = (sortedN s.1).length := by rw [← hsort]; simp
 rw [hstr, hlen] at hrow
 rcases hrow.2 with ⟨rfl, h0⟩ | ⟨g2, cap, cur, rfl, hge, hc2, hcap, -, hcs, htk⟩
 ·have he : sortedN s.1 = [] := List.length_eq_zero_iff.1 h0
  obtain ⟨h1, h2⟩ := hs.below hbel
  refine ⟨E, _, rfl, h2, ?_, ?_⟩
  ·rw [he]
   have := h1.nilRows (key := m.length) (.inr rfl) 1
   simpa [setMem] using this
  ·rw [h0]; exact .msnil _ _ _ _
 ·have hg2 : g2 < w'.heap.size := (Array.getElem?_eq_some_iff.1 hc2).1
  have hFn : ∀ o, E.F ⟨g2, o, none⟩ = none := fun o => by
   cases hx : E.F ⟨g2, o, none⟩ with
   | none => rfl
   | some z => have := World.block_lt_of_cell? w _ (hs.F _ _ hx); simp at this; omega
  have hB : BlkOk (E.with m.length 0 (g2, 1, cap)) w' m.length (.rows 0 1 ((sortedN s.1).map str)) := by
   refine .inr ⟨g2, 9, cur, cap, if_pos ⟨rfl, rfl⟩, hc2, hcs, by rw [List.length_map]; exact hcap, fun i row hi => ?_, fun o => hFn o⟩
   rw [List.getElem?_map, Option.map_eq_some_iff] at hi
   obtain ⟨b, hb, rfl⟩ := hi
   refine ⟨rfl, fun j cc hj => ?_⟩
   match j with
   | 0 =>
    cases hj
    refine ⟨.string b, ?_, rfl, .sc _ _⟩
    have hil := (List.getElem?_eq_some_iff.1 hb).1
    have h3 : (cur.toList.take ((sortedN s.1).length * 1))[i]? = some (.string b) := by rw [htk, List.getElem?_map, hb]; rfl
    rw [List.getElem?_take_of_lt (by omega)] at h3
    simpa using h3
   | j + 1 => simp [V.cells] at hj
  obtain ⟨h1, h2⟩ := hs.adopt hbel (g := g2) (e := 1) (c := cap) hge hg2 rfl hB
  refine ⟨_, _, rfl, h2, h1, ?_⟩
  exact .ms _ _ _ _ _ g2 1 cap _ _ (if_pos ⟨rfl, rfl⟩) (fun _ => by simp) (fun _ => ⟨rfl, rfl⟩) hcap
end Go.Proofs.YtpjdfcigadnhcaaGreatDoor
end

section
namespace Go.Proofs.YtpjdfcigadnhcaaGreatDoor
open Go.Eng
open Nat (reduceAdd reduceLT reduceLeDiff reduceMul reduceEqDiff reduceSub)
variable [Glob]
set_option maxHeartbeats 4000000
set_option maxRecDepth 100000
theorem keys67_ok (m : List Blk) (kb : Nat) (hkb : kb < m.length) (hb : m.all (belowB (m.length + 1)) = true) : FnOkS Tryz.prog 67 [.mp kb] m (.clo (.func 107) [] [.ptr m.length 0]) (m ++ [.box [.mp kb]]) := by
 refine fns_ok tt_ok (fn := Tryz.f67) (m.length + 1) (by omega) Tryz.func67 rfl Tryz.call67 ?_
 simp only [ltb,startSt,Tryz.ntmps67,List.length_cons,List.length_nil,reduceAdd,reduceSub,List.replicate_succ,List.replicate_zero]
 refine tri_seq_region tt_ok fun K hK => ?_
 simp only [go_sem,reduceIte,reduceAdd,reduceLT,reduceLeDiff,reduceMul,reduceEqDiff,reduceSub,reduceCtorEq]
 refine hK _ ?_
 refine tri_seq_region tt_ok fun K hK => ?_
 simp only [go_sem,reduceIte,reduceAdd,reduceLT,reduceLeDiff,reduceMul,reduceEqDiff,reduceSub,reduceCtorEq]
 refine hK _ ?_
 have ht : ∀ B : Blk, (m ++ [B]).take (m.length + 1) = m ++ [B] := fun B => List.take_of_length_le (by simp)
 refine tri_ret ⟨.inl rfl, rfl, by simp [belowV, belowL], ?_, ?_⟩
 ·dsimp only; rw [ht]; simp [hb, belowB, belowV]; omega
 ·dsimp only; rw [ht]
theorem free_okN (t : Ty) (hsz : t.size ≤ 1048576) (hP : ∀ u ∈ t.nodes, u.name.size ≤ 1048576) : FnOk Tryz.prog 26 [encTy t] (.slice ((sortedN (varMap t).1.1).map str)) := by
 have hvl := varMap_length t hP
 obtain ⟨et, hKN⟩ := keyN
 have h51 := fun B0 B1 B2 h => types_ok t [B0, B1, B2] h
 refine fn_ok tt_ok (fn := Tryz.f26) Tryz.func26 rfl Tryz.call26 ?_
 simp only [ltb,startSt,Tryz.ntmps26,List.length_cons,List.length_nil,reduceAdd,reduceSub,List.replicate_succ,List.replicate_zero]
 rw [encTy_eq] at h51 ⊢
 simp only [tyCells] at h51 ⊢
 refine tri_seq_region tt_ok fun K hK => ?_
 simp only [go_sem,reduceIte,reduceAdd,reduceLT,reduceLeDiff,reduceMul,reduceEqDiff,reduceSub,reduceCtorEq]
 refine hK _ ?_
 refine tri_seq_region tt_ok fun K hK => ?_
 simp only [go_sem,reduceIte,reduceAdd,reduceLT,reduceLeDiff,reduceMul,reduceEqDiff,reduceSub,reduceCtorEq]
 refine hK _ ?_
 refine tri_seq ?_
 refine tri_seq_region tt_ok fun K hK => ?_
 simp only [go_sem,reduceIte,reduceAdd,reduceLT,reduceLeDiff,reduceMul,reduceEqDiff,reduceSub,reduceCtorEq]
 refine .inr <| .inl ⟨_, _, h51 _ _ _ rfl, ?_⟩
 try simp only [go_sem,reduceIte,reduceAdd,reduceLT,reduceLeDiff,reduceMul,reduceEqDiff,reduceSub,reduceCtorEq]
 refine hK _ ?_
 refine tri_block (triP_types (t := t) (B := 1048576) (fun s : { s // NGood s } => [.box (tyCells t), .map s.1.1 s.1.2, .box [.mp 1], .box (tyCells t)]) ⟨([], 0), NGood.nil⟩ 4 3 rfl (fun _ => rfl) (by omega) (fun _ => rfl) (fun s => ?_) rfl rfl rfl (fun s u => (stepN s u, none)) (by omega) (by omega) (fun v => v.name.size ≤ 1048576) hP ?_ ?_)
 ·show (true && ((s.1.1.all fun e => belowV 5 e.2.2) && (true && (true && true)))) = true
  rw [s.2.below 5]; rfl
 ·intro s u hu hn l LR LB hLR hLB
  obtain ⟨hi, -, -⟩ := insN_ok s u.name hn
  have hins := fun B0 B2 B3 B4 B5 => insertV_at (T := 96) (mem := [B0, .map s.1.1 s.1.2, B2, B3, B4, B5]) (b := 1) hKN (k := .string u.name) ⟨u.name, rfl⟩ rfl hi rfl
  rw [encTy_eq]
  simp only [ltb,setPs,tyCells,List.set_cons_succ,List.set_cons_zero]
  refine tri_last_region tt_ok fun K hK => ?_
  simp only [go_sem,reduceIte,reduceAdd,reduceLT,reduceLeDiff,reduceMul,reduceEqDiff,reduceSub,reduceCtorEq]
  refine hK _ ?_
  refine ⟨rfl, rfl, tri_block ?_⟩
  simp only [List.set_cons_succ,List.set_cons_zero]
  cases h9 : decide (u.kind = 9) with
  | true =>
   have e0 : stepN s u = insN s u.name := by unfold stepN; rw [if_pos h9]
   rw [e0]
   refine tri_seq_region tt_ok fun K hK => ?_
   simp only [h9,go_sem,reduceIte,reduceAdd,reduceLT,reduceLeDiff,reduceMul,reduceEqDiff,reduceSub,reduceCtorEq]
   refine hK _ ?_
   refine tri_cond rfl ?_
   refine tri_last_region tt_ok fun K hK => ?_
   simp only [hins,go_sem,reduceIte,reduceAdd,reduceLT,reduceLeDiff,reduceMul,reduceEqDiff,reduceSub,reduceCtorEq]
   refine hK _ ?_
   exact ⟨rfl, rfl, rfl⟩
  | false =>
   have e0 : stepN s u = s := by unfold stepN; rw [h9]; rfl
   rw [e0]
   refine tri_seq_region tt_ok fun K hK => ?_
   simp only [h9,go_sem,reduceIte,reduceAdd,reduceLT,reduceLeDiff,reduceMul,reduceEqDiff,reduceSub,reduceCtorEq]
   refine hK _ ?_
   refine tri_cond rfl (tri_skip ?_)
   exact ⟨rfl, rfl, rfl⟩
 ·rw [stepJ_pure]
  have ev : t.nodes.foldl stepN ⟨([], 0), NGood.nil⟩ = varMap t := rfl
  rw [ev]
  obtain ⟨s, hs⟩ : ∃ s, s = varMap t := ⟨_, rfl⟩
  rw [← hs] at hvl ⊢
  show Tri _ _ _ _ _ _
  have h67 := keys67_ok [.box (tyCells t), .map s.1.1 s.1.2, .box [.mp 1], .box (tyCells t), .dead] 1 (by simp) (by
   show (true && ((s.1.1.all fun e => belowV 6 e.2.2) && (true && (true && (true && true))))) = true
   rw [s.2.below 6]; rfl)
  have h66 := srt_ok ([.box (tyCells t), .map s.1.1 s.1.2, .box [.mp 1], .box (tyCells t), .dead] ++ [.box [.mp 1]]) 5 1 s.1 s.2 rfl rfl (by omega)
  simp only [ltb,tyCells,List.length_cons,List.length_nil,reduceAdd] at h67 h66
  refine tri_seq_region tt_ok fun K hK => ?_
  simp only [go_sem,reduceIte,reduceAdd,reduceLT,reduceLeDiff,reduceMul,reduceEqDiff,reduceSub,reduceCtorEq]
  refine .inr <| .inl ⟨_, _, h67, ?_⟩
  try simp only [go_sem,reduceIte,reduceAdd,reduceLT,reduceLeDiff,reduceMul,reduceEqDiff,reduceSub,reduceCtorEq]
  refine .inr <| .inl ⟨_, _, h66, ?_⟩
  try simp only [go_sem,reduceIte,reduceAdd,reduceLT,reduceLeDiff,reduceMul,reduceEqDiff,reduceSub,reduceCtorEq]
  refine hK _ ?_
  refine tri_ret ⟨.inl rfl, ?_⟩
  simp [retV, resL, resV, Tryz.f26, pur, pur1, purCell, take_len_map]
theorem free_ok (t : Ty) (ht : t.wt ≤ 1048576) : FnOk Tryz.prog 26 [encTy t] (.slice ((sortedN (varMap t).1.1).map str)) := by
 have hsz := t.size_le_wt
 exact free_okN t (by omega) fun u hu => by
  have h1 := Ty.wt_nodes hu
  have h2 := u.wt_eq
  omega
end Go.Proofs.YtpjdfcigadnhcaaGreatDoor
end

section
namespace Go.Proofs.YtpjdfcigadnhcaaGreatDoor
open Go.Eng
open Nat (reduceAdd reduceLT reduceLeDiff reduceMul reduceEqDiff reduceSub)
variable [Glob]
set_option maxRecDepth 100000
set_option maxHeartbeats 4000000
attribute [local irreducible] runM stepM valD
theorem sumBy_le_mul {α : Type} (f : α → Nat) (c : Nat) : ∀ l : List α, (∀ t ∈ l, f t ≤ c) → sumBy f l ≤ l.length * c
 | [], _ => by simp [sumBy]
 | a :: r, h => by
  have h1 := h a (by simp)
  have h2 := sumBy_le_mul f c r fun t ht => h t (by simp [ht])
  simp only [sumBy,List.length_cons,Nat.add_mul,Nat.one_mul]
  omega
theorem fewTypes_ok (k : Int) (ts : List Ty) (hs : ∀ t ∈ ts, t.size ≤ 1048576) (hl : ts.length ≤ 2097152) :
  FnOk Tryz.prog 11 [num k, .slice (encTys ts)] (bl (decide ((sumBy Ty.size ts : Int) ≤ k))) := by
 have hle : ∀ i, sumBy Ty.size (ts.take i) ≤ 2199023255552 := fun i => by
  have h1 := sumBy_take_le Ty.size ts i
  have h2 := sumBy_le_mul Ty.size 1048576 ts hs
  omega
 refine fn_ok tt_ok (fn := Tryz.f11) Tryz.func11 rfl Tryz.call11 ?_
 simp only [ltb,startSt,Tryz.ntmps11,List.length_cons,List.length_nil,reduceAdd,reduceSub,List.replicate_succ,List.replicate_zero]
 refine tri_seq_region tt_ok fun K hK => ?_
 simp only [go_sem,reduceIte,reduceAdd,reduceLT,reduceLeDiff,reduceMul,reduceEqDiff,reduceSub,reduceCtorEq]
 refine hK _ ?_
 refine tri_seq_region tt_ok fun K hK => ?_
 simp only [go_sem,reduceIte,reduceAdd,reduceLT,reduceLeDiff,reduceMul,reduceEqDiff,reduceSub,reduceCtorEq]
 refine hK _ ?_
 refine tri_seq ?_
 refine tri_seq_region tt_ok fun K hK => ?_
 simp only [length_encTys,go_sem,reduceIte,reduceAdd,reduceLT,reduceLeDiff,reduceMul,reduceEqDiff,reduceSub,reduceCtorEq]
 refine hK _ ?_
 refine tri_block (tri_loop_inv (fun N st => ∃ (i : Nat), N = ts.length - i ∧ i ≤ ts.length ∧
  st = { fr := [num k, .undef, .undef, .undef, .undef, num ((sumBy Ty.size (ts.take i) : Nat)), .undef, .undef, .slice (encTys ts), num ts.length, num i] ++ List.replicate 11 .undef, mem := [] }) ts.length ?_ ?_)
 ·exact ⟨0, [true,false,false,false,false,true,false,false,true,true,true], by omega, by simp only [maskFr,belowV,belowL,belowB,reduceLT,mkb], rfl, 0, by omega, by omega, rfl⟩
 ·rintro N' st ⟨i, rfl, hi, rfl⟩
  simp only [ltb,List.replicate_succ,List.replicate_zero]
  by_cases hlt : i < ts.length
  ·have hd := lt_dec hlt
   refine tri_seq_region tt_ok fun K hK => ?_
   simp only [hd,go_sem,reduceIte,reduceAdd,reduceLT,reduceLeDiff,reduceMul,reduceEqDiff,reduceSub,reduceCtorEq]
   refine hK _ ?_
   refine tri_seq (tri_cond rfl (tri_skip ?_))
   refine tri_seq (tri_block ?_)
   obtain ⟨t, ht⟩ : ∃ t, ts[i]? = some t := ⟨_, List.getElem?_eq_getElem hlt⟩
   have htt := hs t (List.mem_of_getElem? ht)
   have hst := sumBy_take_succ Ty.size ht
   have hl1 := hle (i + 1)
   have hT := tsize_ok t.size t (Nat.le_refl _) htt
   rw [encTy_eq] at hT
   simp only [tyCells] at hT
   have hw1 := i64_c (((sumBy Ty.size (ts.take i) : Nat) : Int) + (t.size : Int)) (sumBy Ty.size (ts.take (i + 1))) (by omega) (by omega)
   have hw2 := i64_succ i (by omega)
   refine tri_seq_region tt_ok fun K hK => ?_
   simp only [get_encTys,ht,encTy_eq,tyCells,go_sem,reduceIte,reduceAdd,reduceLT,reduceLeDiff,reduceMul,reduceEqDiff,reduceSub,reduceCtorEq]
   refine hK _ ?_
   refine tri_last_region tt_ok fun K hK => ?_
   simp only [go_sem,reduceIte,reduceAdd,reduceLT,reduceLeDiff,reduceMul,reduceEqDiff,reduceSub,reduceCtorEq]
   refine .inl ⟨_, _, by simp only [hw1,go_sem,reduceIte,reduceAdd,reduceLT,reduceLeDiff,reduceMul,reduceEqDiff,reduceSub,reduceCtorEq,List.take_length], hT, ?_⟩
   try simp only [hw1,go_sem,reduceIte,reduceAdd,reduceLT,reduceLeDiff,reduceMul,reduceEqDiff,reduceSub,reduceCtorEq]
   refine hK _ ?_
   show Tri _ _ _ _ _ _
   refine tri_last_region tt_ok fun K hK => ?_
   simp only [go_sem,reduceIte,reduceAdd,reduceLT,reduceLeDiff,reduceMul,reduceEqDiff,reduceSub,reduceCtorEq]
   refine hK _ ?_
   rw [hw2]
   exact ⟨ts.length - (i + 1), by omega, 0, [true,false,false,false,false,true,false,false,true,true,true], by omega, by simp only [maskFr,belowV,belowL,belowB,reduceLT,mkb], rfl, i + 1, rfl, hlt, by simp [rp,maskFr]⟩
  ·have hd := ge_dec hlt
   refine tri_seq_region tt_ok fun K hK => ?_
   simp only [hd,go_sem,reduceIte,reduceAdd,reduceLT,reduceLeDiff,reduceMul,reduceEqDiff,reduceSub,reduceCtorEq]
   refine hK _ ?_
   refine tri_seq (tri_cond rfl (tri_exit ?_))
   have hie : i = ts.length := by omega
   subst hie
   show Tri _ _ _ _ _ _
   refine tri_seq_region tt_ok fun K hK => ?_
   simp only [go_sem,reduceIte,reduceAdd,reduceLT,reduceLeDiff,reduceMul,reduceEqDiff,reduceSub,reduceCtorEq]
   refine hK _ ?_
   refine tri_ret ⟨.inl rfl, ?_⟩
   rw [List.take_length]
   rfl

theorem memAfter_bl (mem : List Blk) (keys : List (Nat × Nat)) (b : Bool) : memAfter mem keys (bl b) = mem := rfl
end Go.Proofs.YtpjdfcigadnhcaaGreatDoor
end

section
namespace Go.Proofs.YtpjdfcigadnhcaaGreatDoor
open Go.Eng
variable [Glob]


end Go.Proofs.YtpjdfcigadnhcaaGreatDoor
end

section
namespace Go.Proofs.YtpjdfcigadnhcaaGreatDoor
open Go.Eng
variable [Glob]
set_option maxHeartbeats 4000000
set_option maxRecDepth 100000
attribute [local irreducible] runM stepM valD stepOp stepD callF callS
theorem sumBy_le_mul2 {α : Type} {f g : α → Nat} {c : Nat} : ∀ l : List α, (∀ t ∈ l, f t ≤ g t * c) → sumBy f l ≤ sumBy g l * c
 | [], _ => by simp [sumBy]
 | a :: r, h => by
  have h1 := h a (by simp)
  have h2 := sumBy_le_mul2 r fun t ht => h t (by simp [ht])
  simp only [sumBy,Nat.add_mul]
  omega
theorem Ty.subst_size (ns : List ByteArray) (us : List Ty) {B : Nat} (hB : 1 ≤ B) (hus : ∀ u ∈ us, u.size ≤ B) : ∀ t : Ty, (t.subst ns us).size ≤ t.size * B := by
 refine Ty.induct fun t ih => ?_
 have h0 := t.size_parts
 have keep : (Ty.mk t.kind t.mod t.name (t.args.map (Ty.subst ns us)) (t.flds.map (Fd.subst ns us))).size ≤ t.size * B := by
  rw [Ty.size_parts]
  have e : (Ty.mk t.kind t.mod t.name (t.args.map (Ty.subst ns us)) (t.flds.map (Fd.subst ns us))).parts = t.parts.map (Ty.subst ns us) := by
   simp only [Ty.parts,Ty.args,Ty.flds,List.map_append,List.map_map]
   congr 1
   exact List.map_congr_left fun f _ => by simp [Fd.subst_ty]
  rw [e, sumBy_map]
  have h1 := sumBy_le_mul2 (f := fun p => (p.subst ns us).size) (g := Ty.size) (c := B) t.parts ih
  rw [h0, Nat.add_mul]
  omega
 rw [t.subst_eq]
 by_cases h9 : t.kind = 9
 ·rw [if_pos h9]
  cases hp : pickT ns us t.name with
  | none => exact keep
  | some u =>
   dsimp only
   have hu : u ∈ us := by
    unfold pickT at hp
    split at hp
    ·exact List.mem_of_getElem? hp
    ·cases hp
   have h1 := hus u hu
   have h2 := Nat.mul_le_mul_right B t.size_pos
   omega
 ·rw [if_neg h9]; exact keep
end Go.Proofs.YtpjdfcigadnhcaaGreatDoor
end

section
namespace Go.Proofs.YtpjdfcigadnhcaaGreatDoor
open Go.Eng
variable [Glob]
set_option maxRecDepth 100000
set_option maxHeartbeats 2000000
attribute [local irreducible] runM stepM valD

def findReg (id : Nat) : Code → Option (Array Oper)
 | .region j ops _ => if j = id then some ops else none
 | .seq a b => match findReg id a with | some x => some x | none => findReg id b
 | .cond _ a b => match findReg id a with | some x => some x | none => findReg id b
 | .block _ c => findReg id c
 | .loop c => findReg id c
 | _ => none
def bodyReg (id : Nat) (fn : Func) : Option (Array Oper) := match fn.body with | some b => findReg id b | none => none
section
variable {t u : Ty} {i : Nat} {f g : Fd} (hf : t.flds[i]? = some f) (hg : u.flds[i]? = some g) {a0 a b c d : V} {K : St → Prop} {ops : Array Oper} (ho : bodyReg 6 Tryz.f27 = some ops)
end

end Go.Proofs.YtpjdfcigadnhcaaGreatDoor
end

section
namespace Go.Proofs.YtpjdfcigadnhcaaGreatDoor
open Go.Eng
variable [Glob]
set_option maxHeartbeats 4000000
set_option maxRecDepth 100000
attribute [local irreducible] runM stepM valD stepOp stepD callF callS
theorem sortedN_asc {s : List (Value × Nat × V) × Nat} (h : NGood s) : Asc ltS (sortedN s.1) := by
 have hn : (s.1.map keyB).Nodup := by
  have e : s.1.map (fun e => e.1) = (s.1.map keyB).map fun l => Value.string ⟨l.toArray⟩ := by
   rw [List.map_map]
   refine List.map_congr_left fun e he => ?_
   obtain ⟨⟨a, ha, -⟩, -⟩ := h.1 e he
   simp only [Function.comp,keyB,ha]
  have h3 := h.2.2
  rw [e] at h3
  exact (List.pairwise_map.1 h3).imp fun hne he => hne (by rw [he])
 have tr : ∀ a b c : List UInt8, leB a b = true → leB b c = true → leB a c = true := fun a b c h1 h2 => by simp only [leB,decide_eq_true_eq] at *; exact List.le_trans h1 h2
 have to : ∀ a b : List UInt8, (leB a b || leB b a) = true := fun a b => by simp only [leB,Bool.or_eq_true,decide_eq_true_eq]; exact List.le_total a b
 have h1 := List.pairwise_mergeSort tr to (s.1.map keyB)
 have h2 : ((s.1.map keyB).mergeSort leB).Nodup := (List.mergeSort_perm _ _).nodup_iff.2 hn
 unfold sortedN Asc
 rw [List.pairwise_map]
 refine (h1.and h2).imp fun {a b} h => ?_
 simp only [leB,decide_eq_true_eq] at h
 rw [ltS_eq]
 refine decide_eq_true ?_
 rcases Classical.em (a < b) with hlt | hlt
 ·exact hlt
 ·exact absurd (List.le_antisymm h.1 (List.not_lt.1 hlt)) h.2
theorem free_eq (t : Ty) (h : ∀ u ∈ t.nodes, u.name.size ≤ 1048576) : sortedN (varMap t).1.1 = gathT ltS (nmOf 9) t := by
 refine Asc.ext lin_str (sortedN_asc (varMap t).2) (gathT_asc lin_str (nmOf_len 9) t) fun x => ?_
 rw [sortedN_mem (varMap t).2, varMap_keys t h, gathT_mem]
 unfold Ty.vars
 rw [List.mem_map]
 constructor
 ·rintro ⟨u, hu, rfl⟩
  obtain ⟨h1, h2⟩ := List.mem_filter.1 hu
  exact ⟨u, h1, by unfold nmOf; rw [if_pos (of_decide_eq_true h2)]; simp⟩
 ·rintro ⟨u, hu, hx⟩
  unfold nmOf at hx
  split at hx
  ·rename_i hk
   rw [List.mem_singleton] at hx
   exact ⟨u, List.mem_filter.2 ⟨hu, decide_eq_true hk⟩, hx.symm⟩
  ·simp at hx
end Go.Proofs.YtpjdfcigadnhcaaGreatDoor
end

section
namespace Go.Proofs.YtpjdfcigadnhcaaGreatDoor
open Go.Eng
open Nat (reduceAdd reduceLT reduceLeDiff reduceMul reduceEqDiff reduceSub)
variable [Glob]
set_option maxHeartbeats 4000000
set_option maxRecDepth 100000
attribute [local irreducible] runM stepM valD stepOp stepD callF callS
theorem cutMs_from {mem : List Blk} {b v s n size : Nat} (i : Nat) (h : sizeOfBlk mem b v = some size) (hi : i ≤ n) : cutAt mem size (i : Int) none (.ms b v s n) = some (.ms b v (s + i) (n - i)) := by
 unfold cutAt
 dsimp only
 rw [if_pos ⟨Int.natCast_nonneg _, by simpa using hi, by simp, h⟩]
 simp only [Option.getD_none,Int.toNat_natCast]
 congr 2
 omega
theorem cutMs_to {mem : List Blk} {b v s n size : Nat} (i : Nat) (h : sizeOfBlk mem b v = some size) (hi : i ≤ n) : cutAt mem size 0 (some (i : Int)) (.ms b v s n) = some (.ms b v s i) := by
 unfold cutAt
 dsimp only
 rw [if_pos ⟨Int.le_refl _, by simp, by simpa using hi, h⟩]
 simp
theorem compactS_ok (m : List Blk) (b v : Nat) (hb : b < m.length) (hbl : m.all (belowB m.length) = true) (l : List ByteArray) (hl : l.length ≤ 1048576) :
  FnOkS Tryz.prog 46 [.ms b v 0 l.length] (m.set b (.rows v 1 (l.map str))) (.ms b v 0 (dd l).length) (m.set b (.rows v 1 ((dd l).map str))) := by
 have a1 : ∀ X, (m.set b X)[b]? = some X := fun X => by rw [List.getElem?_set]; simp [hb]
 have z1 : ∀ rs, sizeOfBlk (m.set b (.rows v 1 rs)) b v = some 1 := fun rs => by simp [sizeOfBlk, a1]
 have s1 : ∀ X Y, (m.set b X).set b Y = m.set b Y := fun X Y => List.set_set ..
 have ht : ∀ X, (m.set b X).take m.length = m.set b X := fun X => List.take_of_length_le (by simp)
 have fin : ∀ X, Blk.held X = true → belowB m.length X = true → (m.set b X).all (belowB m.length) = true := fun X _ hX => List.all_eq_true.2 fun y hy => by
  rcases List.mem_or_eq_of_mem_set hy with h | h
  ·exact List.all_eq_true.1 hbl y h
  ·rw [h]; exact hX
 refine fns_ok tt_ok (fn := Tryz.f46) m.length (by simp) Tryz.func46 rfl Tryz.call46 ?_
 simp only [ltb,startSt,Tryz.ntmps46,List.length_cons,List.length_nil,reduceAdd,reduceSub,List.replicate_succ,List.replicate_zero]
 refine tri_seq_region tt_ok fun K hK => ?_
 simp only [go_sem,reduceIte,reduceAdd,reduceLT,reduceLeDiff,reduceMul,reduceEqDiff,reduceSub,reduceCtorEq]
 refine hK _ ?_
 refine tri_seq ?_
 by_cases h2 : l.length < 2
 ·have hd : decide ((l.length : Int) < 2) = true := decide_eq_true (by omega)
  have e0 : dd l = l := by
   match l, h2 with
   | [], _ => rfl
   | [x], _ => rfl
   | x :: y :: r, h => simp at h; omega
  rw [e0]
  refine tri_seq_region tt_ok fun K hK => ?_
  simp only [hd,go_sem,reduceIte,reduceAdd,reduceLT,reduceLeDiff,reduceMul,reduceEqDiff,reduceSub,reduceCtorEq]
  refine hK _ ?_
  refine tri_cond rfl ?_
  refine tri_seq_region tt_ok fun K hK => ?_
  simp only [go_sem,reduceIte,reduceAdd,reduceLT,reduceLeDiff,reduceMul,reduceEqDiff,reduceSub,reduceCtorEq]
  refine hK _ ?_
  refine tri_ret ⟨.inl rfl, rfl, by simp [belowV, hb], ?_, ?_⟩
  ·dsimp only; rw [ht]; exact fin _ rfl rfl
  ·dsimp only; rw [ht]
 ·have hd : decide ((l.length : Int) < 2) = false := decide_eq_false (by omega)
  refine tri_seq_region tt_ok fun K hK => ?_
  simp only [hd,go_sem,reduceIte,reduceAdd,reduceLT,reduceLeDiff,reduceMul,reduceEqDiff,reduceSub,reduceCtorEq]
  refine hK _ ?_
  refine tri_cond rfl (tri_skip ?_)
  show Tri _ _ _ _ _ _
  refine tri_seq ?_
  refine tri_seq_region tt_ok fun K hK => ?_
  simp only [go_sem,reduceIte,reduceAdd,reduceLT,reduceLeDiff,reduceMul,reduceEqDiff,reduceSub,reduceCtorEq]
  refine hK _ ?_
  refine tri_block (tri_loop_inv (fun N st => ∃ (i : Nat), N = l.length - i ∧ 1 ≤ i ∧ i ≤ l.length ∧ dd (l.take i) = l.take i ∧
   st = { fr := [.ms b v 0 l.length, .undef, .undef, num i] ++ List.replicate 57 .undef, mem := m.set b (.rows v 1 (l.map str)) }) (l.length - 1) ?_ ?_)
  ·refine ⟨m.length, [true,false,false,true], by simp, ?_, by dsimp only; rw [ht]; exact fin _ rfl rfl, 1, rfl, Nat.le_refl _, by omega, ?_, ?_⟩
   ·simp only [maskFr,belowV,belowL,belowB,reduceLT,hb,mkb]
   ·match l, h2 with
    | [], h => simp at h
    | x :: r, _ => rfl
   ·dsimp only; rw [ht]; rfl
  ·rintro N' st ⟨i, rfl, hi1, hi, hdi, rfl⟩
   simp only [ltb,List.replicate_succ,List.replicate_zero]
   refine tri_seq ?_
   by_cases hlt : i < l.length
   ·have hd2 := lt_dec hlt
    refine tri_seq_region tt_ok fun K hK => ?_
    simp only [hd2,go_sem,reduceIte,reduceAdd,reduceLT,reduceLeDiff,reduceMul,reduceEqDiff,reduceSub,reduceCtorEq]
    refine hK _ ?_
    refine tri_cond rfl (tri_skip ?_)
    refine tri_seq (tri_block ?_)
    obtain ⟨j, rfl⟩ : ∃ j, i = j + 1 := ⟨i - 1, by omega⟩
    obtain ⟨x, hx⟩ : ∃ x, l[j + 1]? = some x := ⟨_, List.getElem?_eq_getElem hlt⟩
    obtain ⟨y, hy⟩ : ∃ y, l[j]? = some y := ⟨_, List.getElem?_eq_getElem (by omega)⟩
    have hI : ((j + 1 : Nat) : Int) < (l.length : Int) := by omega
    have hJ : ((j : Nat) : Int) < (l.length : Int) := by omega
    have hw : IntKind.i64.wrap (((j + 1 : Nat) : Int) - 1) = ((j : Nat) : Int) := i64_c _ j (by omega) (by omega)
    have hdt := dd_take hx hy
    refine tri_seq_mixed tt_ok mixed_ok [⟨.n, 0, [], []⟩, ⟨.n, 0, [], []⟩, ⟨.r, 0, [], []⟩, ⟨.r, 0, [], []⟩, ⟨.n, 0, [], []⟩, ⟨.n, 0, [], []⟩, ⟨.n, 0, [], []⟩, ⟨.r, 0, [], []⟩, ⟨.r, 0, [], []⟩, ⟨.n, 0, [], []⟩] 0 (by kernel_rfl) fun K hK => ?_
    simp only [a1,hI,hJ,hw,List.getElem?_map,hx,hy,go_sem,reduceIte,reduceAdd,reduceLT,reduceLeDiff,reduceMul,reduceEqDiff,reduceSub,reduceCtorEq,List.replicate]
    refine hK _ ?_
    cases hq : (x.toList == y.toList) with
    | false =>
     have hne : ¬ x = y := fun e => by rw [e, beq_self_eq_true] at hq; cases hq
     rw [if_neg hne, hdi] at hdt
     refine tri_cond rfl (tri_skip ?_)
     show Tri _ _ _ _ _ _
     have hw2 := i64_succ (j + 1) (by omega)
     refine tri_last_region tt_ok fun K hK => ?_
     simp only [hw2,go_sem,reduceIte,reduceAdd,reduceLT,reduceLeDiff,reduceMul,reduceEqDiff,reduceSub,reduceCtorEq]
     refine hK _ ?_
     refine ⟨l.length - (j + 1 + 1), by omega, m.length, [true,false,false,true], by simp, ?_, by dsimp only; rw [ht]; exact fin _ rfl rfl, j + 1 + 1, rfl, by omega, hlt, ?_, ?_⟩
     ·simp only [maskFr,belowV,belowL,belowB,reduceLT,hb,mkb]
     ·rw [hdt, List.take_add_one (i := j + 1), hx]; rfl
     ·dsimp only; rw [ht]; rfl
    | true =>
     have he : x = y := tl_eq (eq_of_beq hq)
     rw [if_pos he, hdi, List.append_nil] at hdt
     refine tri_cond rfl ?_
     have hk1 := cutMs_from (s := 0) (j + 1) (z1 (l.map str)) hi
     refine tri_seq_region tt_ok fun K hK => ?_
     simp only [hk1,go_sem,reduceIte,reduceAdd,reduceLT,reduceLeDiff,reduceMul,reduceEqDiff,reduceSub,reduceCtorEq]
     refine hK _ ?_
     refine tri_seq ?_
     refine tri_seq_region tt_ok fun K hK => ?_
     simp only [go_sem,reduceIte,reduceAdd,reduceLT,reduceLeDiff,reduceMul,reduceEqDiff,reduceSub,reduceCtorEq]
     refine hK _ ?_
     refine tri_block (tri_loop_inv (fun N st => ∃ (q k : Nat), N = l.length - (j + 1) - q ∧ 1 ≤ q ∧ j + 1 + q ≤ l.length ∧ k + 1 ≤ j + 1 + q ∧ (dd (l.take (j + 1 + q))).length = k ∧
      st = { fr := [.ms b v 0 l.length, .undef, .undef, num k, .ms b v (j + 1) (l.length - (j + 1)), num q] ++ List.replicate 55 .undef, mem := m.set b (.rows v 1 ((dd (l.take (j + 1 + q)) ++ l.drop k).map str)) }) (l.length - (j + 1) - 1) ?_ ?_)
     ·refine ⟨m.length, [true,false,false,true,true,true], by simp, ?_, by dsimp only; rw [ht]; exact fin _ rfl rfl, 1, j + 1, rfl, Nat.le_refl _, by omega, by omega, ?_, ?_⟩
      ·simp only [maskFr,belowV,belowL,belowB,reduceLT,hb,mkb]
      ·rw [hdt, List.length_take]; omega
      ·dsimp only; rw [ht, hdt, List.take_append_drop]; rfl
     ·rintro N' st ⟨q, k, rfl, hq1, hq2, hkq, hlk, rfl⟩
      simp only [ltb,List.replicate_succ,List.replicate_zero]
      refine tri_seq ?_
      by_cases hlt2 : q < l.length - (j + 1)
      ·have hd3 := lt_dec hlt2
       refine tri_seq_region tt_ok fun K hK => ?_
       simp only [hd3,go_sem,reduceIte,reduceAdd,reduceLT,reduceLeDiff,reduceMul,reduceEqDiff,reduceSub,reduceCtorEq]
       refine hK _ ?_
       refine tri_cond rfl (tri_skip ?_)
       refine tri_seq (tri_block ?_)
       obtain ⟨p, rfl⟩ : ∃ p, q = p + 1 := ⟨q - 1, by omega⟩
       obtain ⟨x', hx'⟩ : ∃ x', l[j + 1 + p + 1]? = some x' := ⟨_, List.getElem?_eq_getElem (by omega)⟩
       obtain ⟨y', hy'⟩ : ∃ y', l[j + 1 + p]? = some y' := ⟨_, List.getElem?_eq_getElem (by omega)⟩
       obtain ⟨z', hz'⟩ : ∃ z', l[k]? = some z' := ⟨_, List.getElem?_eq_getElem (by omega)⟩
       have hdt' := dd_take hx' hy'
       have g : ∀ t, k ≤ t → (dd (l.take (j + 1 + (p + 1))) ++ l.drop k)[t]? = l[t]? := fun t ht => by
        rw [List.getElem?_append_right (by omega), hlk, List.getElem?_drop]
        congr 1; omega
       have gx := (g (j + 1 + (p + 1)) (by omega)).trans hx'
       have gy := (g (j + 1 + p) (by omega)).trans hy'
       have gz := (g k (by omega)).trans hz'
       have hI' : ((p + 1 : Nat) : Int) < ((l.length - (j + 1) : Nat) : Int) := by omega
       have hJ' : ((p : Nat) : Int) < ((l.length - (j + 1) : Nat) : Int) := by omega
       have hw' : IntKind.i64.wrap (((p + 1 : Nat) : Int) - 1) = ((p : Nat) : Int) := i64_c _ p (by omega) (by omega)
       have hw3 := i64_succ (p + 1) (by omega)
       refine tri_seq_mixed tt_ok mixed_ok [⟨.n, 0, [], []⟩, ⟨.n, 0, [], []⟩, ⟨.r, 0, [], []⟩, ⟨.r, 0, [], []⟩, ⟨.n, 0, [], []⟩, ⟨.n, 0, [], []⟩, ⟨.n, 0, [], []⟩, ⟨.r, 0, [], []⟩, ⟨.r, 0, [], []⟩, ⟨.n, 0, [], []⟩] 0 (by kernel_rfl) fun K hK => ?_
       simp only [a1,hI',hJ',hw',List.getElem?_map,gx,gy,go_sem,reduceIte,reduceAdd,reduceLT,reduceLeDiff,reduceMul,reduceEqDiff,reduceSub,reduceCtorEq,List.replicate]
       refine hK _ ?_
       cases hq' : (x'.toList == y'.toList) with
       | true =>
        have he' : x' = y' := tl_eq (eq_of_beq hq')
        rw [if_pos he', List.append_nil] at hdt'
        refine tri_cond rfl (tri_skip ?_)
        show Tri _ _ _ _ _ _
        refine tri_last_region tt_ok fun K hK => ?_
        simp only [hw3,go_sem,reduceIte,reduceAdd,reduceLT,reduceLeDiff,reduceMul,reduceEqDiff,reduceSub,reduceCtorEq]
        refine hK _ ?_
        refine ⟨l.length - (j + 1) - (p + 1 + 1), by omega, m.length, [true,false,false,true,true,true], by simp, ?_, by dsimp only; rw [ht]; exact fin _ rfl rfl, p + 1 + 1, k, rfl, by omega, by omega, by omega, ?_, ?_⟩
        ·simp only [maskFr,belowV,belowL,belowB,reduceLT,hb,mkb]
        ·exact (congrArg List.length hdt').trans hlk
        ·have e3 : dd (l.take (j + 1 + (p + 1 + 1))) = dd (l.take (j + 1 + (p + 1))) := hdt'
         dsimp only; rw [ht, e3]; rfl
       | false =>
        have hne' : ¬ x' = y' := fun e => by rw [e, beq_self_eq_true] at hq'; cases hq'
        rw [if_neg hne'] at hdt'
        refine tri_cond rfl ?_
        have hkl : ((k : Nat) : Int) < (l.length : Int) := by omega
        refine tri_seq_region tt_ok fun K hK => ?_
        simp only [a1,s1,hI',hkl,List.getElem?_map,gx,gz,go_sem,reduceIte,reduceAdd,reduceLT,reduceLeDiff,reduceMul,reduceEqDiff,reduceSub,reduceCtorEq]
        refine hK _ ?_
        have hw4 := i64_succ k (by omega)
        refine tri_last_region tt_ok fun K hK => ?_
        simp only [hw4,go_sem,reduceIte,reduceAdd,reduceLT,reduceLeDiff,reduceMul,reduceEqDiff,reduceSub,reduceCtorEq]
        refine hK _ ?_
        show Tri _ _ _ _ _ _
        refine tri_last_region tt_ok fun K hK => ?_
        simp only [hw3,go_sem,reduceIte,reduceAdd,reduceLT,reduceLeDiff,reduceMul,reduceEqDiff,reduceSub,reduceCtorEq]
        refine hK _ ?_
        refine ⟨l.length - (j + 1) - (p + 1 + 1), by omega, m.length, [true,false,false,true,true,true], by simp, ?_, by dsimp only; rw [ht]; exact fin _ rfl rfl, p + 1 + 1, k + 1, rfl, by omega, by omega, by omega, ?_, ?_⟩
        ·simp only [maskFr,belowV,belowL,belowB,reduceLT,hb,mkb]
        ·refine (congrArg List.length hdt').trans ?_
         rw [List.length_append]
         exact congrArg (· + 1) hlk
        ·have e3 : dd (l.take (j + 1 + (p + 1 + 1))) = dd (l.take (j + 1 + (p + 1))) ++ [x'] := hdt'
         have e4 : ((dd (l.take (j + 1 + (p + 1))) ++ l.drop k).map str).set k (str x') = (dd (l.take (j + 1 + (p + 1))) ++ [x'] ++ l.drop (k + 1)).map str := by
          rw [← List.map_set, List.set_append_right _ _ (by omega), hlk, Nat.sub_self, List.drop_eq_getElem_cons (by omega : k < l.length), List.set_cons_zero, List.append_assoc]; rfl
         dsimp only; rw [ht, e3, ← e4]; rfl
      ·have hd3 := ge_dec hlt2
       refine tri_seq_region tt_ok fun K hK => ?_
       simp only [hd3,go_sem,reduceIte,reduceAdd,reduceLT,reduceLeDiff,reduceMul,reduceEqDiff,reduceSub,reduceCtorEq]
       refine hK _ ?_
       refine tri_cond rfl (tri_exit ?_)
       obtain rfl : q = l.length - (j + 1) := by omega
       have eq1 : j + 1 + (l.length - (j + 1)) = l.length := by omega
       rw [eq1, List.take_length] at hlk ⊢
       rw [eq1] at hkq
       show Tri _ _ _ _ _ _
       have hc1 := cutMs_from (s := 0) (n := l.length) k (z1 ((dd l ++ l.drop k).map str)) (by omega)
       have hc2 := cutMs_to (s := 0) (n := l.length) k (z1 ((dd l).map str)) (by omega)
       refine tri_seq_clear tt_ok [_, _, _] rfl ?_
       simp only [hc1,go_sem,reduceIte,reduceAdd,reduceLT,reduceLeDiff,reduceMul,reduceEqDiff,reduceSub,reduceCtorEq]
       refine ⟨m.set b (.rows v 1 ((dd l).map str)), ?_, ?_⟩
       ·have e5 : ((dd l ++ l.drop k).map str).take k = (dd l).map str := by rw [← List.map_take, List.take_append_of_le_length (by omega), List.take_of_length_le (by omega)]
        simp only [clearV,tt46,tt9,a1,s1,e5]
        rw [if_pos (by refine ⟨by trivial, by trivial, by trivial, by simp [Value.oneCell'], by omega, by simp; omega⟩)]
       ·refine tri_seq_region tt_ok fun K hK => ?_
        simp only [hc2,go_sem,reduceIte,reduceAdd,reduceLT,reduceLeDiff,reduceMul,reduceEqDiff,reduceSub,reduceCtorEq]
        refine hK _ ?_
        rw [hlk]
        refine tri_ret ⟨.inl rfl, rfl, by simp [belowV, hb], ?_, ?_⟩
        ·dsimp only; rw [ht]; exact fin _ rfl rfl
        ·dsimp only; rw [ht]
   ·have hd2 := ge_dec hlt
    refine tri_seq_region tt_ok fun K hK => ?_
    simp only [hd2,go_sem,reduceIte,reduceAdd,reduceLT,reduceLeDiff,reduceMul,reduceEqDiff,reduceSub,reduceCtorEq]
    refine hK _ ?_
    refine tri_cond rfl (tri_exit ?_)
    obtain rfl : i = l.length := by omega
    rw [List.take_length] at hdi
    rw [hdi]
    show Tri _ _ _ _ _ _
    refine tri_seq_region tt_ok fun K hK => ?_
    simp only [go_sem,reduceIte,reduceAdd,reduceLT,reduceLeDiff,reduceMul,reduceEqDiff,reduceSub,reduceCtorEq]
    refine hK _ ?_
    refine tri_ret ⟨.inl rfl, rfl, by simp [belowV, hb], ?_, ?_⟩
    ·dsimp only; rw [ht]; exact fin _ rfl rfl
    ·dsimp only; rw [ht]
end Go.Proofs.YtpjdfcigadnhcaaGreatDoor
end

section
namespace Go.Proofs.YtpjdfcigadnhcaaGreatDoor
open Go.Eng
open Nat (reduceAdd reduceLT reduceLeDiff reduceMul reduceEqDiff reduceSub)
variable [Glob]
set_option maxHeartbeats 4000000
set_option maxRecDepth 100000
attribute [local irreducible] runM stepM valD stepOp stepD callF callS
theorem compactU_ok (m : List Blk) (b v : Nat) (hb : b < m.length) (hbl : m.all (belowB m.length) = true) (l : List Us) (hl : l.length ≤ 1048576) :
  FnOkS Tryz.prog 47 [.ms b v 0 l.length] (m.set b (.rows v 2 (l.map encU))) (.ms b v 0 (dd l).length) (m.set b (.rows v 2 ((dd l).map encU))) := by
 have a1 : ∀ X, (m.set b X)[b]? = some X := fun X => by rw [List.getElem?_set]; simp [hb]
 have z1 : ∀ rs, sizeOfBlk (m.set b (.rows v 2 rs)) b v = some 2 := fun rs => by simp [sizeOfBlk, a1]
 have s1 : ∀ X Y, (m.set b X).set b Y = m.set b Y := fun X Y => List.set_set ..
 have ht : ∀ X, (m.set b X).take m.length = m.set b X := fun X => List.take_of_length_le (by simp)
 have fin : ∀ X, Blk.held X = true → belowB m.length X = true → (m.set b X).all (belowB m.length) = true := fun X _ hX => List.all_eq_true.2 fun y hy => by
  rcases List.mem_or_eq_of_mem_set hy with h | h
  ·exact List.all_eq_true.1 hbl y h
  ·rw [h]; exact hX
 refine fns_ok tt_ok (fn := Tryz.f47) m.length (by simp) Tryz.func47 rfl Tryz.call47 ?_
 simp only [ltb,startSt,Tryz.ntmps47,List.length_cons,List.length_nil,reduceAdd,reduceSub,List.replicate_succ,List.replicate_zero]
 refine tri_seq_region tt_ok fun K hK => ?_
 simp only [go_sem,reduceIte,reduceAdd,reduceLT,reduceLeDiff,reduceMul,reduceEqDiff,reduceSub,reduceCtorEq]
 refine hK _ ?_
 refine tri_seq ?_
 by_cases h2 : l.length < 2
 ·have hd : decide ((l.length : Int) < 2) = true := decide_eq_true (by omega)
  have e0 : dd l = l := by
   match l, h2 with
   | [], _ => rfl
   | [x], _ => rfl
   | x :: y :: r, h => simp at h; omega
  rw [e0]
  refine tri_seq_region tt_ok fun K hK => ?_
  simp only [hd,go_sem,reduceIte,reduceAdd,reduceLT,reduceLeDiff,reduceMul,reduceEqDiff,reduceSub,reduceCtorEq]
  refine hK _ ?_
  refine tri_cond rfl ?_
  refine tri_seq_region tt_ok fun K hK => ?_
  simp only [go_sem,reduceIte,reduceAdd,reduceLT,reduceLeDiff,reduceMul,reduceEqDiff,reduceSub,reduceCtorEq]
  refine hK _ ?_
  refine tri_ret ⟨.inl rfl, rfl, by simp [belowV, hb], ?_, ?_⟩
  ·dsimp only; rw [ht]; exact fin _ rfl rfl
  ·dsimp only; rw [ht]
 ·have hd : decide ((l.length : Int) < 2) = false := decide_eq_false (by omega)
  refine tri_seq_region tt_ok fun K hK => ?_
  simp only [hd,go_sem,reduceIte,reduceAdd,reduceLT,reduceLeDiff,reduceMul,reduceEqDiff,reduceSub,reduceCtorEq]
  refine hK _ ?_
  refine tri_cond rfl (tri_skip ?_)
  show Tri _ _ _ _ _ _
  refine tri_seq ?_
  refine tri_seq_region tt_ok fun K hK => ?_
  simp only [go_sem,reduceIte,reduceAdd,reduceLT,reduceLeDiff,reduceMul,reduceEqDiff,reduceSub,reduceCtorEq]
  refine hK _ ?_
  refine tri_block (tri_loop_inv (fun N st => ∃ (i : Nat), N = l.length - i ∧ 1 ≤ i ∧ i ≤ l.length ∧ dd (l.take i) = l.take i ∧
   st = { fr := [.ms b v 0 l.length, .undef, .undef, num i] ++ List.replicate 57 .undef, mem := m.set b (.rows v 2 (l.map encU)) }) (l.length - 1) ?_ ?_)
  ·refine ⟨m.length, [true,false,false,true], by simp, ?_, by dsimp only; rw [ht]; exact fin _ rfl rfl, 1, rfl, Nat.le_refl _, by omega, ?_, ?_⟩
   ·simp only [maskFr,belowV,belowL,belowB,reduceLT,hb,mkb]
   ·match l, h2 with
    | [], h => simp at h
    | x :: r, _ => rfl
   ·dsimp only; rw [ht]; rfl
  ·rintro N' st ⟨i, rfl, hi1, hi, hdi, rfl⟩
   simp only [ltb,List.replicate_succ,List.replicate_zero]
   refine tri_seq ?_
   by_cases hlt : i < l.length
   ·have hd2 := lt_dec hlt
    refine tri_seq_region tt_ok fun K hK => ?_
    simp only [hd2,go_sem,reduceIte,reduceAdd,reduceLT,reduceLeDiff,reduceMul,reduceEqDiff,reduceSub,reduceCtorEq]
    refine hK _ ?_
    refine tri_cond rfl (tri_skip ?_)
    refine tri_seq (tri_block ?_)
    obtain ⟨j, rfl⟩ : ∃ j, i = j + 1 := ⟨i - 1, by omega⟩
    obtain ⟨x, hx⟩ : ∃ x : Us, l[j + 1]? = some x := ⟨_, List.getElem?_eq_getElem hlt⟩
    obtain ⟨y, hy⟩ : ∃ y, l[j]? = some y := ⟨_, List.getElem?_eq_getElem (by omega)⟩
    have hI : ((j + 1 : Nat) : Int) < (l.length : Int) := by omega
    have hJ : ((j : Nat) : Int) < (l.length : Int) := by omega
    have hw : IntKind.i64.wrap (((j + 1 : Nat) : Int) - 1) = ((j : Nat) : Int) := i64_c _ j (by omega) (by omega)
    have hdt := dd_take hx hy
    refine tri_seq_mixed tt_ok mixed_ok [⟨.n, 0, [], []⟩, ⟨.n, 0, [], []⟩, ⟨.r, 0, [], []⟩, ⟨.r, 0, [], []⟩, ⟨.n, 0, [], []⟩, ⟨.n, 0, [], []⟩, ⟨.n, 0, [], []⟩, ⟨.r, 0, [], []⟩, ⟨.r, 0, [], []⟩, ⟨.n, 0, [], []⟩] 0 (by kernel_rfl) fun K hK => ?_
    simp only [a1,hI,hJ,hw,List.getElem?_map,hx,hy,encU,ev_useql,ev_usneq,go_sem,reduceIte,reduceAdd,reduceLT,reduceLeDiff,reduceMul,reduceEqDiff,reduceSub,reduceCtorEq,List.replicate]
    refine hK _ ?_
    cases hq : decide (x = y) with
    | false =>
     have hne : ¬ x = y := of_decide_eq_false hq
     rw [if_neg hne, hdi] at hdt
     refine tri_cond rfl (tri_skip ?_)
     show Tri _ _ _ _ _ _
     have hw2 := i64_succ (j + 1) (by omega)
     refine tri_last_region tt_ok fun K hK => ?_
     simp only [hw2,go_sem,reduceIte,reduceAdd,reduceLT,reduceLeDiff,reduceMul,reduceEqDiff,reduceSub,reduceCtorEq]
     refine hK _ ?_
     refine ⟨l.length - (j + 1 + 1), by omega, m.length, [true,false,false,true], by simp, ?_, by dsimp only; rw [ht]; exact fin _ rfl rfl, j + 1 + 1, rfl, by omega, hlt, ?_, ?_⟩
     ·simp only [maskFr,belowV,belowL,belowB,reduceLT,hb,mkb]
     ·rw [hdt, List.take_add_one (i := j + 1), hx]; rfl
     ·dsimp only; rw [ht]; rfl
    | true =>
     have he : x = y := of_decide_eq_true hq
     rw [if_pos he, hdi, List.append_nil] at hdt
     refine tri_cond rfl ?_
     have hk1 := cutMs_from (s := 0) (j + 1) (z1 (l.map encU)) hi
     refine tri_seq_region tt_ok fun K hK => ?_
     simp only [hk1,go_sem,reduceIte,reduceAdd,reduceLT,reduceLeDiff,reduceMul,reduceEqDiff,reduceSub,reduceCtorEq]
     refine hK _ ?_
     refine tri_seq ?_
     refine tri_seq_region tt_ok fun K hK => ?_
     simp only [go_sem,reduceIte,reduceAdd,reduceLT,reduceLeDiff,reduceMul,reduceEqDiff,reduceSub,reduceCtorEq]
     refine hK _ ?_
     refine tri_block (tri_loop_inv (fun N st => ∃ (q k : Nat), N = l.length - (j + 1) - q ∧ 1 ≤ q ∧ j + 1 + q ≤ l.length ∧ k + 1 ≤ j + 1 + q ∧ (dd (l.take (j + 1 + q))).length = k ∧
      st = { fr := [.ms b v 0 l.length, .undef, .undef, num k, .ms b v (j + 1) (l.length - (j + 1)), num q] ++ List.replicate 55 .undef, mem := m.set b (.rows v 2 ((dd (l.take (j + 1 + q)) ++ l.drop k).map encU)) }) (l.length - (j + 1) - 1) ?_ ?_)
     ·refine ⟨m.length, [true,false,false,true,true,true], by simp, ?_, by dsimp only; rw [ht]; exact fin _ rfl rfl, 1, j + 1, rfl, Nat.le_refl _, by omega, by omega, ?_, ?_⟩
      ·simp only [maskFr,belowV,belowL,belowB,reduceLT,hb,mkb]
      ·rw [hdt, List.length_take]; omega
      ·dsimp only; rw [ht, hdt, List.take_append_drop]; rfl
     ·rintro N' st ⟨q, k, rfl, hq1, hq2, hkq, hlk, rfl⟩
      simp only [ltb,List.replicate_succ,List.replicate_zero]
      refine tri_seq ?_
      by_cases hlt2 : q < l.length - (j + 1)
      ·have hd3 := lt_dec hlt2
       refine tri_seq_region tt_ok fun K hK => ?_
       simp only [hd3,go_sem,reduceIte,reduceAdd,reduceLT,reduceLeDiff,reduceMul,reduceEqDiff,reduceSub,reduceCtorEq]
       refine hK _ ?_
       refine tri_cond rfl (tri_skip ?_)
       refine tri_seq (tri_block ?_)
       obtain ⟨p, rfl⟩ : ∃ p, q = p + 1 := ⟨q - 1, by omega⟩
       obtain ⟨x', hx'⟩ : ∃ x', l[j + 1 + p + 1]? = some x' := ⟨_, List.getElem?_eq_getElem (by omega)⟩
       obtain ⟨y', hy'⟩ : ∃ y', l[j + 1 + p]? = some y' := ⟨_, List.getElem?_eq_getElem (by omega)⟩
       obtain ⟨z', hz'⟩ : ∃ z', l[k]? = some z' := ⟨_, List.getElem?_eq_getElem (by omega)⟩
       have hdt' := dd_take hx' hy'
       have g : ∀ t, k ≤ t → (dd (l.take (j + 1 + (p + 1))) ++ l.drop k)[t]? = l[t]? := fun t ht => by
        rw [List.getElem?_append_right (by omega), hlk, List.getElem?_drop]
        congr 1; omega
       have gx := (g (j + 1 + (p + 1)) (by omega)).trans hx'
       have gy := (g (j + 1 + p) (by omega)).trans hy'
       have gz := (g k (by omega)).trans hz'
       have hI' : ((p + 1 : Nat) : Int) < ((l.length - (j + 1) : Nat) : Int) := by omega
       have hJ' : ((p : Nat) : Int) < ((l.length - (j + 1) : Nat) : Int) := by omega
       have hw' : IntKind.i64.wrap (((p + 1 : Nat) : Int) - 1) = ((p : Nat) : Int) := i64_c _ p (by omega) (by omega)
       have hw3 := i64_succ (p + 1) (by omega)
       refine tri_seq_mixed tt_ok mixed_ok [⟨.n, 0, [], []⟩, ⟨.n, 0, [], []⟩, ⟨.r, 0, [], []⟩, ⟨.r, 0, [], []⟩, ⟨.n, 0, [], []⟩, ⟨.n, 0, [], []⟩, ⟨.n, 0, [], []⟩, ⟨.r, 0, [], []⟩, ⟨.r, 0, [], []⟩, ⟨.n, 0, [], []⟩] 0 (by kernel_rfl) fun K hK => ?_
       simp only [a1,hI',hJ',hw',List.getElem?_map,gx,gy,encU,ev_useql,ev_usneq,go_sem,reduceIte,reduceAdd,reduceLT,reduceLeDiff,reduceMul,reduceEqDiff,reduceSub,reduceCtorEq,List.replicate]
       refine hK _ ?_
       cases hq' : decide (x' = y') with
       | true =>
        have he' : x' = y' := of_decide_eq_true hq'
        rw [if_pos he', List.append_nil] at hdt'
        refine tri_cond rfl (tri_skip ?_)
        show Tri _ _ _ _ _ _
        refine tri_last_region tt_ok fun K hK => ?_
        simp only [hw3,go_sem,reduceIte,reduceAdd,reduceLT,reduceLeDiff,reduceMul,reduceEqDiff,reduceSub,reduceCtorEq]
        refine hK _ ?_
        refine ⟨l.length - (j + 1) - (p + 1 + 1), by omega, m.length, [true,false,false,true,true,true], by simp, ?_, by dsimp only; rw [ht]; exact fin _ rfl rfl, p + 1 + 1, k, rfl, by omega, by omega, by omega, ?_, ?_⟩
        ·simp only [maskFr,belowV,belowL,belowB,reduceLT,hb,mkb]
        ·exact (congrArg List.length hdt').trans hlk
        ·have e3 : dd (l.take (j + 1 + (p + 1 + 1))) = dd (l.take (j + 1 + (p + 1))) := hdt'
         dsimp only; rw [ht, e3]; rfl
       | false =>
        have hne' : ¬ x' = y' := of_decide_eq_false hq'
        rw [if_neg hne'] at hdt'
        refine tri_cond rfl ?_
        have hkl : ((k : Nat) : Int) < (l.length : Int) := by omega
        refine tri_seq_region tt_ok fun K hK => ?_
        simp only [a1,s1,hI',hkl,List.getElem?_map,gx,gz,encU,go_sem,reduceIte,reduceAdd,reduceLT,reduceLeDiff,reduceMul,reduceEqDiff,reduceSub,reduceCtorEq]
        refine hK _ ?_
        have hw4 := i64_succ k (by omega)
        refine tri_last_region tt_ok fun K hK => ?_
        simp only [hw4,go_sem,reduceIte,reduceAdd,reduceLT,reduceLeDiff,reduceMul,reduceEqDiff,reduceSub,reduceCtorEq]
        refine hK _ ?_
        show Tri _ _ _ _ _ _
        refine tri_last_region tt_ok fun K hK => ?_
        simp only [hw3,go_sem,reduceIte,reduceAdd,reduceLT,reduceLeDiff,reduceMul,reduceEqDiff,reduceSub,reduceCtorEq]
        refine hK _ ?_
        refine ⟨l.length - (j + 1) - (p + 1 + 1), by omega, m.length, [true,false,false,true,true,true], by simp, ?_, by dsimp only; rw [ht]; exact fin _ rfl rfl, p + 1 + 1, k + 1, rfl, by omega, by omega, by omega, ?_, ?_⟩
        ·simp only [maskFr,belowV,belowL,belowB,reduceLT,hb,mkb]
        ·refine (congrArg List.length hdt').trans ?_
         rw [List.length_append]
         exact congrArg (· + 1) hlk
        ·have e3 : dd (l.take (j + 1 + (p + 1 + 1))) = dd (l.take (j + 1 + (p + 1))) ++ [x'] := hdt'
         have e4 : ((dd (l.take (j + 1 + (p + 1))) ++ l.drop k).map encU).set k (encU x') = (dd (l.take (j + 1 + (p + 1))) ++ [x'] ++ l.drop (k + 1)).map encU := by
          rw [← List.map_set, List.set_append_right _ _ (by omega), hlk, Nat.sub_self, List.drop_eq_getElem_cons (by omega : k < l.length), List.set_cons_zero, List.append_assoc]; rfl
         dsimp only; rw [ht, e3, ← e4]; rfl
      ·have hd3 := ge_dec hlt2
       refine tri_seq_region tt_ok fun K hK => ?_
       simp only [hd3,go_sem,reduceIte,reduceAdd,reduceLT,reduceLeDiff,reduceMul,reduceEqDiff,reduceSub,reduceCtorEq]
       refine hK _ ?_
       refine tri_cond rfl (tri_exit ?_)
       obtain rfl : q = l.length - (j + 1) := by omega
       have eq1 : j + 1 + (l.length - (j + 1)) = l.length := by omega
       rw [eq1, List.take_length] at hlk ⊢
       rw [eq1] at hkq
       show Tri _ _ _ _ _ _
       have hc1 := cutMs_from (s := 0) (n := l.length) k (z1 ((dd l ++ l.drop k).map encU)) (by omega)
       have hc2 := cutMs_to (s := 0) (n := l.length) k (z1 ((dd l).map encU)) (by omega)
       refine tri_seq_clear tt_ok [_, _, _] rfl ?_
       simp only [hc1,go_sem,reduceIte,reduceAdd,reduceLT,reduceLeDiff,reduceMul,reduceEqDiff,reduceSub,reduceCtorEq]
       refine ⟨m.set b (.rows v 2 ((dd l).map encU)), ?_, ?_⟩
       ·have e5 : ((dd l ++ l.drop k).map encU).take k = (dd l).map encU := by rw [← List.map_take, List.take_append_of_le_length (by omega), List.take_of_length_le (by omega)]
        simp only [clearV,tt59,tt65,a1,s1,e5]
        rw [if_pos (by refine ⟨by trivial, by trivial, by trivial, by simp [Value.oneCell'], by omega, by simp; omega⟩)]
       ·refine tri_seq_region tt_ok fun K hK => ?_
        simp only [hc2,go_sem,reduceIte,reduceAdd,reduceLT,reduceLeDiff,reduceMul,reduceEqDiff,reduceSub,reduceCtorEq]
        refine hK _ ?_
        rw [hlk]
        refine tri_ret ⟨.inl rfl, rfl, by simp [belowV, hb], ?_, ?_⟩
        ·dsimp only; rw [ht]; exact fin _ rfl rfl
        ·dsimp only; rw [ht]
   ·have hd2 := ge_dec hlt
    refine tri_seq_region tt_ok fun K hK => ?_
    simp only [hd2,go_sem,reduceIte,reduceAdd,reduceLT,reduceLeDiff,reduceMul,reduceEqDiff,reduceSub,reduceCtorEq]
    refine hK _ ?_
    refine tri_cond rfl (tri_exit ?_)
    obtain rfl : i = l.length := by omega
    rw [List.take_length] at hdi
    rw [hdi]
    show Tri _ _ _ _ _ _
    refine tri_seq_region tt_ok fun K hK => ?_
    simp only [go_sem,reduceIte,reduceAdd,reduceLT,reduceLeDiff,reduceMul,reduceEqDiff,reduceSub,reduceCtorEq]
    refine hK _ ?_
    refine tri_ret ⟨.inl rfl, rfl, by simp [belowV, hb], ?_, ?_⟩
    ·dsimp only; rw [ht]; exact fin _ rfl rfl
    ·dsimp only; rw [ht]
end Go.Proofs.YtpjdfcigadnhcaaGreatDoor
end

section
namespace Go.Eng
variable [Glob]
theorem FnOk.none_rows {P : Program} {f : FuncId} {args : List V} {m : List Blk} {b v : Nat} (h : FnOk P f (.slice [] :: args) (.tup [])) (hp : ∀ E xs, RepL E args xs → RepL E.pure args xs) : FnOkS P f (.ms b v 0 0 :: args) m (.sc (.tuple #[])) m := by
 refine ⟨h.1, fun E w xs hs hx => ?_⟩
 obtain ⟨x, ys, hxs, hr, hrest⟩ := hx.of_cons
 have hr' : Rep E.pure (.slice []) x := by
  cases hr with
  | ms _ _ _ _ _ g e c a cap hb hl h0 hc => exact .slice _ [] a cap 0 ⟨0, 0, none⟩ (fun _ _ => undef) (fun h => absurd rfl h) (Nat.zero_le _) (fun i row h => by simp at h) (fun i row j c h => by simp at h) (fun i row j c h => by simp at h) (fun i row j c h => by simp at h)
  | msnil => exact .slice _ [] none 0 0 ⟨0, 0, none⟩ (fun _ _ => undef) (fun h => absurd rfl h) (Nat.le_refl _) (fun i row h => by simp at h) (fun i row j c h => by simp at h) (fun i row j c h => by simp at h) (fun i row j c h => by simp at h)
 have hx' : RepL E.pure (.slice [] :: args) xs.toList := by rw [hxs]; exact RepL.cons hr' (hp E _ hrest)
 refine (h.2 E.F E.gl w xs hs.F hx').mono ?_
 rintro e w' ⟨F', y, rfl, -, -, -, ⟨hg', hy⟩, hbel⟩
 have hy : y = .tuple #[] := by
  cases hy with
  | tup _ _ zs hl hh => exact congrArg Value.tuple (Array.eq_empty_of_size_eq_zero (xs := zs) (by simpa using hl.symm))
 obtain ⟨h1, h2⟩ := hs.below hbel
 exact ⟨E, y, rfl, h2, h1, by rw [hy]; exact .sc _ _⟩
end Go.Eng
namespace Go.Proofs.YtpjdfcigadnhcaaGreatDoor
open Go.Eng
variable [Glob]
theorem sortS_ok (m : List Blk) (b v : Nat) (l : List ByteArray) (hb : m[b]? = some (.rows v 1 (l.map str))) (hl : l.length ≤ 1048576) :
  FnOkR Tryz.prog 42 [.ms b v 0 l.length] m fun r m' => r = .sc (.tuple #[]) ∧ ∃ l' : List ByteArray, l'.Perm l ∧ (∀ (i j : Nat) (x y : ByteArray), i < j → l'[i]? = some x → l'[j]? = some y → ltS y x = false) ∧ m' = m.set b (.rows v 1 (l'.map str)) := by
 refine ⟨Tryz.call42, fun E w xs hs hx => ?_⟩
 obtain ⟨x, ys, hxs, hr, hrest⟩ := hx.of_cons
 have hys := hrest.of_nil
 subst hys
 obtain rfl : xs = #[x] := by rw [← Array.toArray_toList (xs := xs), hxs]
 rcases Nat.eq_zero_or_pos l.length with h0 | h0
 ·obtain rfl : l = [] := List.length_eq_zero_iff.1 h0
  obtain ⟨p, cap, rfl⟩ : ∃ p cap, x = .slice p 0 cap := by
   cases hr with
   | ms _ _ _ _ _ g e c a cap hb hl h0 hc => exact ⟨a, cap, rfl⟩
   | msnil => exact ⟨none, 0, rfl⟩
  refine (Go.Proofs.AnyM.slices_Sort_string_none sort42 p cap w).mono ?_
  rintro e w' ⟨rfl, rfl⟩
  exact ⟨E, _, _, _, rfl, ⟨rfl, [], List.Perm.refl _, fun i j x y _ h => by simp at h, rfl⟩, Evo.refl E w', by rw [set_same hb]; exact hs, .sc _ _⟩
 rcases hs.mem b _ hb with ⟨hnil, -⟩ | ⟨gb, T, cs, c, hblk, hh, hcs, hlc, hrows, hF⟩
 ·rw [List.map_eq_nil_iff] at hnil; subst hnil; simp at h0
 rw [List.length_map] at hlc
 obtain ⟨cap, rfl⟩ : ∃ cap, x = .slice (some ⟨gb, 0, none⟩) l.length cap := by
  clear hrest hx hxs hrows hl
  generalize l.length = nl at hr h0 hlc ⊢
  cases hr with
  | ms _ _ _ _ _ g' e' c' a cap hb' hl' h0' hc' =>
   rw [hblk] at hb'; cases hb'
   obtain ⟨rfl, -⟩ := h0' rfl
   exact ⟨cap, rfl⟩
  | msnil => exact absurd h0 (Nat.lt_irrefl _)
 have hgw : gb < w.heap.size := (Array.getElem?_eq_some_iff.1 hh).1
 obtain ⟨ss, hss⟩ : ∃ ss : List (List UInt8), ss = l.map fun a => a.data.toList := ⟨_, rfl⟩
 have hsl : ss.length = l.length := by rw [hss, List.length_map]
 have back : ∀ s : List UInt8, ((⟨s.toArray⟩ : ByteArray)).data.toList = s := fun s => rfl
 have hH : Go.Sort.Holds encStr w gb 0 ss.toArray := fun i hi => by
  have hi : i < l.length := by simpa [hsl] using hi
  refine ⟨?_, by simp [World.frozen?, hh]⟩
  obtain ⟨-, h2⟩ := hrows i (str l[i]) (by rw [List.getElem?_map, List.getElem?_eq_getElem hi]; rfl)
  obtain ⟨y, hy, -, hyr⟩ := h2 0 (str l[i]) rfl
  rw [rep_sc hyr] at hy
  rw [cell_at hh]
  have e1 : ss.toArray[i]! = l[i].data.toList := by
   rw [getElem!_pos ss.toArray i (by simpa [hsl] using hi)]
   simp [hss]
  rw [e1, Nat.zero_add]
  have hy : cs[i * 1 + 0]? = some (.string l[i]) := hy
  rw [Nat.mul_one, Nat.add_zero] at hy
  rw [hy]
 have call := Go.Proofs.AnyM.slices_Sort_string sort42 gb 0 cap ss w hH hgw (by omega)
 rw [hsl] at call
 refine call.mono ?_
 rintro e w' ⟨rfl, n, os, rfl⟩
 obtain ⟨d', hd'⟩ : ∃ d', d' = ss.mergeSort fun x y => decide (x ≤ y) := ⟨_, rfl⟩
 rw [← hd']
 have hperm : d'.Perm ss := by rw [hd']; exact List.mergeSort_perm _ _
 have hdl : d'.length = l.length := hperm.length_eq.trans hsl
 obtain ⟨l', hl'⟩ : ∃ l' : List ByteArray, l' = d'.map fun s => ⟨s.toArray⟩ := ⟨_, rfl⟩
 have hll : l'.length = l.length := by rw [hl', List.length_map, hdl]
 have hheap : (Go.Sort.grow (Go.Sort.putRow encStr (Go.Sort.ahead w n) gb 0 d'.toArray) os).heap[gb]? = some (.cells (Go.Sort.putCells encStr 0 d'.toArray cs) T (0, 0)) := by
  show (_ ++ os)[gb]? = _
  rw [Array.getElem?_append_left (by simpa [Go.Sort.putRow, Go.Sort.mapBlock, Go.Sort.ahead] using hgw)]
  show ((w.heap.modify gb _))[gb]? = _
  rw [Array.getElem?_modify, if_pos rfl, hh]; rfl
 obtain ⟨h1, h2⟩ := hs.repl (w' := Go.Sort.grow (Go.Sort.putRow encStr (Go.Sort.ahead w n) gb 0 d'.toArray) os) (rs' := l'.map str) hb hblk hF rfl rfl rfl (by
   show _ ≤ (_ ++ os).size
   rw [Array.size_append]
   show _ ≤ (w.heap.modify gb _).size + _
   rw [Array.size_modify]; omega) hheap (fun k hk hne => by
   show (_ ++ os)[k]? = _
   rw [Array.getElem?_append_left (by simpa [Go.Sort.putRow, Go.Sort.mapBlock, Go.Sort.ahead] using hk)]
   show ((w.heap.modify gb _))[k]? = _
   rw [Array.getElem?_modify, if_neg (fun e => hne e.symm)]) (by simp [Go.Sort.putCells, hcs]) (by simp [hll]; exact hlc) (fun i row hi => by
   rw [List.getElem?_map, Option.map_eq_some_iff] at hi
   obtain ⟨u, hu, rfl⟩ := hi
   have hid : i < l.length := by rw [← hll]; exact (List.getElem?_eq_some_iff.1 hu).1
   rw [hl', List.getElem?_map, Option.map_eq_some_iff] at hu
   obtain ⟨s, hs1, rfl⟩ := hu
   refine ⟨rfl, fun j cc hj => ?_⟩
   match j, hj with
   | 0, hj =>
    cases hj
    refine ⟨encStr s, ?_, rfl, .sc _ _⟩
    show (Go.Sort.putCells encStr 0 d'.toArray cs)[i * 1 + 0]? = _
    rw [Nat.mul_one, Nat.add_zero]
    have hlt : i < cs.size := by rw [hcs]; omega
    unfold Go.Sort.putCells
    rw [Array.getElem?_mapIdx, Array.getElem?_eq_getElem hlt, Option.map_some, if_pos ⟨Nat.zero_le _, by simp [hdl]; exact hid⟩, Nat.sub_zero]
    have : d'.toArray[i]! = s := by
     rw [getElem!_pos d'.toArray i (by simp [hdl]; exact hid)]
     have := (List.getElem?_eq_some_iff.1 hs1).2
     simpa using this
    rw [this]
   | j + 1, hj => simp [V.cells] at hj)
 refine ⟨E, _, _, _, rfl, ⟨rfl, l', ?_, ?_, rfl⟩, h2, h1, .sc _ _⟩
 ·have e2 : l = ss.map fun s => (⟨s.toArray⟩ : ByteArray) := by
   rw [hss, List.map_map]
   have : (fun s : List UInt8 => (⟨s.toArray⟩ : ByteArray)) ∘ (fun a : ByteArray => a.data.toList) = id := by funext a; cases a; rfl
   rw [this, List.map_id]
  rw [hl', e2]
  exact hperm.map _
 ·intro i j x y hij hxi hyj
  rw [hl', List.getElem?_map, Option.map_eq_some_iff] at hxi hyj
  obtain ⟨s, hs1, rfl⟩ := hxi
  obtain ⟨t, ht1, rfl⟩ := hyj
  have hsort : d'.Pairwise fun x y => decide (x ≤ y) = true := by
   rw [hd']
   exact List.pairwise_mergeSort (le := fun x y => decide (x ≤ y)) (fun a b c h1 h2 => by
    have h1 := of_decide_eq_true h1
    have h2 := of_decide_eq_true h2
    exact decide_eq_true (List.le_trans h1 h2)) (fun a b => by
    rcases List.le_total a b with h | h
    ·simp [h]
    ·simp [h]) ss
  have hi := (List.getElem?_eq_some_iff.1 hs1)
  have hj := (List.getElem?_eq_some_iff.1 ht1)
  obtain ⟨hi1, rfl⟩ := hi
  obtain ⟨hj1, rfl⟩ := hj
  have := of_decide_eq_true (List.pairwise_iff_getElem.1 hsort i j hi1 hj1 hij)
  rw [ltS_eq]
  exact decide_eq_false (List.not_lt.2 this)
end Go.Proofs.YtpjdfcigadnhcaaGreatDoor
end

section
namespace Go.Proofs.YtpjdfcigadnhcaaGreatDoor
open Go.Eng
open Nat (reduceAdd reduceLT reduceLeDiff reduceMul reduceEqDiff reduceSub)
variable [Glob]
set_option maxHeartbeats 4000000
set_option maxRecDepth 100000
theorem mentL_ok (t : Ty) (ht : t.size ≤ 1048576) : FnOkL Tryz.prog 39 [encTy t] 2 ((gathT ltU usOf t).map encU) := by
 refine ⟨(gathT ltU usOf t).length, ?_⟩
 rw [List.length_map]
 refine FnOkS.pick (k := 7) (mem' := [.box (tyCells t), .map (useMap t).1.1 (useMap t).1.2, .box [.mp 1], .box (tyCells t), .dead, .box [.mp 1], .box [.ms 7 (gathT ltU usOf t).length 0 (gathT ltU usOf t).length], .rows (gathT ltU usOf t).length 2 ((gathT ltU usOf t).map encU)]) ?_ rfl
 have hvl := useMap_length t
 have h51 := fun B0 B1 B2 h => types_ok t [B0, B1, B2] h
 refine fns_ok tt_ok (fn := Tryz.f39) 8 (Nat.zero_le _) Tryz.func39 rfl Tryz.call39 ?_
 simp only [ltb,startSt,Tryz.ntmps39,List.length_cons,List.length_nil,reduceAdd,reduceSub,List.replicate_succ,List.replicate_zero]
 rw [encTy_eq] at h51 ⊢
 simp only [tyCells] at h51 ⊢
 refine tri_seq_region tt_ok fun K hK => ?_
 simp only [go_sem,reduceIte,reduceAdd,reduceLT,reduceLeDiff,reduceMul,reduceEqDiff,reduceSub,reduceCtorEq]
 refine hK _ ?_
 refine tri_seq_region tt_ok fun K hK => ?_
 simp only [go_sem,reduceIte,reduceAdd,reduceLT,reduceLeDiff,reduceMul,reduceEqDiff,reduceSub,reduceCtorEq]
 refine hK _ ?_
 refine tri_seq ?_
 refine tri_seq_region tt_ok fun K hK => ?_
 simp only [go_sem,reduceIte,reduceAdd,reduceLT,reduceLeDiff,reduceMul,reduceEqDiff,reduceSub,reduceCtorEq]
 refine .inr <| .inl ⟨_, _, h51 _ _ _ rfl, ?_⟩
 try simp only [go_sem,reduceIte,reduceAdd,reduceLT,reduceLeDiff,reduceMul,reduceEqDiff,reduceSub,reduceCtorEq]
 refine hK _ ?_
 refine tri_block (triP_types (t := t) (B := 1048576) (fun s : { s // UGood s } => [.box (tyCells t), .map s.1.1 s.1.2, .box [.mp 1], .box (tyCells t)]) ⟨([], 0), UGood.nil⟩ 4 3 rfl (fun _ => rfl) (by omega) (fun _ => rfl) (fun s => ?_) rfl rfl rfl (fun s u => (stepU s u, none)) (by omega) ht (fun _ => True) (fun _ _ => trivial) ?_ ?_)
 ·show (true && ((s.1.1.all fun e => belowV 5 e.2.2) && (true && (true && true)))) = true
  rw [s.2.below 5]; rfl
 ·intro s u hu hn l LR LB hLR hLB
  obtain ⟨hi, -, -⟩ := insU_ok s (u.mod, u.name)
  have hins := fun B0 B2 B3 B4 B5 => insertV_us (mem := [B0, .map s.1.1 s.1.2, B2, B3, B4, B5]) (b := 1) (u.mod, u.name) hi rfl
  rw [encTy_eq]
  simp only [ltb,setPs,tyCells,List.set_cons_succ,List.set_cons_zero]
  refine tri_last_region tt_ok fun K hK => ?_
  simp only [go_sem,reduceIte,reduceAdd,reduceLT,reduceLeDiff,reduceMul,reduceEqDiff,reduceSub,reduceCtorEq]
  refine hK _ ?_
  refine ⟨rfl, rfl, tri_block ?_⟩
  simp only [List.set_cons_succ,List.set_cons_zero]
  cases h9 : decide (u.kind = 10) with
  | true =>
   have e0 : stepU s u = insU s (u.mod, u.name) := by unfold stepU; rw [if_pos h9]
   rw [e0]
   refine tri_seq_region tt_ok fun K hK => ?_
   simp only [h9,go_sem,reduceIte,reduceAdd,reduceLT,reduceLeDiff,reduceMul,reduceEqDiff,reduceSub,reduceCtorEq]
   refine hK _ ?_
   refine tri_cond rfl ?_
   refine tri_last_region tt_ok fun K hK => ?_
   simp only [hins,go_sem,reduceIte,reduceAdd,reduceLT,reduceLeDiff,reduceMul,reduceEqDiff,reduceSub,reduceCtorEq]
   refine hK _ ?_
   exact ⟨rfl, rfl, rfl⟩
  | false =>
   have e0 : stepU s u = s := by unfold stepU; rw [h9]; rfl
   rw [e0]
   refine tri_seq_region tt_ok fun K hK => ?_
   simp only [h9,go_sem,reduceIte,reduceAdd,reduceLT,reduceLeDiff,reduceMul,reduceEqDiff,reduceSub,reduceCtorEq]
   refine hK _ ?_
   refine tri_cond rfl (tri_skip ?_)
   exact ⟨rfl, rfl, rfl⟩
 ·rw [stepJ_pure]
  have ev : t.nodes.foldl stepU ⟨([], 0), UGood.nil⟩ = useMap t := rfl
  rw [ev]
  have hmem : ∀ x, x ∈ gathT ltU usOf t ↔ x ∈ (useMap t).1.1.map keyU := fun x => by rw [gathT_mem, useMap_mem]
  obtain ⟨s, hs⟩ : ∃ s, s = useMap t := ⟨_, rfl⟩
  rw [← hs] at hvl hmem ⊢
  show Tri _ _ _ _ _ _
  have h82 := ukeys_ok [.box (tyCells t), .map s.1.1 s.1.2, .box [.mp 1], .box (tyCells t), .dead] 1 (by simp) (by
   show (true && ((s.1.1.all fun e => belowV 6 e.2.2) && (true && (true && (true && true))))) = true
   rw [s.2.below 6]; rfl)
  have h81 := usort_ok ([.box (tyCells t), .map s.1.1 s.1.2, .box [.mp 1], .box (tyCells t), .dead] ++ [.box [.mp 1]]) 5 1 rfl rfl s.2 (Nat.le_trans hvl ht) (by
   show (true && ((s.1.1.all fun e => belowV 6 e.2.2) && (true && (true && (true && (true && true)))))) = true
   rw [s.2.below 6]; rfl) (gathT ltU usOf t) (gathT_asc lin_us usOf_len t) hmem
  simp only [ltb,tyCells,List.length_cons,List.length_nil,reduceAdd] at h82 h81
  refine tri_seq_region tt_ok fun K hK => ?_
  simp only [go_sem,reduceIte,reduceAdd,reduceLT,reduceLeDiff,reduceMul,reduceEqDiff,reduceSub,reduceCtorEq]
  refine .inr <| .inl ⟨_, _, h82, ?_⟩
  try simp only [go_sem,reduceIte,reduceAdd,reduceLT,reduceLeDiff,reduceMul,reduceEqDiff,reduceSub,reduceCtorEq]
  refine .inr <| .inl ⟨_, _, h81, ?_⟩
  try simp only [go_sem,reduceIte,reduceAdd,reduceLT,reduceLeDiff,reduceMul,reduceEqDiff,reduceSub,reduceCtorEq]
  refine hK _ ?_
  refine tri_ret ⟨.inl rfl, rfl, rfl, ?_, ?_⟩
  ·show (true && ((s.1.1.all fun e => belowV 8 e.2.2) && (true && (true && (true && (true && (true && (true && true)))))))) = true
   rw [s.2.below 8]; rfl
  ·rfl
end Go.Proofs.YtpjdfcigadnhcaaGreatDoor
end
