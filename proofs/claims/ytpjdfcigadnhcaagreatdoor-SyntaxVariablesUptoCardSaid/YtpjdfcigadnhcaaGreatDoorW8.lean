/-
  MAPS OF NAMES: what the set of a type's variables comes to.
  CONTRACTS: the library's contracts on slices.Sorted over the keys of a map, laid at this program (the layings' tables by the kit's lay-plain).
  CONTRACTS: slices.Sorted at the keys of a map, by the kit's contract.
  CONTRACTS: Free of the program: the names of a type's variables, in their order.
  CONTRACTS: fewTypes.
  CONTRACTS: EqualTypes of the program.
  THE LAW SyntaxComposes itself.
  CONTRACTS: the reference's EqualTypeLists and EqualTypes.
  THE LAW SyntaxVariables itself.
  THE LAW SyntaxVariables, A: what it does at every argument of the bound, in every world of the shape.
  CLOSING, B: a world for the witness.
-/
import Derived.Test.YtpjdfcigadnhcaaGreatDoorW7
import Derived.Sort.KeysCollected
import Derived.Shelf.SlIter.Nil
import Derived.Shelf.SortM.Plain
import Derived.Shelf.SortM.SortNone
import Derived.Ground.GgzProg
import Derived.Ground.SlgmProg
import Derived.Test.YtpjdfcigadnhcaaGreatDoorProg
import Derived.Test.YtpjdfcigadnhcaaGreatDoorCards
import Derived.Test.YtpjdfcigadnhcaaGreatDoorTie
import Derived.Lib.LaidTab
set_option linter.all false
section
namespace Go.Proofs.YtpjdfcigadnhcaaGreatDoor
open Go.Eng
variable [Glob]
def NGood (s : List (Value × Nat × V) × Nat) : Prop :=
 (∀ e ∈ s.1, (∃ a : ByteArray, e.1 = .string a ∧ a.size ≤ 1048576) ∧ e.2.2 = bl true ∧ e.2.1 < s.2) ∧ (s.1.map fun e => e.2.1).Nodup ∧ (s.1.map fun e => e.1).Nodup
theorem NGood.nil : NGood ([], 0) := ⟨fun e he => by simp at he, by simp, by simp⟩
theorem NGood.below {s : List (Value × Nat × V) × Nat} (h : NGood s) (n : Nat) : (s.1.all fun e => belowV n e.2.2) = true := List.all_eq_true.2 fun e he => by
 rw [(h.1 e he).2.1]; rfl
theorem keyN : ∃ et, KeyT Tryz.prog 96 9 et isStrK := ⟨4, keyT_str (by kernel_rfl) (by kernel_rfl)⟩
theorem NGood.ins {s : List (Value × Nat × V) × Nat} (h : NGood s) (n : ByteArray) (hn : n.size ≤ 1048576) : ∃ s', NGood s' ∧ insertAt Tryz.prog 9 (.string n) (bl true) s.1 s.2 = some s' ∧
  (∀ k, (∃ e ∈ s'.1, e.1 = .string k) ↔ k = n ∨ ∃ e ∈ s.1, e.1 = .string k) ∧ s'.1.length ≤ s.1.length + 1 := by
 obtain ⟨et, hK⟩ := keyN
 obtain ⟨h1, h2, h3⟩ := h
 rcases insert_at (cl := s.2) hK (k := .string n) ⟨n, rfl⟩ (fun e he => let ⟨a, ha, _⟩ := (h1 e he).1; ⟨a, ha⟩) (bl true) with ⟨hi, hno⟩ | ⟨i, e, he, hk, hi⟩
 ·refine ⟨_, ⟨fun e he => ?_, ?_, ?_⟩, hi, fun k => ?_, by simp⟩
  ·rcases List.mem_append.1 he with he | he
   ·obtain ⟨p1, p2, p3⟩ := h1 e he
    exact ⟨p1, p2, Nat.lt_succ_of_lt p3⟩
   ·rw [List.mem_singleton] at he; subst he
    exact ⟨⟨n, rfl, hn⟩, rfl, Nat.lt_succ_self _⟩
  ·simp only [List.map_append,List.map_cons,List.map_nil]
   rw [List.nodup_append]
   refine ⟨h2, by simp, fun a ha b hb => ?_⟩
   rw [List.mem_singleton] at hb; subst hb
   obtain ⟨e, he, rfl⟩ := List.mem_map.1 ha
   exact Nat.ne_of_lt (h1 e he).2.2
  ·simp only [List.map_append,List.map_cons,List.map_nil]
   rw [List.nodup_append]
   refine ⟨h3, by simp, fun a ha b hb => ?_⟩
   rw [List.mem_singleton] at hb; subst hb
   obtain ⟨e, he, rfl⟩ := List.mem_map.1 ha
   exact hno e he
  ·constructor
   ·rintro ⟨e, he, hk⟩
    rcases List.mem_append.1 he with he | he
    ·exact .inr ⟨e, he, hk⟩
    ·rw [List.mem_singleton] at he; subst he
     cases hk; exact .inl rfl
   ·rintro (rfl | ⟨e, he, hk⟩)
    ·exact ⟨_, List.mem_append_right _ (List.mem_singleton.2 rfl), rfl⟩
    ·exact ⟨e, List.mem_append_left _ he, hk⟩
 ·have hlt := (List.getElem?_eq_some_iff.1 he).1
  have hm := List.mem_of_getElem? he
  have q : ∀ {β : Type} (f : Value × Nat × V → β), f (.string n, e.2.1, bl true) = f e → (s.1.set i (.string n, e.2.1, bl true)).map f = s.1.map f := fun f hf => by
   rw [List.map_set, hf]
   apply List.ext_getElem?
   intro j
   rw [List.getElem?_set]
   split
   ·rename_i hij; subst hij
    rw [if_pos (by simpa using hlt), List.getElem?_map, he]; rfl
   ·rfl
  refine ⟨_, ⟨fun e' he' => ?_, ?_, ?_⟩, hi, fun k => ?_, by simp⟩
  ·rcases List.mem_or_eq_of_mem_set he' with he' | rfl
   ·exact h1 e' he'
   ·exact ⟨⟨n, rfl, hn⟩, rfl, (h1 e hm).2.2⟩
  ·have := q (fun e => e.2.1) rfl
   dsimp only at this ⊢
   rw [this]; exact h2
  ·have := q (fun e => e.1) hk.symm
   dsimp only at this ⊢
   rw [this]; exact h3
  ·have q1 := q (fun e => e.1) hk.symm
   have q2 : ∀ l : List (Value × Nat × V), (∃ e ∈ l, e.1 = .string k) ↔ Value.string k ∈ l.map fun e => e.1 := fun l => by simp [List.mem_map, eq_comm]
   rw [q2, q1, ← q2]
   constructor
   ·exact .inr
   ·rintro (rfl | h)
    ·exact ⟨e, hm, hk⟩
    ·exact h
open Classical in
noncomputable def insN (s : { s // NGood s }) (n : ByteArray) : { s // NGood s } := if h : n.size ≤ 1048576 then ⟨Classical.choose (s.2.ins n h), (Classical.choose_spec (s.2.ins n h)).1⟩ else s
theorem insN_ok (s : { s // NGood s }) (n : ByteArray) (hn : n.size ≤ 1048576) : insertAt Tryz.prog 9 (.string n) (bl true) s.1.1 s.1.2 = some (insN s n).1 ∧
  (∀ k, (∃ e ∈ (insN s n).1.1, e.1 = .string k) ↔ k = n ∨ ∃ e ∈ s.1.1, e.1 = .string k) ∧ (insN s n).1.1.length ≤ s.1.1.length + 1 := by
 unfold insN
 rw [dif_pos hn]
 exact (Classical.choose_spec (s.2.ins n hn)).2
noncomputable def stepN (s : { s // NGood s }) (u : Ty) : { s // NGood s } := if decide (u.kind = 9) = true then insN s u.name else s
theorem stepN_fold : ∀ (l : List Ty) (s : { s // NGood s }), (∀ u ∈ l, u.name.size ≤ 1048576) →
  (∀ k, (∃ e ∈ (l.foldl stepN s).1.1, e.1 = .string k) ↔ (∃ u ∈ l, u.kind = 9 ∧ u.name = k) ∨ ∃ e ∈ s.1.1, e.1 = .string k) ∧ (l.foldl stepN s).1.1.length ≤ s.1.1.length + l.length
 | [], s, _ => ⟨fun k => by simp, by simp⟩
 | u :: r, s, h => by
  obtain ⟨h1, h2⟩ := stepN_fold r (stepN s u) fun v hv => h v (List.mem_cons_of_mem _ hv)
  rw [List.foldl_cons]
  by_cases h9 : u.kind = 9
  ·have e0 : stepN s u = insN s u.name := by unfold stepN; rw [if_pos (decide_eq_true h9)]
   obtain ⟨-, h3, h4⟩ := insN_ok s u.name (h u (List.mem_cons_self ..))
   rw [e0] at h1 h2 ⊢
   refine ⟨fun k => ?_, by rw [List.length_cons]; omega⟩
   rw [h1 k, h3 k]
   constructor
   ·rintro (⟨v, hv, hv9, hvk⟩ | rfl | he)
    ·exact .inl ⟨v, List.mem_cons_of_mem _ hv, hv9, hvk⟩
    ·exact .inl ⟨u, List.mem_cons_self .., h9, rfl⟩
    ·exact .inr he
   ·rintro (⟨v, hv, hv9, hvk⟩ | he)
    ·rcases List.mem_cons.1 hv with rfl | hv
     ·exact .inr (.inl hvk.symm)
     ·exact .inl ⟨v, hv, hv9, hvk⟩
    ·exact .inr (.inr he)
  ·have e0 : stepN s u = s := by unfold stepN; rw [if_neg (by simpa using h9)]
   rw [e0] at h1 h2 ⊢
   refine ⟨fun k => ?_, by rw [List.length_cons]; omega⟩
   rw [h1 k]
   constructor
   ·rintro (⟨v, hv, hv9, hvk⟩ | he)
    ·exact .inl ⟨v, List.mem_cons_of_mem _ hv, hv9, hvk⟩
    ·exact .inr he
   ·rintro (⟨v, hv, hv9, hvk⟩ | he)
    ·rcases List.mem_cons.1 hv with rfl | hv
     ·exact absurd hv9 h9
     ·exact .inl ⟨v, hv, hv9, hvk⟩
    ·exact .inr he
noncomputable def varMap (t : Ty) : { s // NGood s } := t.nodes.foldl stepN ⟨([], 0), NGood.nil⟩
theorem varMap_keys (t : Ty) (h : ∀ u ∈ t.nodes, u.name.size ≤ 1048576) (k : ByteArray) : (∃ e ∈ (varMap t).1.1, e.1 = .string k) ↔ k ∈ t.vars := by
 rw [varMap, (stepN_fold t.nodes _ h).1 k]
 unfold Ty.vars
 constructor
 ·rintro (⟨u, hu, h9, rfl⟩ | ⟨e, he, -⟩)
  ·exact List.mem_map.2 ⟨u, List.mem_filter.2 ⟨hu, decide_eq_true h9⟩, rfl⟩
  ·simp at he
 ·intro hk
  obtain ⟨u, hu, rfl⟩ := List.mem_map.1 hk
  obtain ⟨h1, h2⟩ := List.mem_filter.1 hu
  exact .inl ⟨u, h1, of_decide_eq_true h2, rfl⟩
theorem varMap_length (t : Ty) (h : ∀ u ∈ t.nodes, u.name.size ≤ 1048576) : (varMap t).1.1.length ≤ t.size := by
 have := (stepN_fold t.nodes ⟨([], 0), NGood.nil⟩ h).2
 rw [Ty.nodes_length _ t (Nat.le_refl _)] at this
 simpa [varMap] using this
def keyB (e : Value × Nat × V) : List UInt8 := match e.1 with
 | .string a => a.data.toList
 | _ => []
def sortedN (s : List (Value × Nat × V)) : List ByteArray := ((s.map keyB).mergeSort leB).map fun l => (⟨l.toArray⟩ : ByteArray)
theorem sortedN_mem {s : List (Value × Nat × V) × Nat} (h : NGood s) (k : ByteArray) : k ∈ sortedN s.1 ↔ ∃ e ∈ s.1, e.1 = .string k := by
 unfold sortedN
 rw [List.mem_map]
 constructor
 ·rintro ⟨l, hl, rfl⟩
  rw [List.mem_mergeSort] at hl
  obtain ⟨e, he, rfl⟩ := List.mem_map.1 hl
  obtain ⟨⟨a, ha, -⟩, -, -⟩ := h.1 e he
  refine ⟨e, he, ?_⟩
  rw [ha]; unfold keyB; rw [ha]
 ·rintro ⟨e, he, hk⟩
  refine ⟨k.data.toList, ?_, by cases k; rfl⟩
  rw [List.mem_mergeSort]
  exact List.mem_map.2 ⟨e, he, by unfold keyB; rw [hk]⟩
end Go.Proofs.YtpjdfcigadnhcaaGreatDoor
end

section
namespace Go.Proofs.YtpjdfcigadnhcaaGreatDoor
open Go.RowKit Go.Maps Go.Sort Go.Shelf
def keys67_ren : Go.Shelf.Ren := ⟨fun | 7 => 67 | 10 => 107 | n => n, fun | 23 => 96 | 26 => 9 | 3 => 4 | 28 => 99 | 0 => 0 | 27 => 98 | 33 => 56 | 4 => 4 | n => n, fun | n => n⟩
theorem keys67 : Go.Proofs.SlLaysZ.n7 Tryz.prog keys67_ren := {
  mixed := by kernel_rfl
  f7 := ⟨Tryz.f67.name, by decide, Tryz.func67.trans (congrArg some (by kernel_rfl))⟩
  f10 := ⟨Tryz.f107.name, by decide, Tryz.func107.trans (congrArg some (by kernel_rfl))⟩
  t0 := Tryz.underlying0
  a0 := Tryz.isAgg0
  z0 := Tryz.sizeOf0
  v0 := Tryz.zeroValue0
  t4 := Tryz.underlying4
  a4 := Tryz.isAgg4
  z4 := Tryz.sizeOf4
  v4 := Tryz.zeroValue4
  t23 := Tryz.underlying96
  a23 := Tryz.isAgg96
  z23 := Tryz.sizeOf96
  v23 := Tryz.zeroValue96
  t26 := Tryz.underlying9
  a26 := Tryz.isAgg9
  z26 := Tryz.sizeOf9
  v26 := Tryz.zeroValue9
  t27 := Tryz.underlying98
  a27 := Tryz.isAgg98
  z27 := Tryz.sizeOf98
  v27 := Tryz.zeroValue98
  t28 := Tryz.underlying99
  a28 := Tryz.isAgg99
  z28 := Tryz.sizeOf99
  v28 := Tryz.zeroValue99
  t33 := Tryz.underlying56
  a33 := Tryz.isAgg56
  z33 := Tryz.sizeOf56
  v33 := Tryz.zeroValue56 }
def sorted66_ren : Go.Shelf.Ren := ⟨fun | 6 => 66 | 8 => 106 | 9 => 42 | 11 => 159 | 13 => 89 | 12 => 88 | 23 => 136 | 24 => 137 | 14 => 127 | 15 => 128 | 16 => 129 | 17 => 130 | 18 => 131 | 19 => 132 | 20 => 133 | 21 => 134 | 22 => 135 | 25 => 175 | 26 => 176 | 27 => 177 | 28 => 178 | 29 => 179 | 30 => 125 | 31 => 196 | n => n, fun | 26 => 9 | 28 => 99 | 24 => 46 | 0 => 0 | 3 => 3 | 37 => 125 | 48 => 160 | 50 => 162 | 4 => 4 | 40 => 152 | 39 => 151 | 45 => 157 | 5 => 5 | 9 => 9 | 51 => 180 | 55 => 184 | 57 => 194 | 58 => 195 | 33 => 56 | n => n, fun | n => n⟩
theorem sorted66 : Go.Proofs.SlLaysZ.n6 Tryz.prog sorted66_ren := {
  mixed := by kernel_rfl
  f6 := ⟨Tryz.f66.name, by decide, Tryz.func66.trans (congrArg some (by kernel_rfl))⟩
  f8 := ⟨Tryz.f106.name, by decide, Tryz.func106.trans (congrArg some (by kernel_rfl))⟩
  f11 := ⟨Tryz.f159.name, by decide, Tryz.func159.trans (congrArg some (by kernel_rfl))⟩
  t0 := Tryz.underlying0
  a0 := Tryz.isAgg0
  z0 := Tryz.sizeOf0
  v0 := Tryz.zeroValue0
  t24 := Tryz.underlying46
  a24 := Tryz.isAgg46
  z24 := Tryz.sizeOf46
  v24 := Tryz.zeroValue46
  t26 := Tryz.underlying9
  a26 := Tryz.isAgg9
  z26 := Tryz.sizeOf9
  v26 := Tryz.zeroValue9
  t28 := Tryz.underlying99
  a28 := Tryz.isAgg99
  z28 := Tryz.sizeOf99
  v28 := Tryz.zeroValue99
  i26 := by kernel_rfl }
def sort42_ren : Go.Shelf.Ren := ⟨fun | 6 => 42 | 8 => 89 | 9 => 88 | 19 => 136 | 20 => 137 | 21 => 127 | 22 => 128 | 23 => 129 | 24 => 130 | 25 => 131 | 26 => 132 | 27 => 133 | 28 => 134 | 29 => 135 | 36 => 175 | 31 => 176 | 32 => 177 | 37 => 178 | 38 => 179 | 39 => 125 | 41 => 196 | n => n, fun | 27 => 46 | 29 => 9 | 3 => 3 | 32 => 125 | 26 => 46 | 0 => 0 | 44 => 160 | 46 => 162 | 4 => 4 | 36 => 152 | 35 => 151 | 41 => 157 | 5 => 5 | 9 => 9 | 53 => 180 | 57 => 184 | 63 => 194 | 64 => 195 | n => n, fun | n => n⟩
theorem sort42 : Go.Proofs.SlLaysM.n6 Tryz.prog sort42_ren := {
  mixed := by kernel_rfl
  f6 := ⟨Tryz.f42.name, by decide, Tryz.func42.trans (congrArg some (by kernel_rfl))⟩
  f8 := Tryz.func89.trans (congrArg some (by kernel_rfl))
  f9 := ⟨Tryz.f88.name, by decide, Tryz.func88.trans (congrArg some (by kernel_rfl))⟩
  f19 := Tryz.func136.trans (congrArg some (by kernel_rfl))
  f20 := Tryz.func137.trans (congrArg some (by kernel_rfl))
  f21 := ⟨Tryz.f127.name, by decide, Tryz.func127.trans (congrArg some (by kernel_rfl))⟩
  f22 := ⟨Tryz.f128.name, by decide, Tryz.func128.trans (congrArg some (by kernel_rfl))⟩
  f23 := ⟨Tryz.f129.name, by decide, Tryz.func129.trans (congrArg some (by kernel_rfl))⟩
  f24 := ⟨Tryz.f130.name, by decide, Tryz.func130.trans (congrArg some (by kernel_rfl))⟩
  f25 := ⟨Tryz.f131.name, by decide, Tryz.func131.trans (congrArg some (by kernel_rfl))⟩
  f26 := ⟨Tryz.f132.name, by decide, Tryz.func132.trans (congrArg some (by kernel_rfl))⟩
  f27 := ⟨Tryz.f133.name, by decide, Tryz.func133.trans (congrArg some (by kernel_rfl))⟩
  f28 := ⟨Tryz.f134.name, by decide, Tryz.func134.trans (congrArg some (by kernel_rfl))⟩
  f29 := ⟨Tryz.f135.name, by decide, Tryz.func135.trans (congrArg some (by kernel_rfl))⟩
  f31 := Tryz.func176.trans (congrArg some (by kernel_rfl))
  f32 := Tryz.func177.trans (congrArg some (by kernel_rfl))
  f36 := ⟨Tryz.f175.name, by decide, Tryz.func175.trans (congrArg some (by kernel_rfl))⟩
  f37 := ⟨Tryz.f178.name, by decide, Tryz.func178.trans (congrArg some (by kernel_rfl))⟩
  f38 := ⟨Tryz.f179.name, by decide, Tryz.func179.trans (congrArg some (by kernel_rfl))⟩
  f39 := ⟨Tryz.f125.name, by decide, Tryz.func125.trans (congrArg some (by kernel_rfl))⟩
  f41 := ⟨Tryz.f196.name, by decide, Tryz.func196.trans (congrArg some (by kernel_rfl))⟩
  t0 := Tryz.underlying0
  a0 := Tryz.isAgg0
  z0 := Tryz.sizeOf0
  v0 := Tryz.zeroValue0
  t3 := Tryz.underlying3
  a3 := Tryz.isAgg3
  z3 := Tryz.sizeOf3
  v3 := Tryz.zeroValue3
  t4 := Tryz.underlying4
  a4 := Tryz.isAgg4
  z4 := Tryz.sizeOf4
  v4 := Tryz.zeroValue4
  t5 := Tryz.underlying5
  a5 := Tryz.isAgg5
  z5 := Tryz.sizeOf5
  v5 := Tryz.zeroValue5
  t9 := Tryz.underlying9
  a9 := Tryz.isAgg9
  z9 := Tryz.sizeOf9
  v9 := Tryz.zeroValue9
  t26 := Tryz.underlying46
  a26 := Tryz.isAgg46
  z26 := Tryz.sizeOf46
  v26 := Tryz.zeroValue46
  t27 := Tryz.underlying46
  a27 := Tryz.isAgg46
  z27 := Tryz.sizeOf46
  v27 := Tryz.zeroValue46
  t29 := Tryz.underlying9
  a29 := Tryz.isAgg9
  z29 := Tryz.sizeOf9
  v29 := Tryz.zeroValue9
  t32 := Tryz.underlying125
  a32 := Tryz.isAgg125
  z32 := Tryz.sizeOf125
  v32 := Tryz.zeroValue125
  t35 := Tryz.underlying151
  a35 := Tryz.isAgg151
  z35 := Tryz.sizeOf151
  v35 := Tryz.zeroValue151
  t36 := Tryz.underlying152
  a36 := Tryz.isAgg152
  z36 := Tryz.sizeOf152
  v36 := Tryz.zeroValue152
  t41 := Tryz.underlying157
  a41 := Tryz.isAgg157
  z41 := Tryz.sizeOf157
  v41 := Tryz.zeroValue157
  t44 := Tryz.underlying160
  a44 := Tryz.isAgg160
  z44 := Tryz.sizeOf160
  v44 := Tryz.zeroValue160
  t46 := Tryz.underlying162
  a46 := Tryz.isAgg162
  z46 := Tryz.sizeOf162
  v46 := Tryz.zeroValue162
  t53 := Tryz.underlying180
  a53 := Tryz.isAgg180
  z53 := Tryz.sizeOf180
  v53 := Tryz.zeroValue180
  t57 := Tryz.underlying184
  a57 := Tryz.isAgg184
  z57 := Tryz.sizeOf184
  v57 := Tryz.zeroValue184
  t63 := Tryz.underlying194
  a63 := Tryz.isAgg194
  z63 := Tryz.sizeOf194
  v63 := Tryz.zeroValue194
  t64 := Tryz.underlying195
  a64 := Tryz.isAgg195
  z64 := Tryz.sizeOf195
  v64 := Tryz.zeroValue195 }
theorem sorts66 (m : Nat) : Go.Proofs.AnyZ.SortsIn Tryz.prog sorted66_ren Fence.wide m :=
  ⟨fun blk off cap ss W hH hblk hsz => callsIn_wide.2 (Go.Proofs.AnyM.slices_Sort_string sort42 blk off cap ss W hH hblk hsz),
   fun p cap W => callsIn_wide.2 (Go.Proofs.AnyM.slices_Sort_string_none sort42 p cap W)⟩
end Go.Proofs.YtpjdfcigadnhcaaGreatDoor
end

section
namespace Go.Proofs.YtpjdfcigadnhcaaGreatDoor
open Go.Eng
open Go.RowKit (Below)
open Go.WideElems (Fit rd rg)
open Go.Proofs (encStr)
variable [Glob]
def readN : Value → Option (DataW Unit × List MemPlace) := fun _ => some (.nil, [])
theorem srt_ok (m : List Blk) (k kb : Nat) (s : List (Value × Nat × V) × Nat) (hg : NGood s) (hk : m[k]? = some (.box [.mp kb])) (hkb : m[kb]? = some (.map s.1 s.2)) (hl : s.1.length ≤ 1048576) :
  FnOkS Tryz.prog 66 [.clo (.func 107) [] [.ptr k 0]] m (.ms m.length 0 0 (sortedN s.1).length) (m ++ [.rows 0 1 ((sortedN s.1).map str)]) := by
 refine ⟨Tryz.call66, fun E w xs hs hx => ?_⟩
 obtain ⟨x, ys, hxs, hr, hrest⟩ := hx.of_cons
 have hys := hrest.of_nil
 subst hys
 obtain rfl : xs = #[x] := by cases xs; simp_all
 obtain ⟨g, e, c, rfl, hbk⟩ : ∃ g e c, x = .func (.func 107) #[] #[.pointer (some ⟨g, 0, none⟩)] ∧ E.blk k 0 = some (g, e, c) := by
  cases hr with
  | clo _ f first cap xs ys h1 h2 h3 h4 =>
   obtain rfl : xs = #[] := Array.eq_empty_of_size_eq_zero (by simpa using h1.symm)
   obtain ⟨y, rfl⟩ : ∃ y, ys = #[y] := by
    cases ys with
    | mk l =>
     match l, h2 with
     | [y], _ => exact ⟨y, rfl⟩
     | [], h2 => simp at h2
     | _ :: _ :: _, h2 => simp at h2
   have h5 := h4 0 (.ptr k 0) y rfl rfl
   cases h5 with
   | ptr _ _ _ g e c hb => exact ⟨g, e, c, rfl, hb⟩
 obtain ⟨g', T, bs, hb1, hh, hrl, -⟩ := hs.mem k _ hk
 rw [hbk] at hb1; cases hb1
 obtain ⟨y, zs, hy, hry, hrz⟩ := hrl.of_cons
 have hzs := hrz.of_nil
 subst hzs
 obtain ⟨gm, e2, c2, rfl, hbm⟩ := mp_inv hry
 obtain rfl : bs = #[.map (some gm)] := by cases bs; simp_all
 obtain ⟨gm', es, hb2, hh2, hrm, -⟩ := hs.mem kb _ hkb
 rw [hbm] at hb2; cases hb2
 have hu9 : Tryz.prog.underlying 9 = some .string := Tryz.underlying9
 have len : s.1.length = es.toList.length := hrm.1
 have pair : ∀ (i : Nat) (x : MapEntry), es.toList[i]? = some x → ∃ q, s.1[i]? = some q ∧ x.key = q.1 ∧ x.born = q.2.1 := fun i x hi => by
  obtain ⟨q, hq⟩ : ∃ q, s.1[i]? = some q := ⟨_, List.getElem?_eq_getElem (by rw [len]; exact (List.getElem?_eq_some_iff.1 hi).1)⟩
  obtain ⟨p1, p2, -⟩ := hrm.2 i q x hq hi
  exact ⟨q, hq, p1, p2⟩
 have hkeys : es.toList.map (·.key) = s.1.map (fun q => q.1) := by
  apply List.ext_getElem?
  intro i
  rw [List.getElem?_map, List.getElem?_map]
  cases hi : es.toList[i]? with
  | none => rw [List.getElem?_eq_none (by rw [len]; exact List.getElem?_eq_none_iff.1 hi)]; rfl
  | some x =>
   obtain ⟨q, hq, p1, -⟩ := pair i x hi
   rw [hq]; simp [p1]
 have hborn : es.toList.map (·.born) = s.1.map (fun q => q.2.1) := by
  apply List.ext_getElem?
  intro i
  rw [List.getElem?_map, List.getElem?_map]
  cases hi : es.toList[i]? with
  | none => rw [List.getElem?_eq_none (by rw [len]; exact List.getElem?_eq_none_iff.1 hi)]; rfl
  | some x =>
   obtain ⟨q, hq, -, p2⟩ := pair i x hi
   rw [hq]; simp [p2]
 have ent : ∀ x ∈ es.toList, ∃ a : ByteArray, x.key = .string a ∧ a.size ≤ 1048576 ∧ x.born < s.2 := fun x hx => by
  obtain ⟨i, hi⟩ := List.mem_iff_getElem?.1 hx
  obtain ⟨q, hq, p1, p2⟩ := pair i x hi
  obtain ⟨⟨a, ha, hs1⟩, -, hs2⟩ := hg.1 q (List.mem_of_getElem? hq)
  exact ⟨a, by rw [p1, ha], hs1, by rw [p2]; exact hs2⟩
 have hmaxv : (1048576 : Nat) ≤ maxLen := by decide
 have hrd : ∀ x ∈ es.toList, ∃ a : ByteArray, x.key = .string a ∧ rd Tryz.prog 9 readN x = some (.string a.data.toList, .nil) := fun x hx => by
  obtain ⟨a, ha, hsz, -⟩ := ent x hx
  refine ⟨a, ha, ?_⟩
  have : keyOf Tryz.prog 9 x.key = some (.string a.data.toList) := by
   unfold keyOf
   rw [hu9, ha]
   dsimp only
   unfold mapKey
   rw [hu9]
   dsimp only
   rw [if_pos (by omega)]
  unfold rd
  rw [this]; rfl
 have hF : Fit Tryz.prog 9 readN es s.2 := ⟨by rw [← Array.length_toList, ← len]; omega, ⟨fun x hx => (ent x hx).choose_spec.2.2, by rw [hborn]; exact hg.2.1, by rw [hkeys]; exact hg.2.2⟩, fun x hx => let ⟨_, _, h⟩ := hrd x hx; ⟨_, h⟩⟩
 obtain ⟨D0, hD0⟩ : ∃ D0 : DataW Unit, D0 = .map ((es.toList.map (rg Tryz.prog 9 readN)).foldr DataW.insert []) := ⟨_, rfl⟩
 have hown : w.ownsMap Tryz.prog 9 readN gm es.size D0 := ⟨es, s.2, hh2, hF, Nat.le_refl _, hD0⟩
 have hperm : (strKeys D0).Perm (s.1.map keyB) := by
  rw [hD0]
  simp only [strKeys]
  refine ((Go.WideShapes.sorted_perm _).map _).trans ?_
  rw [List.map_map]
  refine List.Perm.of_eq ?_
  apply List.ext_getElem?
  intro i
  rw [List.getElem?_map, List.getElem?_map]
  cases hi : es.toList[i]? with
  | none => rw [List.getElem?_eq_none (by rw [len]; exact List.getElem?_eq_none_iff.1 hi)]; rfl
  | some x =>
   obtain ⟨q, hq, p1, -⟩ := pair i x hi
   obtain ⟨a, ha, hr⟩ := hrd x (List.mem_of_getElem? hi)
   rw [hq]
   simp only [Option.map_some,Function.comp,rg,hr,Option.getD_some,strOf]
   unfold keyB
   rw [← p1, ha]
 have hsize : Maps.size D0 = s.1.length := by
  rw [hD0]
  simp only [Maps.size]
  rw [(Go.WideShapes.sorted_perm _).length_eq, List.length_map, len]
 have hlt : g < w.heap.size := (Array.getElem?_eq_some_iff.1 hh).1
 have hcell : w.cell? ⟨g, 0, none⟩ = some (.map (some gm)) := by simp [World.cell?, hh]
 have hseq : SeqGives Fence.wide 2 Tryz.prog 107 #[.pointer (some ⟨g, 0, none⟩)] encStr (fun ss => ss.Perm (strKeys D0)) (Maps.size D0) w :=
  AnyZ.keys_gives (ρ := keys67_ren) { keys67 with } Fence.wide _ trivial rfl (by omega) g gm es.size D0 _ hlt hcell hown
 have call := AnyZ.sorted_in sorted66 Fence.wide 5 trivial trivial trivial trivial rfl (by omega) (sorts66 _) (enters_of Tryz.func42 (by kernel_rfl) rfl) 107 #[.pointer (some ⟨g, 0, none⟩)] trivial (enters_of Tryz.func107 (by kernel_rfl) rfl) _ _ (by rw [hsize]; omega) (by rw [hsize]; omega) w hseq
 refine (callsIn_wide.1 call).mono ?_
 rintro e' w' ⟨v, ss, rfl, hS, hrow, hnil, hbel⟩
 have hsort : (ss.mergeSort (fun x y => decide (x ≤ y))).map (fun l => (⟨l.toArray⟩ : ByteArray)) = sortedN s.1 := by
  unfold sortedN
  rw [← mergeSort_of_perm (hS.trans hperm)]
 have hstr : (ss.mergeSort (fun x y => decide (x ≤ y))).map encStr = (sortedN s.1).map fun b => Value.string b := by
  rw [← hsort, List.map_map]; rfl
 have hlen : ss.length = (sortedN s.1).length := by rw [← hsort]; simp
 rw [hstr, hlen] at hrow
 rcases hrow.2 with ⟨rfl, h0⟩ | ⟨g2, cap, cur, rfl, hge, hc2, hcap, -, hcs, htk⟩
 ·have he : sortedN s.1 = [] := List.length_eq_zero_iff.1 h0
  obtain ⟨h1, h2⟩ := hs.below hbel
  refine ⟨E, _, rfl, h2, ?_, ?_⟩
  ·rw [he]
   have := h1.nilRows (key := m.length) (.inr rfl) 1
   simpa [setMem] using this
  ·rw [h0]; exact .msnil _ _ _ _
 ·have hg2 : g2 < w'.heap.size := (Array.getElem?_eq_some_iff.1 hc2).1
  have hFn : ∀ o, E.F ⟨g2, o, none⟩ = none := fun o => by
   cases hx : E.F ⟨g2, o, none⟩ with
   | none => rfl
   | some z => have := World.block_lt_of_cell? w _ (hs.F _ _ hx); simp at this; omega
  have hB : BlkOk (E.with m.length 0 (g2, 1, cap)) w' m.length (.rows 0 1 ((sortedN s.1).map str)) := by
   refine .inr ⟨g2, 9, cur, cap, if_pos ⟨rfl, rfl⟩, hc2, hcs, by rw [List.length_map]; exact hcap, fun i row hi => ?_, fun o => hFn o⟩
   rw [List.getElem?_map, Option.map_eq_some_iff] at hi
   obtain ⟨b, hb, rfl⟩ := hi
   refine ⟨rfl, fun j cc hj => ?_⟩
   match j with
   | 0 =>
    cases hj
    refine ⟨.string b, ?_, rfl, .sc _ _⟩
    have hil := (List.getElem?_eq_some_iff.1 hb).1
    have h3 : (cur.toList.take ((sortedN s.1).length * 1))[i]? = some (.string b) := by rw [htk, List.getElem?_map, hb]; rfl
    rw [List.getElem?_take_of_lt (by omega)] at h3
    simpa using h3
   | j + 1 => simp [V.cells] at hj
  obtain ⟨h1, h2⟩ := hs.adopt hbel (g := g2) (e := 1) (c := cap) hge hg2 rfl hB
  refine ⟨_, _, rfl, h2, h1, ?_⟩
  exact .ms _ _ _ _ _ g2 1 cap _ _ (if_pos ⟨rfl, rfl⟩) (fun _ => by simp) (fun _ => ⟨rfl, rfl⟩) hcap
end Go.Proofs.YtpjdfcigadnhcaaGreatDoor
end

section
namespace Go.Proofs.YtpjdfcigadnhcaaGreatDoor
open Go.Eng
open Nat (reduceAdd reduceLT reduceLeDiff reduceMul reduceEqDiff reduceSub)
variable [Glob]
set_option maxHeartbeats 4000000
set_option maxRecDepth 100000
theorem keys67_ok (m : List Blk) (kb : Nat) (hkb : kb < m.length) (hb : m.all (belowB (m.length + 1)) = true) : FnOkS Tryz.prog 67 [.mp kb] m (.clo (.func 107) [] [.ptr m.length 0]) (m ++ [.box [.mp kb]]) := by
 refine fns_ok tt_ok (fn := Tryz.f67) (m.length + 1) (by omega) Tryz.func67 rfl Tryz.call67 ?_
 simp only [ltb,startSt,Tryz.ntmps67,List.length_cons,List.length_nil,reduceAdd,reduceSub,List.replicate_succ,List.replicate_zero]
 refine tri_seq_region tt_ok fun K hK => ?_
 simp only [go_sem,reduceIte,reduceAdd,reduceLT,reduceLeDiff,reduceMul,reduceEqDiff,reduceSub,reduceCtorEq]
 refine hK _ ?_
 refine tri_seq_region tt_ok fun K hK => ?_
 simp only [go_sem,reduceIte,reduceAdd,reduceLT,reduceLeDiff,reduceMul,reduceEqDiff,reduceSub,reduceCtorEq]
 refine hK _ ?_
 have ht : ∀ B : Blk, (m ++ [B]).take (m.length + 1) = m ++ [B] := fun B => List.take_of_length_le (by simp)
 refine tri_ret ⟨.inl rfl, rfl, by simp [belowV, belowL], ?_, ?_⟩
 ·dsimp only; rw [ht]; simp [hb, belowB, belowV]; omega
 ·dsimp only; rw [ht]
theorem free_ok (t : Ty) (ht : t.wt ≤ 1048576) : FnOk Tryz.prog 26 [encTy t] (.slice ((sortedN (varMap t).1.1).map str)) := by
 have hsz := t.size_le_wt
 have hP : ∀ u ∈ t.nodes, u.name.size ≤ 1048576 := fun u hu => by
  have h1 := Ty.wt_nodes hu
  have h2 := u.wt_eq
  omega
 have hvl := varMap_length t hP
 obtain ⟨et, hKN⟩ := keyN
 have h51 := fun B0 B1 B2 h => types_ok t [B0, B1, B2] h
 refine fn_ok tt_ok (fn := Tryz.f26) Tryz.func26 rfl Tryz.call26 ?_
 simp only [ltb,startSt,Tryz.ntmps26,List.length_cons,List.length_nil,reduceAdd,reduceSub,List.replicate_succ,List.replicate_zero]
 rw [encTy_eq] at h51 ⊢
 simp only [tyCells] at h51 ⊢
 refine tri_seq_region tt_ok fun K hK => ?_
 simp only [go_sem,reduceIte,reduceAdd,reduceLT,reduceLeDiff,reduceMul,reduceEqDiff,reduceSub,reduceCtorEq]
 refine hK _ ?_
 refine tri_seq_region tt_ok fun K hK => ?_
 simp only [go_sem,reduceIte,reduceAdd,reduceLT,reduceLeDiff,reduceMul,reduceEqDiff,reduceSub,reduceCtorEq]
 refine hK _ ?_
 refine tri_seq ?_
 refine tri_seq_region tt_ok fun K hK => ?_
 simp only [go_sem,reduceIte,reduceAdd,reduceLT,reduceLeDiff,reduceMul,reduceEqDiff,reduceSub,reduceCtorEq]
 refine .inr <| .inl ⟨_, _, h51 _ _ _ rfl, ?_⟩
 try simp only [go_sem,reduceIte,reduceAdd,reduceLT,reduceLeDiff,reduceMul,reduceEqDiff,reduceSub,reduceCtorEq]
 refine hK _ ?_
 refine tri_block (triP_types (t := t) (B := 1048576) (fun s : { s // NGood s } => [.box (tyCells t), .map s.1.1 s.1.2, .box [.mp 1], .box (tyCells t)]) ⟨([], 0), NGood.nil⟩ 4 3 rfl (fun _ => rfl) (by omega) (fun _ => rfl) (fun s => ?_) rfl rfl rfl (fun s u => (stepN s u, none)) (by omega) (by omega) (fun v => v.name.size ≤ 1048576) hP ?_ ?_)
 ·show (true && ((s.1.1.all fun e => belowV 5 e.2.2) && (true && (true && true)))) = true
  rw [s.2.below 5]; rfl
 ·intro s u hu hn l LR LB hLR hLB
  obtain ⟨hi, -, -⟩ := insN_ok s u.name hn
  have hins := fun B0 B2 B3 B4 B5 => insertV_at (T := 96) (mem := [B0, .map s.1.1 s.1.2, B2, B3, B4, B5]) (b := 1) hKN (k := .string u.name) ⟨u.name, rfl⟩ rfl hi rfl
  rw [encTy_eq]
  simp only [ltb,setPs,tyCells,List.set_cons_succ,List.set_cons_zero]
  refine tri_last_region tt_ok fun K hK => ?_
  simp only [go_sem,reduceIte,reduceAdd,reduceLT,reduceLeDiff,reduceMul,reduceEqDiff,reduceSub,reduceCtorEq]
  refine hK _ ?_
  refine ⟨rfl, rfl, tri_block ?_⟩
  simp only [List.set_cons_succ,List.set_cons_zero]
  cases h9 : decide (u.kind = 9) with
  | true =>
   have e0 : stepN s u = insN s u.name := by unfold stepN; rw [if_pos h9]
   rw [e0]
   refine tri_seq_region tt_ok fun K hK => ?_
   simp only [h9,go_sem,reduceIte,reduceAdd,reduceLT,reduceLeDiff,reduceMul,reduceEqDiff,reduceSub,reduceCtorEq]
   refine hK _ ?_
   refine tri_cond rfl ?_
   refine tri_last_region tt_ok fun K hK => ?_
   simp only [hins,go_sem,reduceIte,reduceAdd,reduceLT,reduceLeDiff,reduceMul,reduceEqDiff,reduceSub,reduceCtorEq]
   refine hK _ ?_
   exact ⟨rfl, rfl, rfl⟩
  | false =>
   have e0 : stepN s u = s := by unfold stepN; rw [h9]; rfl
   rw [e0]
   refine tri_seq_region tt_ok fun K hK => ?_
   simp only [h9,go_sem,reduceIte,reduceAdd,reduceLT,reduceLeDiff,reduceMul,reduceEqDiff,reduceSub,reduceCtorEq]
   refine hK _ ?_
   refine tri_cond rfl (tri_skip ?_)
   exact ⟨rfl, rfl, rfl⟩
 ·rw [stepJ_pure]
  have ev : t.nodes.foldl stepN ⟨([], 0), NGood.nil⟩ = varMap t := rfl
  rw [ev]
  obtain ⟨s, hs⟩ : ∃ s, s = varMap t := ⟨_, rfl⟩
  rw [← hs] at hvl ⊢
  show Tri _ _ _ _ _ _
  have h67 := keys67_ok [.box (tyCells t), .map s.1.1 s.1.2, .box [.mp 1], .box (tyCells t), .dead] 1 (by simp) (by
   show (true && ((s.1.1.all fun e => belowV 6 e.2.2) && (true && (true && (true && true))))) = true
   rw [s.2.below 6]; rfl)
  have h66 := srt_ok ([.box (tyCells t), .map s.1.1 s.1.2, .box [.mp 1], .box (tyCells t), .dead] ++ [.box [.mp 1]]) 5 1 s.1 s.2 rfl rfl (by omega)
  simp only [ltb,tyCells,List.length_cons,List.length_nil,reduceAdd] at h67 h66
  refine tri_seq_region tt_ok fun K hK => ?_
  simp only [go_sem,reduceIte,reduceAdd,reduceLT,reduceLeDiff,reduceMul,reduceEqDiff,reduceSub,reduceCtorEq]
  refine .inr <| .inl ⟨_, _, h67, ?_⟩
  try simp only [go_sem,reduceIte,reduceAdd,reduceLT,reduceLeDiff,reduceMul,reduceEqDiff,reduceSub,reduceCtorEq]
  refine .inr <| .inl ⟨_, _, h66, ?_⟩
  try simp only [go_sem,reduceIte,reduceAdd,reduceLT,reduceLeDiff,reduceMul,reduceEqDiff,reduceSub,reduceCtorEq]
  refine hK _ ?_
  refine tri_ret ⟨.inl rfl, ?_⟩
  simp [retV, resL, resV, Tryz.f26, pur, pur1, purCell, take_len_map]
end Go.Proofs.YtpjdfcigadnhcaaGreatDoor
end

section
namespace Go.Proofs.YtpjdfcigadnhcaaGreatDoor
open Go.Eng
open Nat (reduceAdd reduceLT reduceLeDiff reduceMul reduceEqDiff reduceSub)
variable [Glob]
set_option maxRecDepth 100000
set_option maxHeartbeats 4000000
attribute [local irreducible] runM stepM valD
theorem sumBy_le_mul {α : Type} (f : α → Nat) (c : Nat) : ∀ l : List α, (∀ t ∈ l, f t ≤ c) → sumBy f l ≤ l.length * c
 | [], _ => by simp [sumBy]
 | a :: r, h => by
  have h1 := h a (by simp)
  have h2 := sumBy_le_mul f c r fun t ht => h t (by simp [ht])
  simp only [sumBy,List.length_cons,Nat.add_mul,Nat.one_mul]
  omega
theorem fewTypes_ok (k : Int) (ts : List Ty) (hs : ∀ t ∈ ts, t.size ≤ 1048576) (hl : ts.length ≤ 2097152) :
  FnOk Tryz.prog 11 [num k, .slice (encTys ts)] (bl (decide ((sumBy Ty.size ts : Int) ≤ k))) := by
 have hle : ∀ i, sumBy Ty.size (ts.take i) ≤ 2199023255552 := fun i => by
  have h1 := sumBy_take_le Ty.size ts i
  have h2 := sumBy_le_mul Ty.size 1048576 ts hs
  omega
 refine fn_ok tt_ok (fn := Tryz.f11) Tryz.func11 rfl Tryz.call11 ?_
 simp only [ltb,startSt,Tryz.ntmps11,List.length_cons,List.length_nil,reduceAdd,reduceSub,List.replicate_succ,List.replicate_zero]
 refine tri_seq_region tt_ok fun K hK => ?_
 simp only [go_sem,reduceIte,reduceAdd,reduceLT,reduceLeDiff,reduceMul,reduceEqDiff,reduceSub,reduceCtorEq]
 refine hK _ ?_
 refine tri_seq_region tt_ok fun K hK => ?_
 simp only [go_sem,reduceIte,reduceAdd,reduceLT,reduceLeDiff,reduceMul,reduceEqDiff,reduceSub,reduceCtorEq]
 refine hK _ ?_
 refine tri_seq ?_
 refine tri_seq_region tt_ok fun K hK => ?_
 simp only [length_encTys,go_sem,reduceIte,reduceAdd,reduceLT,reduceLeDiff,reduceMul,reduceEqDiff,reduceSub,reduceCtorEq]
 refine hK _ ?_
 refine tri_block (tri_loop_inv (fun N st => ∃ (i : Nat), N = ts.length - i ∧ i ≤ ts.length ∧
  st = { fr := [num k, .undef, .undef, .undef, .undef, num ((sumBy Ty.size (ts.take i) : Nat)), .undef, .undef, .slice (encTys ts), num ts.length, num i] ++ List.replicate 11 .undef, mem := [] }) ts.length ?_ ?_)
 ·exact ⟨0, [true,false,false,false,false,true,false,false,true,true,true], by omega, by simp only [maskFr,belowV,belowL,belowB,reduceLT,mkb], rfl, 0, by omega, by omega, rfl⟩
 ·rintro N' st ⟨i, rfl, hi, rfl⟩
  simp only [ltb,List.replicate_succ,List.replicate_zero]
  by_cases hlt : i < ts.length
  ·have hd := lt_dec hlt
   refine tri_seq_region tt_ok fun K hK => ?_
   simp only [hd,go_sem,reduceIte,reduceAdd,reduceLT,reduceLeDiff,reduceMul,reduceEqDiff,reduceSub,reduceCtorEq]
   refine hK _ ?_
   refine tri_seq (tri_cond rfl (tri_skip ?_))
   refine tri_seq (tri_block ?_)
   obtain ⟨t, ht⟩ : ∃ t, ts[i]? = some t := ⟨_, List.getElem?_eq_getElem hlt⟩
   have htt := hs t (List.mem_of_getElem? ht)
   have hst := sumBy_take_succ Ty.size ht
   have hl1 := hle (i + 1)
   have hT := tsize_ok t.size t (Nat.le_refl _) htt
   rw [encTy_eq] at hT
   simp only [tyCells] at hT
   have hw1 := i64_c (((sumBy Ty.size (ts.take i) : Nat) : Int) + (t.size : Int)) (sumBy Ty.size (ts.take (i + 1))) (by omega) (by omega)
   have hw2 := i64_succ i (by omega)
   refine tri_seq_region tt_ok fun K hK => ?_
   simp only [get_encTys,ht,encTy_eq,tyCells,go_sem,reduceIte,reduceAdd,reduceLT,reduceLeDiff,reduceMul,reduceEqDiff,reduceSub,reduceCtorEq]
   refine hK _ ?_
   refine tri_last_region tt_ok fun K hK => ?_
   simp only [go_sem,reduceIte,reduceAdd,reduceLT,reduceLeDiff,reduceMul,reduceEqDiff,reduceSub,reduceCtorEq]
   refine .inl ⟨_, _, by simp only [hw1,go_sem,reduceIte,reduceAdd,reduceLT,reduceLeDiff,reduceMul,reduceEqDiff,reduceSub,reduceCtorEq,List.take_length], hT, ?_⟩
   try simp only [hw1,go_sem,reduceIte,reduceAdd,reduceLT,reduceLeDiff,reduceMul,reduceEqDiff,reduceSub,reduceCtorEq]
   refine hK _ ?_
   show Tri _ _ _ _ _ _
   refine tri_last_region tt_ok fun K hK => ?_
   simp only [go_sem,reduceIte,reduceAdd,reduceLT,reduceLeDiff,reduceMul,reduceEqDiff,reduceSub,reduceCtorEq]
   refine hK _ ?_
   rw [hw2]
   exact ⟨ts.length - (i + 1), by omega, 0, [true,false,false,false,false,true,false,false,true,true,true], by omega, by simp only [maskFr,belowV,belowL,belowB,reduceLT,mkb], rfl, i + 1, rfl, hlt, by simp [rp,maskFr]⟩
  ·have hd := ge_dec hlt
   refine tri_seq_region tt_ok fun K hK => ?_
   simp only [hd,go_sem,reduceIte,reduceAdd,reduceLT,reduceLeDiff,reduceMul,reduceEqDiff,reduceSub,reduceCtorEq]
   refine hK _ ?_
   refine tri_seq (tri_cond rfl (tri_exit ?_))
   have hie : i = ts.length := by omega
   subst hie
   show Tri _ _ _ _ _ _
   refine tri_seq_region tt_ok fun K hK => ?_
   simp only [go_sem,reduceIte,reduceAdd,reduceLT,reduceLeDiff,reduceMul,reduceEqDiff,reduceSub,reduceCtorEq]
   refine hK _ ?_
   refine tri_ret ⟨.inl rfl, ?_⟩
   rw [List.take_length]
   rfl

theorem memAfter_bl (mem : List Blk) (keys : List (Nat × Nat)) (b : Bool) : memAfter mem keys (bl b) = mem := rfl
end Go.Proofs.YtpjdfcigadnhcaaGreatDoor
end

section
namespace Go.Proofs.YtpjdfcigadnhcaaGreatDoor
open Go.Eng
variable [Glob]
theorem Ty.ext_iff (t u : Ty) : t = u ↔ t.kind = u.kind ∧ t.mod = u.mod ∧ t.name = u.name ∧ t.args = u.args ∧ t.flds = u.flds := by
 obtain ⟨k, m, n, ts, fs⟩ := t
 obtain ⟨k', m', n', ts', fs'⟩ := u
 simp [Ty.kind, Ty.mod, Ty.name, Ty.args, Ty.flds]
theorem Fd.ext_iff (t u : Fd) : t = u ↔ t.name = u.name ∧ t.opt = u.opt ∧ t.ty = u.ty := by
 obtain ⟨n, t, o⟩ := t
 obtain ⟨n', t', o'⟩ := u
 simp only [Fd.name,Fd.opt,Fd.ty,Fd.mk.injEq]
 exact ⟨fun h => ⟨h.1, h.2.2, h.2.1⟩, fun h => ⟨h.1, h.2.2, h.2.1⟩⟩

theorem Ty.args_size {t a : Ty} {i : Nat} (h : t.args[i]? = some a) : a.size < t.size := by
 have h1 : t.parts[i]? = some a := by
  unfold Ty.parts
  rw [List.getElem?_append_left (List.getElem?_eq_some_iff.1 h).1]; exact h
 have := sumBy_mem Ty.size h1; have := t.size_parts; omega
theorem Ty.flds_size {t : Ty} {f : Fd} {i : Nat} (h : t.flds[i]? = some f) : f.ty.size < t.size := by
 have h1 : t.parts[t.args.length + i]? = some f.ty := by
  unfold Ty.parts
  rw [List.getElem?_append_right (by omega), Nat.add_sub_cancel_left, List.getElem?_map, h]; rfl
 have := sumBy_mem Ty.size h1; have := t.size_parts; omega

end Go.Proofs.YtpjdfcigadnhcaaGreatDoor
end

section
namespace Go.Proofs.YtpjdfcigadnhcaaGreatDoor
open Go.Eng
variable [Glob]
set_option maxHeartbeats 4000000
set_option maxRecDepth 100000
attribute [local irreducible] runM stepM valD stepOp stepD callF callS
theorem eqb_self2 {α : Type} (a : α) : eqb a a = true := eqb_true rfl
theorem sumBy_le_mul2 {α : Type} {f g : α → Nat} {c : Nat} : ∀ l : List α, (∀ t ∈ l, f t ≤ g t * c) → sumBy f l ≤ sumBy g l * c
 | [], _ => by simp [sumBy]
 | a :: r, h => by
  have h1 := h a (by simp)
  have h2 := sumBy_le_mul2 r fun t ht => h t (by simp [ht])
  simp only [sumBy,Nat.add_mul]
  omega
theorem Ty.subst_size (ns : List ByteArray) (us : List Ty) {B : Nat} (hB : 1 ≤ B) (hus : ∀ u ∈ us, u.size ≤ B) : ∀ t : Ty, (t.subst ns us).size ≤ t.size * B := by
 refine Ty.induct fun t ih => ?_
 have h0 := t.size_parts
 have keep : (Ty.mk t.kind t.mod t.name (t.args.map (Ty.subst ns us)) (t.flds.map (Fd.subst ns us))).size ≤ t.size * B := by
  rw [Ty.size_parts]
  have e : (Ty.mk t.kind t.mod t.name (t.args.map (Ty.subst ns us)) (t.flds.map (Fd.subst ns us))).parts = t.parts.map (Ty.subst ns us) := by
   simp only [Ty.parts,Ty.args,Ty.flds,List.map_append,List.map_map]
   congr 1
   exact List.map_congr_left fun f _ => by simp [Fd.subst_ty]
  rw [e, sumBy_map]
  have h1 := sumBy_le_mul2 (f := fun p => (p.subst ns us).size) (g := Ty.size) (c := B) t.parts ih
  rw [h0, Nat.add_mul]
  omega
 rw [t.subst_eq]
 by_cases h9 : t.kind = 9
 ·rw [if_pos h9]
  cases hp : pickT ns us t.name with
  | none => exact keep
  | some u =>
   dsimp only
   have hu : u ∈ us := by
    unfold pickT at hp
    split at hp
    ·exact List.mem_of_getElem? hp
    ·cases hp
   have h1 := hus u hu
   have h2 := Nat.mul_le_mul_right B t.size_pos
   omega
 ·rw [if_neg h9]; exact keep
theorem sortedN_length (s : List (Value × Nat × V)) : (sortedN s).length = s.length := by simp [sortedN]
end Go.Proofs.YtpjdfcigadnhcaaGreatDoor
end

section
namespace Go.Proofs.YtpjdfcigadnhcaaGreatDoor
open Go.Eng
open Nat (reduceAdd reduceLT reduceLeDiff reduceMul reduceEqDiff reduceSub)
variable [Glob]
set_option maxRecDepth 100000
set_option maxHeartbeats 2000000
attribute [local irreducible] runM stepM valD
theorem reqTys_ok (ts us : List Ty) (hl : ts.length ≤ 1048576) (hg : ∀ (i : Nat) (t u : Ty), ts[i]? = some t → us[i]? = some u → FnOk Tryz.prog 27 [encTy t, encTy u] (bl (eqb t u))) :
  FnOk Tryz.prog 68 [.slice (encTys ts), .slice (encTys us)] (bl (eqb ts us)) := by
 refine fn_ok tt_ok (fn := Tryz.f68) Tryz.func68 rfl Tryz.call68 ?_
 simp only [ltb,startSt,Tryz.ntmps68,List.length_cons,List.length_nil,reduceAdd,reduceSub,List.replicate_succ,List.replicate_zero]
 refine tri_seq_region tt_ok fun K hK => ?_
 simp only [go_sem]
 refine hK _ ?_
 refine tri_seq ?_
 by_cases hlen : ts.length = us.length
 ·have hd : (!decide ((ts.length : Int) = (us.length : Int))) = false := by simp [hlen]
  refine tri_seq_region tt_ok fun K hK => ?_
  simp only [length_encTys,hd,go_sem]
  refine hK _ ?_
  refine tri_cond rfl (tri_skip ?_)
  show Tri _ _ _ _ _ _
  refine tri_seq ?_
  refine tri_seq_region tt_ok fun K hK => ?_
  simp only [go_sem]
  refine hK _ ?_
  refine tri_block (tri_loop_inv (fun N st => ∃ (i : Nat), N = ts.length - i ∧ i ≤ ts.length ∧ ts.take i = us.take i ∧
   st = { fr := [.slice (encTys ts), .slice (encTys us), .undef, .undef, .undef, num i] ++ List.replicate 21 .undef, mem := [] }) ts.length ?_ ?_)
  ·exact ⟨0, [true,true,false,false,false,true], by omega, by simp only [maskFr,belowV,mkb], rfl, 0, by omega, by omega, by simp, rfl⟩
  ·rintro N' st ⟨i, rfl, hi, htk, rfl⟩
   simp only [ltb,List.replicate_succ,List.replicate_zero]
   refine tri_seq ?_
   by_cases hlt : i < ts.length
   ·have hd := lt_dec hlt
    refine tri_seq_region tt_ok fun K hK => ?_
    simp only [length_encTys,hd,go_sem]
    refine hK _ ?_
    refine tri_cond rfl (tri_skip ?_)
    refine tri_seq (tri_block ?_)
    obtain ⟨t, ht⟩ : ∃ t, ts[i]? = some t := ⟨_, List.getElem?_eq_getElem hlt⟩
    obtain ⟨u, hu⟩ : ∃ u, us[i]? = some u := ⟨_, List.getElem?_eq_getElem (by omega)⟩
    have hgi := hg i t u ht hu
    rw [encTy_eq, encTy_eq] at hgi
    simp only [tyCells] at hgi
    refine tri_seq_mixed tt_ok mixed_ok [⟨.n, 0, [], []⟩, ⟨.n, 0, [], []⟩, ⟨.r, 0, [], []⟩, ⟨.r, 0, [], []⟩, ⟨.n, 0, [], []⟩, ⟨.n, 0, [], []⟩, ⟨.r, 0, [], []⟩, ⟨.r, 0, [], []⟩, ⟨.n, 0, [], []⟩, ⟨.n, 0, [], []⟩] 0 (by kernel_rfl) fun K hK => ?_
    simp only [get_encTys,ht,hu,encTy_eq,tyCells,go_sem,reduceAdd,List.replicate]
    refine ⟨_, _, by simp only [go_sem], .inl (hgi), ?_⟩
    try simp only [go_sem]
    refine hK _ ?_
    have htk1 : ∀ h : t = u, ts.take (i + 1) = us.take (i + 1) := fun h => by rw [List.take_add_one, List.take_add_one, htk, ht, hu, h]
    by_cases htu : t = u
    ·rw [eqb_true htu]
     refine tri_cond rfl (tri_skip ?_)
     show Tri _ _ _ _ _ _
     refine tri_last_region tt_ok fun K hK => ?_
     simp only [go_sem]
     refine hK _ ?_
     have hw2 := i64_succ i (by omega)
     rw [hw2]
     exact ⟨ts.length - (i + 1), by omega, 0, [true,true,false,false,false,true], by omega, by simp only [maskFr,belowV,mkb], rfl, i + 1, rfl, hlt, htk1 htu, rfl⟩
    ·rw [eqb_false htu]
     refine tri_cond rfl ?_
     refine tri_seq_region tt_ok fun K hK => ?_
     simp only [go_sem]
     refine hK _ ?_
     refine tri_ret ⟨.inl rfl, ?_⟩
     rw [eqb_false (fun e => htu (by rw [e, hu] at ht; exact (Option.some.inj ht).symm))]
     rfl
   ·have hd := ge_dec hlt
    refine tri_seq_region tt_ok fun K hK => ?_
    simp only [length_encTys,hd,go_sem]
    refine hK _ ?_
    refine tri_cond rfl (tri_exit ?_)
    have hie : i = ts.length := by omega
    subst hie
    show Tri _ _ _ _ _ _
    refine tri_seq_region tt_ok fun K hK => ?_
    simp only [go_sem]
    refine hK _ ?_
    refine tri_ret ⟨.inl rfl, ?_⟩
    have he : ts = us := by
     rw [List.take_length] at htk
     rw [htk, hlen, List.take_length]
    rw [eqb_true he]; rfl
 ·have hd : (!decide ((ts.length : Int) = (us.length : Int))) = true := by simp; omega
  refine tri_seq_region tt_ok fun K hK => ?_
  simp only [length_encTys,hd,go_sem]
  refine hK _ ?_
  refine tri_cond rfl ?_
  refine tri_seq_region tt_ok fun K hK => ?_
  simp only [go_sem]
  refine hK _ ?_
  refine tri_ret ⟨.inl rfl, ?_⟩
  rw [eqb_false (fun e => hlen (by rw [e]))]; rfl

def findReg (id : Nat) : Code → Option (Array Oper)
 | .region j ops _ => if j = id then some ops else none
 | .seq a b => match findReg id a with | some x => some x | none => findReg id b
 | .cond _ a b => match findReg id a with | some x => some x | none => findReg id b
 | .block _ c => findReg id c
 | .loop c => findReg id c
 | _ => none
def bodyReg (id : Nat) (fn : Func) : Option (Array Oper) := match fn.body with | some b => findReg id b | none => none
def eqKeep (t u : Ty) (i : Nat) (b : Bool) (K : St → Prop) : Prop := ∀ fr : List V, maskFr ([false,false,true,true,false,true] ++ List.replicate 78 false ++ [true]) fr = [.undef, .undef, .ptr 0 0, .ptr 1 0, .undef, num i] ++ List.replicate 78 .undef ++ [bl b] ++ List.replicate 5 .undef →
 K { fr := fr, mem := [.box (tyCells t), .box (tyCells u)] }
section
variable {t u : Ty} {i : Nat} {f g : Fd} (hf : t.flds[i]? = some f) (hg : u.flds[i]? = some g) {a0 a b c d : V} {K : St → Prop} {ops : Array Oper} (ho : bodyReg 6 Tryz.f27 = some ops)
include hf hg ho in
theorem eqReg_name (h5 : ¬ f.name = g.name) (hK : eqKeep t u i true K) :
  runM Tryz.prog tt ops 2 ops.toList [⟨.n, 0, [], []⟩, ⟨.r, 0, [], []⟩, ⟨.n, 0, [], []⟩, ⟨.r, 0, [], []⟩, ⟨.n, 0, [], []⟩, ⟨.r, 0, [], []⟩, ⟨.n, 0, [], []⟩, ⟨.r, 0, [], []⟩, ⟨.n, 0, [], []⟩, ⟨.r, 0, [], []⟩, ⟨.n, 0, [], []⟩, ⟨.r, 0, [], []⟩, ⟨.n, 0, [], []⟩, ⟨.n, 0, [], []⟩, ⟨.n, 0, [], []⟩, ⟨.r, 0, [], []⟩, ⟨.n, 0, [], []⟩, ⟨.r, 0, [], []⟩, ⟨.n, 0, [], []⟩, ⟨.r, 0, [], []⟩, ⟨.n, 0, [], []⟩, ⟨.r, 0, [], []⟩, ⟨.n, 0, [], []⟩, ⟨.r, 0, [], []⟩, ⟨.n, 0, [], []⟩, ⟨.r, 0, [], []⟩, ⟨.n, 0, [], []⟩, ⟨.n, 0, [], []⟩, ⟨.n, 0, [], []⟩, ⟨.n, 0, [], []⟩, ⟨.r, 0, [], []⟩, ⟨.n, 0, [], []⟩, ⟨.r, 0, [], []⟩, ⟨.n, 0, [], []⟩, ⟨.r, 0, [], []⟩, ⟨.n, 0, [], []⟩, ⟨.r, 0, [], []⟩, ⟨.n, 0, [], []⟩, ⟨.r, 0, [], []⟩, ⟨.n, 0, [], []⟩, ⟨.r, 0, [], []⟩, ⟨.n, 0, [], []⟩, ⟨.n, 0, [], []⟩, ⟨.n, 0, [], []⟩] { fr := [.undef, .undef, .ptr 0 0, .ptr 1 0, .undef, num i] ++ List.replicate 28 .undef ++ [a0, a, b, c, d] ++ List.replicate 51 .undef, mem := [.box (tyCells t), .box (tyCells u)] ++ List.replicate 0 .hole } K := by
 simp only [bodyReg,Tryz.f27,findReg,reduceEqDiff,if_false,if_true,Option.some.injEq] at ho
 subst ho
 have e5 := bytes_eq f.name g.name
 have hT : Tryz.prog.underlying 4 = some .bool := by kernel_rfl
 have e6 := fun x y => ev_bneq (P := Tryz.prog) (T := 4) x y hT
 rw [eqb_false h5] at e5
 simp only [ltb,List.replicate_succ,List.replicate_zero,tyCells]
 refine runM_cut 5 (by simp) (by simp) fun K1 hK1 => ?_
 simp only [get_encFds,hf,encFd_eq,tyCells,go_sem,reduceAdd]
 refine hK1 _ ?_
 refine runM_cut 5 (by simp) (by simp) fun K1 hK1 => ?_
 simp only [get_encFds,hg,encFd_eq,tyCells,go_sem,reduceAdd,reduceLeDiff]
 refine hK1 _ ?_
 refine runM_cut 5 (by simp) (by simp) fun K1 hK1 => ?_
 simp only [e5,go_sem]
 refine hK1 _ ?_
 refine runM_cut 5 (by simp) (by simp) fun K1 hK1 => ?_
 simp only [go_sem]
 refine hK1 _ ?_
 refine runM_cut 5 (by simp) (by simp) fun K1 hK1 => ?_
 simp only [go_sem]
 refine hK1 _ ?_
 refine runM_cut 5 (by simp) (by simp) fun K1 hK1 => ?_
 simp only [go_sem]
 refine hK1 _ ?_
 refine runM_cut 5 (by simp) (by simp) fun K1 hK1 => ?_
 simp only [go_sem]
 refine hK1 _ ?_
 refine runM_cut 5 (by simp) (by simp) fun K1 hK1 => ?_
 simp only [go_sem]
 refine hK1 _ ?_
 simp only [go_sem]
 exact hK _ (by simp only [maskFr,List.replicate_succ,List.replicate_zero,List.cons_append,List.nil_append,mkb])
include hf hg ho in
theorem eqReg_opt (h5 : f.name = g.name) (h6 : ¬ f.opt = g.opt) (hK : eqKeep t u i true K) :
  runM Tryz.prog tt ops 2 ops.toList [⟨.n, 0, [], []⟩, ⟨.r, 0, [], []⟩, ⟨.n, 0, [], []⟩, ⟨.r, 0, [], []⟩, ⟨.n, 0, [], []⟩, ⟨.r, 0, [], []⟩, ⟨.n, 0, [], []⟩, ⟨.r, 0, [], []⟩, ⟨.n, 0, [], []⟩, ⟨.r, 0, [], []⟩, ⟨.n, 0, [], []⟩, ⟨.r, 0, [], []⟩, ⟨.n, 0, [], []⟩, ⟨.n, 0, [], []⟩, ⟨.n, 0, [], []⟩, ⟨.r, 0, [], []⟩, ⟨.n, 0, [], []⟩, ⟨.r, 0, [], []⟩, ⟨.n, 0, [], []⟩, ⟨.r, 0, [], []⟩, ⟨.n, 0, [], []⟩, ⟨.r, 0, [], []⟩, ⟨.n, 0, [], []⟩, ⟨.r, 0, [], []⟩, ⟨.n, 0, [], []⟩, ⟨.r, 0, [], []⟩, ⟨.n, 0, [], []⟩, ⟨.n, 0, [], []⟩, ⟨.n, 0, [], []⟩, ⟨.n, 0, [], []⟩, ⟨.r, 0, [], []⟩, ⟨.n, 0, [], []⟩, ⟨.r, 0, [], []⟩, ⟨.n, 0, [], []⟩, ⟨.r, 0, [], []⟩, ⟨.n, 0, [], []⟩, ⟨.r, 0, [], []⟩, ⟨.n, 0, [], []⟩, ⟨.r, 0, [], []⟩, ⟨.n, 0, [], []⟩, ⟨.r, 0, [], []⟩, ⟨.n, 0, [], []⟩, ⟨.n, 0, [], []⟩, ⟨.n, 0, [], []⟩] { fr := [.undef, .undef, .ptr 0 0, .ptr 1 0, .undef, num i] ++ List.replicate 28 .undef ++ [a0, a, b, c, d] ++ List.replicate 51 .undef, mem := [.box (tyCells t), .box (tyCells u)] ++ List.replicate 0 .hole } K := by
 simp only [bodyReg,Tryz.f27,findReg,reduceEqDiff,if_false,if_true,Option.some.injEq] at ho
 subst ho
 have e5 := bytes_eq f.name g.name
 have hT : Tryz.prog.underlying 4 = some .bool := by kernel_rfl
 have e6 := fun x y => ev_bneq (P := Tryz.prog) (T := 4) x y hT
 rw [eqb_true h5] at e5
 have e7 : (f.opt == g.opt) = false := by simpa using h6
 simp only [ltb,List.replicate_succ,List.replicate_zero,tyCells]
 refine runM_cut 5 (by simp) (by simp) fun K1 hK1 => ?_
 simp only [get_encFds,hf,encFd_eq,tyCells,go_sem,reduceAdd]
 refine hK1 _ ?_
 refine runM_cut 5 (by simp) (by simp) fun K1 hK1 => ?_
 simp only [get_encFds,hg,encFd_eq,tyCells,go_sem,reduceAdd,reduceLeDiff]
 refine hK1 _ ?_
 refine runM_cut 5 (by simp) (by simp) fun K1 hK1 => ?_
 simp only [e5,go_sem]
 refine hK1 _ ?_
 refine runM_cut 5 (by simp) (by simp) fun K1 hK1 => ?_
 simp only [get_encFds,hf,encFd_eq,tyCells,go_sem,reduceAdd]
 refine hK1 _ ?_
 refine runM_cut 5 (by simp) (by simp) fun K1 hK1 => ?_
 simp only [get_encFds,hg,encFd_eq,tyCells,go_sem,reduceAdd]
 refine hK1 _ ?_
 refine runM_cut 5 (by simp) (by simp) fun K1 hK1 => ?_
 simp only [e6,e7,go_sem]
 refine hK1 _ ?_
 refine runM_cut 5 (by simp) (by simp) fun K1 hK1 => ?_
 simp only [go_sem]
 refine hK1 _ ?_
 refine runM_cut 5 (by simp) (by simp) fun K1 hK1 => ?_
 simp only [go_sem]
 refine hK1 _ ?_
 simp only [go_sem]
 exact hK _ (by simp only [maskFr,List.replicate_succ,List.replicate_zero,List.cons_append,List.nil_append,mkb])
include hf hg ho in
theorem eqReg_ty (h5 : f.name = g.name) (h6 : f.opt = g.opt) (r : Bool) (hrec : FnOk Tryz.prog 27 [.agg (tyCells f.ty), .agg (tyCells g.ty)] (bl r)) (hK : eqKeep t u i (!r) K) :
  runM Tryz.prog tt ops 2 ops.toList [⟨.n, 0, [], []⟩, ⟨.r, 0, [], []⟩, ⟨.n, 0, [], []⟩, ⟨.r, 0, [], []⟩, ⟨.n, 0, [], []⟩, ⟨.r, 0, [], []⟩, ⟨.n, 0, [], []⟩, ⟨.r, 0, [], []⟩, ⟨.n, 0, [], []⟩, ⟨.r, 0, [], []⟩, ⟨.n, 0, [], []⟩, ⟨.r, 0, [], []⟩, ⟨.n, 0, [], []⟩, ⟨.n, 0, [], []⟩, ⟨.n, 0, [], []⟩, ⟨.r, 0, [], []⟩, ⟨.n, 0, [], []⟩, ⟨.r, 0, [], []⟩, ⟨.n, 0, [], []⟩, ⟨.r, 0, [], []⟩, ⟨.n, 0, [], []⟩, ⟨.r, 0, [], []⟩, ⟨.n, 0, [], []⟩, ⟨.r, 0, [], []⟩, ⟨.n, 0, [], []⟩, ⟨.r, 0, [], []⟩, ⟨.n, 0, [], []⟩, ⟨.n, 0, [], []⟩, ⟨.n, 0, [], []⟩, ⟨.n, 0, [], []⟩, ⟨.r, 0, [], []⟩, ⟨.n, 0, [], []⟩, ⟨.r, 0, [], []⟩, ⟨.n, 0, [], []⟩, ⟨.r, 0, [], []⟩, ⟨.n, 0, [], []⟩, ⟨.r, 0, [], []⟩, ⟨.n, 0, [], []⟩, ⟨.r, 0, [], []⟩, ⟨.n, 0, [], []⟩, ⟨.r, 0, [], []⟩, ⟨.n, 0, [], []⟩, ⟨.n, 0, [], []⟩, ⟨.n, 0, [], []⟩] { fr := [.undef, .undef, .ptr 0 0, .ptr 1 0, .undef, num i] ++ List.replicate 28 .undef ++ [a0, a, b, c, d] ++ List.replicate 51 .undef, mem := [.box (tyCells t), .box (tyCells u)] ++ List.replicate 0 .hole } K := by
 simp only [bodyReg,Tryz.f27,findReg,reduceEqDiff,if_false,if_true,Option.some.injEq] at ho
 subst ho
 have e5 := bytes_eq f.name g.name
 have hT : Tryz.prog.underlying 4 = some .bool := by kernel_rfl
 have e6 := fun x y => ev_bneq (P := Tryz.prog) (T := 4) x y hT
 rw [eqb_true h5] at e5
 have e7 : (f.opt == g.opt) = true := by simpa using h6
 simp only [tyCells] at hrec
 simp only [ltb,List.replicate_succ,List.replicate_zero,tyCells]
 refine runM_cut 5 (by simp) (by simp) fun K1 hK1 => ?_
 simp only [get_encFds,hf,encFd_eq,tyCells,go_sem,reduceAdd]
 refine hK1 _ ?_
 refine runM_cut 5 (by simp) (by simp) fun K1 hK1 => ?_
 simp only [get_encFds,hg,encFd_eq,tyCells,go_sem,reduceAdd,reduceLeDiff]
 refine hK1 _ ?_
 refine runM_cut 5 (by simp) (by simp) fun K1 hK1 => ?_
 simp only [e5,go_sem]
 refine hK1 _ ?_
 refine runM_cut 5 (by simp) (by simp) fun K1 hK1 => ?_
 simp only [get_encFds,hf,encFd_eq,tyCells,go_sem,reduceAdd]
 refine hK1 _ ?_
 refine runM_cut 5 (by simp) (by simp) fun K1 hK1 => ?_
 simp only [get_encFds,hg,encFd_eq,tyCells,go_sem,reduceAdd]
 refine hK1 _ ?_
 refine runM_cut 5 (by simp) (by simp) fun K1 hK1 => ?_
 simp only [e6,e7,go_sem]
 refine hK1 _ ?_
 refine runM_cut 5 (by simp) (by simp) fun K1 hK1 => ?_
 simp only [get_encFds,hf,encFd_eq,tyCells,go_sem,reduceAdd,reduceLeDiff]
 refine hK1 _ ?_
 refine runM_cut 5 (by simp) (by simp) fun K1 hK1 => ?_
 simp only [get_encFds,hg,encFd_eq,tyCells,go_sem,reduceAdd]
 refine hK1 _ ?_
 simp only [go_sem,reduceAdd,reduceLeDiff]
 refine ⟨_, _, by simp only [go_sem], .inl (hrec), ?_⟩
 try simp only [go_sem]
 exact hK _ (by simp only [maskFr,List.replicate_succ,List.replicate_zero,List.cons_append,List.nil_append,mkb])
end

theorem reqTy_ok : ∀ (N : Nat) (t u : Ty), t.size ≤ N → N ≤ 1048576 → FnOk Tryz.prog 27 [encTy t, encTy u] (bl (eqb t u)) := by
 intro N
 induction N with
 | zero => intro t u h; have := t.size_pos; omega
 | succ N ih =>
  intro t u hN hb
  have hpl := t.parts_length
  have hA := reqTys_ok t.args u.args (by omega) fun i a b ha _ => ih a b (by have := Ty.args_size ha; omega) (by omega)
  refine fn_ok tt_ok (fn := Tryz.f27) Tryz.func27 rfl Tryz.call27 ?_
  simp only [ltb,startSt,Tryz.ntmps27,List.length_cons,List.length_nil,reduceAdd,reduceSub,List.replicate_succ,List.replicate_zero]
  rw [encTy_eq, encTy_eq]
  simp only [tyCells]
  have e2 := bytes_eq t.mod u.mod
  have e3 := bytes_eq t.name u.name
  refine tri_seq_region tt_ok fun K hK => ?_
  simp only [go_sem]
  refine hK _ ?_
  refine tri_seq ?_
  by_cases hall : t.kind = u.kind ∧ t.mod = u.mod ∧ t.name = u.name ∧ t.flds.length = u.flds.length
  ·obtain ⟨h1, h2, h3, h4⟩ := hall
   have d1 : decide (t.kind = u.kind) = true := decide_eq_true h1
   rw [eqb_true h2] at e2
   rw [eqb_true h3] at e3
   have d4 : decide ((t.flds.length : Int) = (u.flds.length : Int)) = true := by simp [h4]
   refine tri_seq_region tt_ok fun K hK => ?_
   simp only [d1,e2,e3,d4,length_encFds,go_sem,reduceAdd,reduceLeDiff]
   refine hK _ ?_
   refine tri_cond rfl (tri_skip ?_)
   show Tri _ _ _ _ _ _
   refine tri_seq ?_
   refine tri_seq_region tt_ok fun K hK => ?_
   simp only [go_sem]
   refine hK _ ?_
   refine tri_block (tri_loop_inv (fun N st => ∃ (i : Nat), N = t.flds.length - i ∧ i ≤ t.flds.length ∧ t.flds.take i = u.flds.take i ∧
    st = { fr := [.undef, .undef, .ptr 0 0, .ptr 1 0, .undef, num i] ++ List.replicate 84 .undef, mem := [.box (tyCells t), .box (tyCells u)] }) t.flds.length ?_ ?_)
   ·exact ⟨2, [false,false,true,true,false,true], by omega, by simp only [maskFr,belowV,reduceLT,mkb], by simp only [List.all_cons,List.all_nil,belowV,belowB,Bool.and_self,List.take_succ_cons,List.take_nil], 0, by omega, by omega, by simp, rfl⟩
   ·rintro N' st ⟨i, rfl, hi, htk, rfl⟩
    simp only [ltb,List.replicate_succ,List.replicate_zero,tyCells]
    refine tri_seq ?_
    by_cases hlt : i < t.flds.length
    ·have hd := lt_dec hlt
     refine tri_seq_region tt_ok fun K hK => ?_
     simp only [length_encFds,hd,go_sem]
     refine hK _ ?_
     refine tri_cond rfl (tri_skip ?_)
     refine tri_seq (tri_block ?_)
     obtain ⟨f, hf⟩ : ∃ f, t.flds[i]? = some f := ⟨_, List.getElem?_eq_getElem hlt⟩
     obtain ⟨g, hg⟩ : ∃ g, u.flds[i]? = some g := ⟨_, List.getElem?_eq_getElem (by omega)⟩
     have hrec := ih f.ty g.ty (by have := Ty.flds_size hf; omega) (by omega)
     rw [encTy_eq, encTy_eq] at hrec
     have no : ¬ f = g → ¬ t = u := fun h e => h (by rw [e, hg] at hf; exact (Option.some.inj hf).symm)
     refine tri_seq_mixed tt_ok mixed_ok [⟨.n, 0, [], []⟩, ⟨.r, 0, [], []⟩, ⟨.n, 0, [], []⟩, ⟨.r, 0, [], []⟩, ⟨.n, 0, [], []⟩, ⟨.r, 0, [], []⟩, ⟨.n, 0, [], []⟩, ⟨.r, 0, [], []⟩, ⟨.n, 0, [], []⟩, ⟨.r, 0, [], []⟩, ⟨.n, 0, [], []⟩, ⟨.r, 0, [], []⟩, ⟨.n, 0, [], []⟩, ⟨.n, 0, [], []⟩, ⟨.n, 0, [], []⟩, ⟨.r, 0, [], []⟩, ⟨.n, 0, [], []⟩, ⟨.r, 0, [], []⟩, ⟨.n, 0, [], []⟩, ⟨.r, 0, [], []⟩, ⟨.n, 0, [], []⟩, ⟨.r, 0, [], []⟩, ⟨.n, 0, [], []⟩, ⟨.r, 0, [], []⟩, ⟨.n, 0, [], []⟩, ⟨.r, 0, [], []⟩, ⟨.n, 0, [], []⟩, ⟨.n, 0, [], []⟩, ⟨.n, 0, [], []⟩, ⟨.n, 0, [], []⟩, ⟨.r, 0, [], []⟩, ⟨.n, 0, [], []⟩, ⟨.r, 0, [], []⟩, ⟨.n, 0, [], []⟩, ⟨.r, 0, [], []⟩, ⟨.n, 0, [], []⟩, ⟨.r, 0, [], []⟩, ⟨.n, 0, [], []⟩, ⟨.r, 0, [], []⟩, ⟨.n, 0, [], []⟩, ⟨.r, 0, [], []⟩, ⟨.n, 0, [], []⟩, ⟨.n, 0, [], []⟩, ⟨.n, 0, [], []⟩] 0 (by kernel_rfl) fun K hK => ?_
     have keepT : ¬ t = u → eqKeep t u i true K := fun hne fr hfr => by
      refine hK _ ?_
      refine tri_mask 2 ([false,false,true,true,false,true] ++ List.replicate 78 false ++ [true]) (by omega) (by rw [hfr]; simp only [ltb,List.replicate_succ,List.replicate_zero,List.all_cons,List.all_nil,belowV,reduceLT,decide_true,Bool.and_self]) (by simp only [tyCells,List.all_cons,List.all_nil,belowV,belowB,Bool.and_self,List.take_succ_cons,List.take_nil]) ?_
      rw [hfr]
      simp only [ltb,List.replicate_succ,List.replicate_zero]
      refine tri_cond rfl ?_
      refine tri_seq_region tt_ok fun K hK => ?_
      simp only [go_sem]
      refine hK _ ?_
      refine tri_ret ⟨.inl rfl, ?_⟩
      rw [eqb_false hne]; rfl
     by_cases h5 : f.name = g.name
     ·by_cases h6 : f.opt = g.opt
      ·by_cases h7 : f.ty = g.ty
       ·rw [eqb_true h7] at hrec
        refine eqReg_ty hf hg rfl h5 h6 true hrec fun fr hfr => ?_
        refine hK _ ?_
        refine tri_mask 2 ([false,false,true,true,false,true] ++ List.replicate 78 false ++ [true]) (by omega) (by rw [hfr]; simp only [ltb,List.replicate_succ,List.replicate_zero,List.all_cons,List.all_nil,belowV,reduceLT,decide_true,Bool.and_self]) (by simp only [tyCells,List.all_cons,List.all_nil,belowV,belowB,Bool.and_self,List.take_succ_cons,List.take_nil]) ?_
        rw [hfr]
        simp only [ltb,List.replicate_succ,List.replicate_zero]
        refine tri_cond rfl (tri_skip ?_)
        show Tri _ _ _ _ _ _
        refine tri_last_region tt_ok fun K hK => ?_
        simp only [go_sem]
        refine hK _ ?_
        have hw2 := i64_succ i (by omega)
        rw [hw2]
        have hfg : f = g := (Fd.ext_iff f g).2 ⟨h5, h6, h7⟩
        exact ⟨t.flds.length - (i + 1), by omega, 2, [false,false,true,true,false,true], by omega, by simp only [maskFr,belowV,reduceLT,mkb], by simp only [tyCells,List.all_cons,List.all_nil,belowV,belowB,Bool.and_self,List.take_succ_cons,List.take_nil], i + 1, rfl, hlt, by rw [List.take_add_one, List.take_add_one, htk, hf, hg, hfg], rfl⟩
       ·rw [eqb_false h7] at hrec
        exact eqReg_ty hf hg rfl h5 h6 false hrec (keepT (no fun e => h7 ((Fd.ext_iff f g).1 e).2.2))
      ·exact eqReg_opt hf hg rfl h5 h6 (keepT (no fun e => h6 ((Fd.ext_iff f g).1 e).2.1))
     ·exact eqReg_name hf hg rfl h5 (keepT (no fun e => h5 ((Fd.ext_iff f g).1 e).1))
    ·have hd := ge_dec hlt
     refine tri_seq_region tt_ok fun K hK => ?_
     simp only [length_encFds,hd,go_sem]
     refine hK _ ?_
     refine tri_cond rfl (tri_exit ?_)
     have hie : i = t.flds.length := by omega
     subst hie
     show Tri _ _ _ _ _ _
     refine tri_seq_region tt_ok fun K hK => ?_
     simp only [go_sem,reduceAdd,reduceLeDiff]
     refine .inl ⟨_, _, by simp only [go_sem], hA, ?_⟩
     try simp only [go_sem]
     refine hK _ ?_
     refine tri_ret ⟨.inl rfl, ?_⟩
     have hfl : t.flds = u.flds := by
      rw [List.take_length] at htk
      rw [htk, h4, List.take_length]
     by_cases h8 : t.args = u.args
     ·rw [eqb_true h8, eqb_true ((Ty.ext_iff t u).2 ⟨h1, h2, h3, h8, hfl⟩)]; rfl
     ·rw [eqb_false h8, eqb_false fun e => h8 ((Ty.ext_iff t u).1 e).2.2.2.1]; rfl
  ·have fin : ∀ x, x = false → eqb t u = x := fun x hx => by
    rw [hx]
    refine eqb_false fun e => hall ?_
    obtain ⟨h1, h2, h3, -, h5⟩ := (Ty.ext_iff t u).1 e
    exact ⟨h1, h2, h3, by rw [h5]⟩
   rw [fin false rfl]
   have no : decide (t.kind = u.kind) = true → eqb t.mod u.mod = true → eqb t.name u.name = true → decide ((t.flds.length : Int) = (u.flds.length : Int)) = true → False := fun a b c d =>
    hall ⟨of_decide_eq_true a, eqb_iff.1 b, eqb_iff.1 c, by have := of_decide_eq_true d; omega⟩
   cases d1 : decide (t.kind = u.kind) with
   | false =>
    refine tri_seq_region tt_ok fun K hK => ?_
    simp only [d1,go_sem,reduceAdd,reduceLeDiff]
    refine hK _ ?_
    refine tri_cond rfl ?_
    refine tri_seq_region tt_ok fun K hK => ?_
    simp only [go_sem]
    refine hK _ ?_
    exact tri_ret ⟨.inl rfl, rfl⟩
   | true =>
    cases d2 : eqb t.mod u.mod with
    | false =>
     rw [d2] at e2
     refine tri_seq_region tt_ok fun K hK => ?_
     simp only [d1,e2,go_sem,reduceAdd,reduceLeDiff]
     refine hK _ ?_
     refine tri_cond rfl ?_
     refine tri_seq_region tt_ok fun K hK => ?_
     simp only [go_sem]
     refine hK _ ?_
     exact tri_ret ⟨.inl rfl, rfl⟩
    | true =>
     rw [d2] at e2
     cases d3 : eqb t.name u.name with
     | false =>
      rw [d3] at e3
      refine tri_seq_region tt_ok fun K hK => ?_
      simp only [d1,e2,e3,go_sem,reduceAdd,reduceLeDiff]
      refine hK _ ?_
      refine tri_cond rfl ?_
      refine tri_seq_region tt_ok fun K hK => ?_
      simp only [go_sem]
      refine hK _ ?_
      exact tri_ret ⟨.inl rfl, rfl⟩
     | true =>
      rw [d3] at e3
      cases d4 : decide ((t.flds.length : Int) = (u.flds.length : Int)) with
      | false =>
       refine tri_seq_region tt_ok fun K hK => ?_
       simp only [d1,e2,e3,d4,length_encFds,go_sem,reduceAdd,reduceLeDiff]
       refine hK _ ?_
       refine tri_cond rfl ?_
       refine tri_seq_region tt_ok fun K hK => ?_
       simp only [go_sem]
       refine hK _ ?_
       exact tri_ret ⟨.inl rfl, rfl⟩
      | true => exact (no d1 d2 d3 d4).elim
end Go.Proofs.YtpjdfcigadnhcaaGreatDoor
end

section
namespace Go.Proofs.YtpjdfcigadnhcaaGreatDoor
open Go.Eng
open Nat (reduceAdd reduceLT reduceLeDiff reduceMul reduceEqDiff reduceSub)
variable [Glob]
set_option maxHeartbeats 4000000
set_option maxRecDepth 100000
attribute [local irreducible] runM stepM valD stepOp stepD callF callS
theorem sortedN_asc {s : List (Value × Nat × V) × Nat} (h : NGood s) : Asc ltS (sortedN s.1) := by
 have hn : (s.1.map keyB).Nodup := by
  have e : s.1.map (fun e => e.1) = (s.1.map keyB).map fun l => Value.string ⟨l.toArray⟩ := by
   rw [List.map_map]
   refine List.map_congr_left fun e he => ?_
   obtain ⟨⟨a, ha, -⟩, -⟩ := h.1 e he
   simp only [Function.comp,keyB,ha]
  have h3 := h.2.2
  rw [e] at h3
  exact (List.pairwise_map.1 h3).imp fun hne he => hne (by rw [he])
 have tr : ∀ a b c : List UInt8, leB a b = true → leB b c = true → leB a c = true := fun a b c h1 h2 => by simp only [leB,decide_eq_true_eq] at *; exact List.le_trans h1 h2
 have to : ∀ a b : List UInt8, (leB a b || leB b a) = true := fun a b => by simp only [leB,Bool.or_eq_true,decide_eq_true_eq]; exact List.le_total a b
 have h1 := List.pairwise_mergeSort tr to (s.1.map keyB)
 have h2 : ((s.1.map keyB).mergeSort leB).Nodup := (List.mergeSort_perm _ _).nodup_iff.2 hn
 unfold sortedN Asc
 rw [List.pairwise_map]
 refine (h1.and h2).imp fun {a b} h => ?_
 simp only [leB,decide_eq_true_eq] at h
 rw [ltS_eq]
 refine decide_eq_true ?_
 rcases Classical.em (a < b) with hlt | hlt
 ·exact hlt
 ·exact absurd (List.le_antisymm h.1 (List.not_lt.1 hlt)) h.2
theorem free_eq (t : Ty) (h : ∀ u ∈ t.nodes, u.name.size ≤ 1048576) : sortedN (varMap t).1.1 = gathT ltS (nmOf 9) t := by
 refine Asc.ext lin_str (sortedN_asc (varMap t).2) (gathT_asc lin_str (nmOf_len 9) t) fun x => ?_
 rw [sortedN_mem (varMap t).2, varMap_keys t h, gathT_mem]
 unfold Ty.vars
 rw [List.mem_map]
 constructor
 ·rintro ⟨u, hu, rfl⟩
  obtain ⟨h1, h2⟩ := List.mem_filter.1 hu
  exact ⟨u, h1, by unfold nmOf; rw [if_pos (of_decide_eq_true h2)]; simp⟩
 ·rintro ⟨u, hu, hx⟩
  unfold nmOf at hx
  split at hx
  ·rename_i hk
   rw [List.mem_singleton] at hx
   exact ⟨u, List.mem_filter.2 ⟨hu, decide_eq_true hk⟩, hx.symm⟩
  ·simp at hx
theorem variables_law (haw : FnOk Tryz.prog 10 [] (bl true)) (t : Ty) (ns : List ByteArray) (us : List Ty) (ht : t.wt ≤ 1048576) (hns : sumBy (fun s : ByteArray => s.size + 1) ns ≤ 1048576) (hus : sumBy Ty.wt us ≤ 1048576) : ∃ r, (fun v => v = bl true) r ∧ FnOk Tryz.prog 8 [encTy t, .slice (ns.map str), .slice (encTys us)] r := by
 refine fn_ex tt_ok (fn := Tryz.f8) Tryz.func8 rfl Tryz.call8 ?_
 simp only [ltb,startSt,Tryz.ntmps8,List.length_cons,List.length_nil,reduceAdd,reduceSub,List.replicate_succ,List.replicate_zero]
 have w1 := t.size_le_wt
 have p1 := t.size_pos
 have hnl : ns.length ≤ 1048576 := by have := length_le_sum (fun s : ByteArray => s.size + 1) (fun s => Nat.succ_pos _) ns; omega
 have hul : us.length ≤ 1048576 := by have := length_le_sum Ty.wt (fun u => Nat.lt_of_lt_of_le u.size_pos u.size_le_wt) us; omega
 have huw : ∀ u ∈ us, u.size ≤ 1048576 := fun u hu => by obtain ⟨i, hi⟩ := List.mem_iff_getElem?.1 hu; have h1 := sumBy_mem Ty.wt hi; have h2 := u.size_le_wt; omega
 have hfts : ∀ x ∈ t :: us, x.size ≤ 1048576 := fun x hx => (List.mem_cons.1 hx).elim (fun e => by rw [e]; omega) (huw x)
 have hT4 : Tryz.prog.underlying 4 = some .bool := by kernel_rfl
 have hbn := fun x y => ev_bneq (P := Tryz.prog) (T := 4) x y hT4
 simp only [encTy_eq,tyCells]
 refine ex_region_w tt_ok 62 [0,0,0,2,0,0,2] [] rfl rfl fun K hK => ?_
 try simp only [ltb]
 try simp only [ltb]
 simp only [memAfter_bl,length_encTys,List.length_map,go_sem,reduceIte,reduceAdd,reduceLT,reduceLeDiff,reduceMul,reduceEqDiff,reduceSub,reduceCtorEq,List.take_length]
 refine hK _ _ rfl ?_
 simp only [mwb,reduceAdd,reduceEqDiff]
 refine ex_seq ?_
 refine ex_region_w tt_ok 62 (rp 9 0 [1,2]) [] rfl rfl fun K hK => ?_
 try simp only [ltb]
 refine runX_cut 1 fun K1 hK1 => ?_
 simp only [ltb]
 simp only [memAfter_bl,length_encTys,List.length_map,go_sem,reduceIte,reduceAdd,reduceLT,reduceLeDiff,reduceMul,reduceEqDiff,reduceSub,reduceCtorEq,List.take_length]
 refine callF_ex (⟨_, rfl, haw⟩) ?_
 rintro _ rfl
 try simp only [memAfter_bl,length_encTys,List.length_map,go_sem,reduceIte,reduceAdd,reduceLT,reduceLeDiff,reduceMul,reduceEqDiff,reduceSub,reduceCtorEq,List.take_length]
 refine hK1 _ ?_
 try simp only [ltb]
 simp only [memAfter_bl,length_encTys,List.length_map,go_sem,reduceIte,reduceAdd,reduceLT,reduceLeDiff,reduceMul,reduceEqDiff,reduceSub,reduceCtorEq,List.take_length]
 refine hK _ _ rfl ?_
 simp only [mwb,reduceAdd,reduceEqDiff]
 refine ex_if rfl (fun hc10 => ?_) (fun hc10 => ?_)
 ·cases hc10
 ·refine ex_skip ?_
  show Go.Eng.Ex _ _ _ _ _ _
  refine ex_seq ?_
  have hf5 := first_ty us 0
  have hle5 : 1 + us.length ≤ 34359738368 := by omega
  have htk : (encTys us).take us.length = encTys us := List.take_of_length_le (by rw [length_encTys]; exact Nat.le_refl _)
  refine ex_region_w tt_ok 62 (rp 11 0 (rp 15 1 [2])) [(6, 17), (11, 22)] rfl rfl fun K hK => ?_
  try simp only [ltb]
  refine runX_cut 5 fun K1 hK1 => ?_
  simp only [ltb]
  simp only [hf5,hle5,htk,List.length_cons,memAfter_bl,length_encTys,List.length_map,go_sem,reduceIte,reduceAdd,reduceLT,reduceLeDiff,reduceMul,reduceEqDiff,reduceSub,reduceCtorEq,List.take_length]
  refine callF_ex (by have h := fewTypes_ok 300 (t :: us) hfts (by simp; omega); simp only [encTys,encTy_eq,tyCells] at h; exact ⟨_, rfl, h⟩) ?_
  rintro _ rfl
  try simp only [hf5,hle5,htk,List.length_cons,memAfter_bl,length_encTys,List.length_map,go_sem,reduceIte,reduceAdd,reduceLT,reduceLeDiff,reduceMul,reduceEqDiff,reduceSub,reduceCtorEq,List.take_length]
  refine hK1 _ ?_
  refine runX_cut 2 fun K1 hK1 => ?_
  simp only [ltb]
  simp only [hf5,hle5,htk,List.length_cons,memAfter_bl,length_encTys,List.length_map,go_sem,reduceIte,reduceAdd,reduceLT,reduceLeDiff,reduceMul,reduceEqDiff,reduceSub,reduceCtorEq,List.take_length]
  refine hK1 _ ?_
  refine runX_case 17 (by rfl) fun b hb3_6 => ?_
  cases b
  ·refine runX_cut 5 fun K1 hK1 => ?_
   simp only [ltb]
   simp only [hf5,hle5,htk,List.length_cons,memAfter_bl,length_encTys,List.length_map,go_sem,reduceIte,reduceAdd,reduceLT,reduceLeDiff,reduceMul,reduceEqDiff,reduceSub,reduceCtorEq,List.take_length]
   refine hK1 _ ?_
   refine runX_case 22 (by rfl) fun b hb3_11 => ?_
   cases b
   ·try simp only [ltb]
    simp only [hf5,hle5,htk,List.length_cons,memAfter_bl,length_encTys,List.length_map,go_sem,reduceIte,reduceAdd,reduceLT,reduceLeDiff,reduceMul,reduceEqDiff,reduceSub,reduceCtorEq,List.take_length]
    refine hK _ _ rfl ?_
    simp only [mwb,reduceAdd,reduceEqDiff]
    refine ex_if rfl (fun hc26 => ?_) (fun hc26 => ?_)
    ·refine ex_region_w tt_ok 62 [0,0,0,0,0,0,2] [] rfl rfl fun K hK => ?_
     try simp only [ltb]
     try simp only [ltb]
     simp only [hf5,hle5,htk,List.length_cons,memAfter_bl,length_encTys,List.length_map,go_sem,reduceIte,reduceAdd,reduceLT,reduceLeDiff,reduceMul,reduceEqDiff,reduceSub,reduceCtorEq,List.take_length]
     refine hK _ _ rfl ?_
     simp only [mwb,reduceAdd,reduceEqDiff]
     exact ex_ret ⟨.inl rfl, _, rfl, rfl⟩
    ·refine ex_skip ?_
     show Go.Eng.Ex _ _ _ _ _ _
     refine ex_seq ?_
     refine ex_region_w tt_ok 62 (rp 27 0 [2,2,2]) [] rfl rfl fun K hK => ?_
     try simp only [ltb]
     try simp only [ltb]
     simp only [hf5,hle5,htk,List.length_cons,memAfter_bl,length_encTys,List.length_map,go_sem,reduceIte,reduceAdd,reduceLT,reduceLeDiff,reduceMul,reduceEqDiff,reduceSub,reduceCtorEq,List.take_length]
     refine hK _ _ rfl ?_
     simp only [mwb,reduceAdd,reduceEqDiff]
     refine ex_block ?_
     refine ex_range 29 (ns.length) 2 (false::true::true::true::false::false::true::false::false::false::true::(rp 15 false [true,true,true,true])) (by omega) (by simp only [maskFr,belowV,belowL,belowB,reduceLT,mkb]) (by simp only [maskFr,belowV,belowL,belowB,reduceLT,mkb]) (by rfl) fun i hii => ?_
     simp only [maskFr,belowV,belowL,belowB,reduceLT,List.set_cons_zero,List.set_cons_succ,mkb]
     refine ex_region_w tt_ok 62 (rp 30 0 [2]) [] rfl rfl fun K hK => ?_
     try simp only [ltb]
     try simp only [ltb]
     simp only [hf5,hle5,htk,List.length_cons,memAfter_bl,length_encTys,List.length_map,go_sem,reduceIte,reduceAdd,reduceLT,reduceLeDiff,reduceMul,reduceEqDiff,reduceSub,reduceCtorEq,List.take_length]
     refine hK _ _ rfl ?_
     simp only [mwb,reduceAdd,reduceEqDiff]
     refine ex_seq ?_
     refine ex_if rfl (fun hc30 => ?_) (fun hc30 => ?_)
     ·have hlti : i < (ns.length) := by simpa using hc30
      obtain ⟨m, hm⟩ : ∃ m, ns[i]? = some m := ⟨_, List.getElem?_eq_getElem hlti⟩
      refine ex_skip ?_
      show Go.Eng.Ex _ _ _ _ _ _
      refine ex_seq ?_
      refine ex_block ?_
      refine ex_region_w tt_ok 62 (rp 8 0 (2::(rp 22 0 [1,1]))) [] rfl rfl fun K hK => ?_
      try simp only [ltb]
      try simp only [ltb]
      simp only [hf5,hle5,htk,List.length_cons,hlti,List.getElem?_map,hm,hbn,memAfter_bl,length_encTys,List.length_map,go_sem,reduceIte,reduceAdd,reduceLT,reduceLeDiff,reduceMul,reduceEqDiff,reduceSub,reduceCtorEq,List.take_length]
      refine hK _ _ rfl ?_
      simp only [mwb,reduceAdd,reduceEqDiff]
      refine ex_region_w tt_ok 62 (rp 33 0 [1,1,1,1,2]) [] rfl rfl fun K hK => ?_
      try simp only [ltb]
      refine runX_cut 2 fun K1 hK1 => ?_
      simp only [ltb]
      simp only [hf5,hle5,htk,List.length_cons,hlti,List.getElem?_map,hm,hbn,memAfter_bl,length_encTys,List.length_map,go_sem,reduceIte,reduceAdd,reduceLT,reduceLeDiff,reduceMul,reduceEqDiff,reduceSub,reduceCtorEq,List.take_length]
      refine callF_ex (variable_ex m) ?_
      rintro _ rfl
      try simp only [hf5,hle5,htk,List.length_cons,hlti,List.getElem?_map,hm,hbn,memAfter_bl,length_encTys,List.length_map,go_sem,reduceIte,reduceAdd,reduceLT,reduceLeDiff,reduceMul,reduceEqDiff,reduceSub,reduceCtorEq,List.take_length]
      refine hK1 _ ?_
      refine runX_cut 2 fun K1 hK1 => ?_
      simp only [ltb]
      simp only [hf5,hle5,htk,List.length_cons,hlti,List.getElem?_map,hm,hbn,memAfter_bl,length_encTys,List.length_map,go_sem,reduceIte,reduceAdd,reduceLT,reduceLeDiff,reduceMul,reduceEqDiff,reduceSub,reduceCtorEq,List.take_length]
      refine callF_ex (rvariable_ex m) ?_
      rintro _ rfl
      try simp only [hf5,hle5,htk,List.length_cons,hlti,List.getElem?_map,hm,hbn,memAfter_bl,length_encTys,List.length_map,go_sem,reduceIte,reduceAdd,reduceLT,reduceLeDiff,reduceMul,reduceEqDiff,reduceSub,reduceCtorEq,List.take_length]
      refine hK1 _ ?_
      try simp only [ltb]
      simp only [hf5,hle5,htk,List.length_cons,hlti,List.getElem?_map,hm,hbn,memAfter_bl,length_encTys,List.length_map,go_sem,reduceIte,reduceAdd,reduceLT,reduceLeDiff,reduceMul,reduceEqDiff,reduceSub,reduceCtorEq,List.take_length]
      refine hK _ _ rfl ?_
      simp only [mwb,reduceAdd,reduceEqDiff]
      refine ex_if rfl (fun hc37 => ?_) (fun hc37 => ?_)
      ·simp at hc37
      ·refine ex_skip ?_
       show Go.Eng.Ex _ _ _ _ _ _
       refine ex_last_region_w tt_ok 62 (rp 29 0 (2::(rp 8 0 [2]))) [] (by kernel_rfl) rfl rfl fun K hK => ?_
       try simp only [ltb]
       try simp only [ltb]
       simp only [hf5,hle5,htk,List.length_cons,hlti,List.getElem?_map,hm,hbn,memAfter_bl,length_encTys,List.length_map,go_sem,reduceIte,reduceAdd,reduceLT,reduceLeDiff,reduceMul,reduceEqDiff,reduceSub,reduceCtorEq,List.take_length]
       refine hK _ _ rfl ?_
       simp only [mwb,reduceAdd,reduceEqDiff]
       have hwi := i64_succ i (by omega)
       refine ⟨hlti, 2, (false::true::true::true::false::false::true::false::false::false::true::(rp 15 false [true,true,true,true])), by omega, by simp only [maskFr,belowV,belowL,belowB,reduceLT,mkb], by simp only [maskFr,belowV,belowL,belowB,reduceLT,mkb], ?_⟩
       simp only [hwi,maskFr,belowV,belowL,belowB,reduceLT,List.set_cons_zero,List.set_cons_succ,mkb]
     ·have hgei : ¬ i < (ns.length) := by simpa using hc30
      refine ex_exit ?_
      show Go.Eng.Ex _ _ _ _ _ _
      have hsum : sumBy Ty.size (t :: us) ≤ 300 := by have := hb3_6; simp at this; omega
      simp only [sumBy] at hsum
      have hu3 : ∀ u ∈ us, u.size ≤ 300 := fun u hu => by obtain ⟨i, hi⟩ := List.mem_iff_getElem?.1 hu; have h1 := sumBy_mem Ty.size hi; omega
      have s1 := Ty.subst_size ns us (B := 300) (by omega) hu3 t
      have hss : (t.subst ns us).size ≤ 1048576 := by have := Nat.mul_le_mul_right 300 (show t.size ≤ 300 by omega); omega
      have hP : ∀ v ∈ t.nodes, v.name.size ≤ 1048576 := fun v hv => by have h1 := Ty.wt_nodes hv; have h2 := v.wt_eq; omega
      have hfl : (sortedN (varMap t).1.1).length ≤ 1048576 := by rw [sortedN_length]; have := varMap_length t hP; omega
      have hml : (gathT ltU usOf t).length ≤ 1048576 := by have := gathT_length (lt := ltU) usOf_len t; omega
      refine ex_mixed_w tt_ok mixed_ok 62 [0,0,0,0,0,0,2,0,0,0,0,0,0,0,0,0,0,0,0,0,0,0,0,0,0,0,0,0,0,0,0,0,0,0,0,0,0,0,0,1,1,1,1,1,1,1,1,1,1,1,1,1,1,1,1,1,1,1,1,1,1,1] (by kernel_rfl) [⟨.r, 0, [], []⟩, ⟨.n, 0, [], []⟩, ⟨.n, 0, [], []⟩, ⟨.n, 0, [], []⟩, ⟨.r, 0, [], []⟩, ⟨.n, 0, [], []⟩, ⟨.n, 0, [], []⟩, ⟨.n, 0, [], []⟩, ⟨.n, 0, [], []⟩, ⟨.n, 0, [], []⟩, ⟨.r, 0, [], []⟩, ⟨.n, 0, [], []⟩, ⟨.r, 0, [], []⟩, ⟨.n, 0, [], []⟩, ⟨.n, 0, [], []⟩, ⟨.n, 0, [], []⟩, ⟨.n, 0, [], []⟩, ⟨.r, 0, [], []⟩, ⟨.n, 0, [], []⟩, ⟨.r, 0, [], []⟩, ⟨.n, 0, [], []⟩, ⟨.n, 0, [], []⟩, ⟨.n, 0, [], []⟩, ⟨.n, 0, [], []⟩] 0 (by kernel_rfl) fun K hK => ?_
      try simp only [ltb,List.replicate_zero,List.replicate_succ]
      refine runM_cut 4 (by simp) (by simp) fun K1 hK1 => ?_
      try simp only [ltb]
      simp only [hf5,hle5,htk,List.length_cons,memAfter_bl,length_encTys,List.length_map,go_sem,reduceIte,reduceAdd,reduceLT,reduceLeDiff,reduceMul,reduceEqDiff,reduceSub,reduceCtorEq,List.take_length,List.replicate]
      refine callD_ex rfl (by have h := subst_ok ns us hnl hul huw t.size t (Nat.le_refl _) (by omega); rw [encTy_eq, encTy_eq] at h; exact ⟨_, rfl, h⟩) ?_
      rintro _ rfl
      try simp only [hf5,hle5,htk,List.length_cons,memAfter_bl,length_encTys,List.length_map,go_sem,reduceIte,reduceAdd,reduceLT,reduceLeDiff,reduceMul,reduceEqDiff,reduceSub,reduceCtorEq,List.take_length,List.replicate]
      refine hK1 _ ?_
      refine runM_cut 4 (by simp) (by simp) fun K1 hK1 => ?_
      try simp only [ltb]
      simp only [hf5,hle5,htk,List.length_cons,memAfter_bl,length_encTys,List.length_map,go_sem,reduceIte,reduceAdd,reduceLT,reduceLeDiff,reduceMul,reduceEqDiff,reduceSub,reduceCtorEq,List.take_length,List.replicate]
      refine callD_ex rfl (by have h := rsubst_ok ns us hnl hul t.size t (Nat.le_refl _) (by omega); rw [encTy_eq, encTy_eq] at h; exact ⟨_, rfl, h⟩) ?_
      rintro _ rfl
      try simp only [hf5,hle5,htk,List.length_cons,memAfter_bl,length_encTys,List.length_map,go_sem,reduceIte,reduceAdd,reduceLT,reduceLeDiff,reduceMul,reduceEqDiff,reduceSub,reduceCtorEq,List.take_length,List.replicate]
      refine hK1 _ ?_
      refine runM_cut 1 (by simp) (by simp) fun K1 hK1 => ?_
      try simp only [ltb]
      simp only [hf5,hle5,htk,List.length_cons,memAfter_bl,length_encTys,List.length_map,go_sem,reduceIte,reduceAdd,reduceLT,reduceLeDiff,reduceMul,reduceEqDiff,reduceSub,reduceCtorEq,List.take_length,List.replicate]
      refine callD_ex rfl (by have h := reqTy_ok _ (t.subst ns us) (t.subst ns us) (Nat.le_refl _) hss; rw [encTy_eq] at h; exact ⟨_, rfl, h⟩) ?_
      rintro _ rfl
      try simp only [hf5,hle5,htk,List.length_cons,memAfter_bl,length_encTys,List.length_map,go_sem,reduceIte,reduceAdd,reduceLT,reduceLeDiff,reduceMul,reduceEqDiff,reduceSub,reduceCtorEq,List.take_length,List.replicate]
      refine hK1 _ ?_
      refine runM_cut 1 (by simp) (by simp) fun K1 hK1 => ?_
      try simp only [ltb]
      simp only [hf5,hle5,htk,List.length_cons,memAfter_bl,length_encTys,List.length_map,go_sem,reduceIte,reduceAdd,reduceLT,reduceLeDiff,reduceMul,reduceEqDiff,reduceSub,reduceCtorEq,List.take_length,List.replicate]
      refine hK1 _ ?_
      refine runM_case 48 (by rfl) fun b hb11_9 => ?_
      cases b
      ·rw [eqb_self2] at hb11_9; cases hb11_9
      ·refine runM_cut 2 (by simp) (by simp) fun K1 hK1 => ?_
       try simp only [ltb]
       simp only [hf5,hle5,htk,List.length_cons,memAfter_bl,length_encTys,List.length_map,go_sem,reduceIte,reduceAdd,reduceLT,reduceLeDiff,reduceMul,reduceEqDiff,reduceSub,reduceCtorEq,List.take_length,List.replicate]
       refine callD_ex rfl (by have h := free_ok t ht; rw [encTy_eq] at h; exact ⟨_, rfl, h⟩) ?_
       rintro _ rfl
       try simp only [hf5,hle5,htk,List.length_cons,memAfter_bl,length_encTys,List.length_map,go_sem,reduceIte,reduceAdd,reduceLT,reduceLeDiff,reduceMul,reduceEqDiff,reduceSub,reduceCtorEq,List.take_length,List.replicate]
       refine hK1 _ ?_
       refine runM_cut 2 (by simp) (by simp) fun K1 hK1 => ?_
       try simp only [ltb]
       simp only [hf5,hle5,htk,List.length_cons,memAfter_bl,length_encTys,List.length_map,go_sem,reduceIte,reduceAdd,reduceLT,reduceLeDiff,reduceMul,reduceEqDiff,reduceSub,reduceCtorEq,List.take_length,List.replicate]
       refine callD_ex rfl (by have h := rfree_ok t (by omega); rw [encTy_eq, ← free_eq t hP] at h; exact ⟨_, rfl, h⟩) ?_
       rintro _ rfl
       try simp only [hf5,hle5,htk,List.length_cons,memAfter_bl,length_encTys,List.length_map,go_sem,reduceIte,reduceAdd,reduceLT,reduceLeDiff,reduceMul,reduceEqDiff,reduceSub,reduceCtorEq,List.take_length,List.replicate]
       refine hK1 _ ?_
       refine runM_cut 1 (by simp) (by simp) fun K1 hK1 => ?_
       try simp only [ltb]
       simp only [hf5,hle5,htk,List.length_cons,memAfter_bl,length_encTys,List.length_map,go_sem,reduceIte,reduceAdd,reduceLT,reduceLeDiff,reduceMul,reduceEqDiff,reduceSub,reduceCtorEq,List.take_length,List.replicate]
       refine callD_ex rfl (sEqual_ex _ _ hfl) ?_
       rintro _ rfl
       try simp only [hf5,hle5,htk,List.length_cons,memAfter_bl,length_encTys,List.length_map,go_sem,reduceIte,reduceAdd,reduceLT,reduceLeDiff,reduceMul,reduceEqDiff,reduceSub,reduceCtorEq,List.take_length,List.replicate]
       refine hK1 _ ?_
       refine runM_cut 2 (by simp) (by simp) fun K1 hK1 => ?_
       try simp only [ltb]
       simp only [hf5,hle5,htk,List.length_cons,memAfter_bl,length_encTys,List.length_map,go_sem,reduceIte,reduceAdd,reduceLT,reduceLeDiff,reduceMul,reduceEqDiff,reduceSub,reduceCtorEq,List.take_length,List.replicate]
       refine hK1 _ ?_
       refine runM_case 55 (by rfl) fun b hb11_16 => ?_
       cases b
       ·cases hb11_16
       ·refine runM_cut 2 (by simp) (by simp) fun K1 hK1 => ?_
        try simp only [ltb]
        simp only [hf5,hle5,htk,List.length_cons,memAfter_bl,length_encTys,List.length_map,go_sem,reduceIte,reduceAdd,reduceLT,reduceLeDiff,reduceMul,reduceEqDiff,reduceSub,reduceCtorEq,List.take_length,List.replicate]
        refine callD_ex rfl (by have h := ment_ok t (by omega); rw [encTy_eq] at h; exact ⟨_, rfl, h⟩) ?_
        rintro _ rfl
        try simp only [hf5,hle5,htk,List.length_cons,memAfter_bl,length_encTys,List.length_map,go_sem,reduceIte,reduceAdd,reduceLT,reduceLeDiff,reduceMul,reduceEqDiff,reduceSub,reduceCtorEq,List.take_length,List.replicate]
        refine hK1 _ ?_
        refine runM_cut 2 (by simp) (by simp) fun K1 hK1 => ?_
        try simp only [ltb]
        simp only [hf5,hle5,htk,List.length_cons,memAfter_bl,length_encTys,List.length_map,go_sem,reduceIte,reduceAdd,reduceLT,reduceLeDiff,reduceMul,reduceEqDiff,reduceSub,reduceCtorEq,List.take_length,List.replicate]
        refine callD_ex rfl (by have h := rment_ok t (by omega); rw [encTy_eq] at h; exact ⟨_, rfl, h⟩) ?_
        rintro _ rfl
        try simp only [hf5,hle5,htk,List.length_cons,memAfter_bl,length_encTys,List.length_map,go_sem,reduceIte,reduceAdd,reduceLT,reduceLeDiff,reduceMul,reduceEqDiff,reduceSub,reduceCtorEq,List.take_length,List.replicate]
        refine hK1 _ ?_
        refine runM_cut 1 (by simp) (by simp) fun K1 hK1 => ?_
        try simp only [ltb]
        simp only [hf5,hle5,htk,List.length_cons,memAfter_bl,length_encTys,List.length_map,go_sem,reduceIte,reduceAdd,reduceLT,reduceLeDiff,reduceMul,reduceEqDiff,reduceSub,reduceCtorEq,List.take_length,List.replicate]
        refine callD_ex rfl (by have h := useEq_ex (gathT ltU usOf t) (gathT ltU usOf t) hml; rw [decide_eq_true rfl] at h; exact h) ?_
        rintro _ rfl
        try simp only [hf5,hle5,htk,List.length_cons,memAfter_bl,length_encTys,List.length_map,go_sem,reduceIte,reduceAdd,reduceLT,reduceLeDiff,reduceMul,reduceEqDiff,reduceSub,reduceCtorEq,List.take_length,List.replicate]
        refine hK1 _ ?_
        try simp only [ltb]
        simp only [hf5,hle5,htk,List.length_cons,memAfter_bl,length_encTys,List.length_map,go_sem,reduceIte,reduceAdd,reduceLT,reduceLeDiff,reduceMul,reduceEqDiff,reduceSub,reduceCtorEq,List.take_length,List.replicate]
        refine hK _ _ rfl ?_
        simp only [mwb,reduceAdd,reduceEqDiff]
        exact ex_ret ⟨.inl rfl, _, rfl, rfl⟩
   ·try simp only [ltb]
    simp only [hf5,hle5,htk,List.length_cons,memAfter_bl,length_encTys,List.length_map,go_sem,reduceIte,reduceAdd,reduceLT,reduceLeDiff,reduceMul,reduceEqDiff,reduceSub,reduceCtorEq,List.take_length]
    refine hK _ _ rfl ?_
    simp only [mwb,reduceAdd,reduceEqDiff]
    refine ex_cond rfl ?_
    refine ex_region_w tt_ok 62 [0,0,0,0,0,0,2] [] rfl rfl fun K hK => ?_
    try simp only [ltb]
    try simp only [ltb]
    simp only [hf5,hle5,htk,List.length_cons,memAfter_bl,length_encTys,List.length_map,go_sem,reduceIte,reduceAdd,reduceLT,reduceLeDiff,reduceMul,reduceEqDiff,reduceSub,reduceCtorEq,List.take_length]
    refine hK _ _ rfl ?_
    simp only [mwb,reduceAdd,reduceEqDiff]
    exact ex_ret ⟨.inl rfl, _, rfl, rfl⟩
  ·refine runX_cut 8 fun K1 hK1 => ?_
   simp only [ltb]
   simp only [hf5,hle5,htk,List.length_cons,memAfter_bl,length_encTys,List.length_map,go_sem,reduceIte,reduceAdd,reduceLT,reduceLeDiff,reduceMul,reduceEqDiff,reduceSub,reduceCtorEq,List.take_length]
   refine hK1 _ ?_
   try simp only [ltb]
   simp only [hf5,hle5,htk,List.length_cons,memAfter_bl,length_encTys,List.length_map,go_sem,reduceIte,reduceAdd,reduceLT,reduceLeDiff,reduceMul,reduceEqDiff,reduceSub,reduceCtorEq,List.take_length]
   refine hK _ _ rfl ?_
   simp only [mwb,reduceAdd,reduceEqDiff]
   refine ex_cond rfl ?_
   refine ex_region_w tt_ok 62 [0,0,0,0,0,0,2] [] rfl rfl fun K hK => ?_
   try simp only [ltb]
   try simp only [ltb]
   simp only [hf5,hle5,htk,List.length_cons,memAfter_bl,length_encTys,List.length_map,go_sem,reduceIte,reduceAdd,reduceLT,reduceLeDiff,reduceMul,reduceEqDiff,reduceSub,reduceCtorEq,List.take_length]
   refine hK _ _ rfl ?_
   simp only [mwb,reduceAdd,reduceEqDiff]
   exact ex_ret ⟨.inl rfl, _, rfl, rfl⟩
theorem variablesLaw_ok (haw : FnOk Tryz.prog 10 [] (bl true)) (t : Ty) (ns : List ByteArray) (us : List Ty) (ht : t.wt ≤ 1048576) (hns : sumBy (fun s : ByteArray => s.size + 1) ns ≤ 1048576) (hus : sumBy Ty.wt us ≤ 1048576) : FnOk Tryz.prog 8 [encTy t, .slice (ns.map str), .slice (encTys us)] (bl true) := by
 obtain ⟨_, rfl, h⟩ := variables_law haw t ns us ht hns hus
 exact h
end Go.Proofs.YtpjdfcigadnhcaaGreatDoor
end

section
namespace Go.Proofs.YtpjdfcigadnhcaaGreatDoor.lawSyntaxVariables
open Go.Eng
set_option maxRecDepth 100000
open Go.ChangeShapes Go.WideShapes Go.ChangeAt Go.RowKit
theorem contract (H : Type) (enc : TypeId × Value → H) (W : World) (args : Array Value) (ds gs : List (DataW H)) (before : List MemPlace) (base : Nat)
  (hok : ∀ (j : Nat) t v, Tryz.f8.params[j]? = some t → args[j]? = some v → Value.okWide Tryz.prog W .any base t v)
  (hW : DataW.Whole enc Tryz.prog Tryz.f8.params.toList Rows.syntaxVariablesSpec.vars false W args.toList ds gs before) (hb : Rows.uptoBulkAll (ds ++ gs) ≤ 1048576) (hS : W.ShapedOpen Tryz.prog) :
  Calls Tryz.prog 8 args W fun e W' => ∃ v, e = .returned v ∧ Rows.syntaxVariablesSpec.post enc Tryz.prog Tryz.f8 false true false false W args v W' := by
 have hW' := hW
 have hlt := hW.lt
 obtain ⟨p, q, hA0, hV, rfl, hfz, hnd⟩ := hW
 have hA : DataW.TrodAll enc Tryz.prog W 0 (fun _ => true) true Tryz.f8.params.toList args.toList ds p := hA0
 rw [Tryz.params8] at hA
 obtain ⟨v0, vs0, d0, ds0, p0, q0, hargs, rfl, rfl, h0, r0⟩ := trodAll_cons hA
 obtain ⟨v1, vs1, d1, ds1, p1, q1, rfl, rfl, rfl, h1, r1⟩ := trodAll_cons r0
 obtain ⟨v2, vs2, d2, ds2, p2, q2, rfl, rfl, rfl, h2, r2⟩ := trodAll_cons r1
 obtain ⟨rfl, rfl, rfl⟩ := trodAll_nil r2
 obtain rfl : args = #[v0, v1, v2] := by cases args; simp_all
 obtain ⟨rfl, rfl⟩ := trodVars_none hV
 rw [Tryz.params8] at hok
 obtain ⟨a1, l1, c1, rfl⟩ := okWide_slice Tryz.underlying46 (hok 1 46 v1 rfl rfl)
 obtain ⟨a2, l2, c2, rfl⟩ := okWide_slice Tryz.underlying22 (hok 2 22 v2 rfl rfl)
 clear hok
 clear hA0 hA r0 r1 r2 hargs hV
 simp only [List.append_nil] at hW' hlt
 simp only [ltb,List.append_nil,Rows.uptoBulkAll] at hb
 have h0' := h0
 have h1' := h1
 have h2' := h2
 obtain ⟨f0, h0⟩ := h0
 obtain ⟨f1, h1⟩ := h1
 obtain ⟨f2, h2⟩ := h2
 have main : Calls Tryz.prog 8 #[v0, .slice a1 l1 c1, .slice a2 l2 c2] W fun e W' => e = .returned (.bool true) ∧ Below W.heap.size W W' := by
  obtain ⟨n, hn⟩ := maxLen_at hS
  have go : ∀ (G : Glob) (hG : G.g = some 0) (hg : @Gl G W.cell?), @FnOk G Tryz.prog 10 [] tru → Calls Tryz.prog 8 #[v0, .slice a1 l1 c1, .slice a2 l2 c2] W fun e W' => e = .returned (.bool true) ∧ Below W.heap.size W W' := fun G hG hg haw => by
   obtain ⟨x0, hx0, b0⟩ := rd_ty (F := W.cell?) (hg := hg) rfl _ h0
   obtain ⟨x1, hx1, b1⟩ := rd_strs (F := W.cell?) (hg := hg) rfl _ h1
   obtain ⟨x2, hx2, b2⟩ := rd_tys (F := W.cell?) (hg := hg) rfl _ h2
   rw [encTy_eq] at hx0
   have hc := variablesLaw_ok haw x0 x1 x2 (by omega) (by omega) (by omega)
   refine (hc.2 W.cell? hg W #[v0, .slice a1 l1 c1, .slice a2 l2 c2] (fun _ _ h => h) ?_).mono fun o W' h => ?_
   ·simp only [encTy_eq]
    exact .cons (rep_one (by simp [tyCells]) hx0) (.cons (rep_sl hx1) (.cons (rep_sl hx2) (.nil _)))
   ·obtain ⟨F', x, rfl, -, -, -, ⟨hg', hx⟩, hbel⟩ := h
    obtain rfl := rep_sc hx
    exact ⟨rfl, hbel⟩
  by_cases hge : 4 ≤ n
  ·exact go (gGe n hge) rfl (@Gl.mk (gGe n hge) _ (fun g hg => by cases hg; exact hn) (fun g cs j x h => by cases h)) (awake_ge n hge)
  ·by_cases he3 : n = 3
   ·subst he3
    exact go gEq rfl (@Gl.mk gEq _ (fun g hg => by cases hg; exact hn) (fun g cs j x h => by cases h)) awake_eq
   ·have hl : n < 3 := by omega
    exact go (gLt n hl) rfl (@Gl.mk (gLt n hl) _ (fun g hg => by cases hg; exact hn) (fun g cs j x h => by cases h)) (awake_lt n hl)
 refine main.mono fun e W' ⟨he, hbel⟩ => ?_
 subst he
 have hlaid : laidOutB Tryz.prog = true := by kernel_rfl
 refine ⟨_, rfl, post_kept (pa := p0 ++ (p1 ++ (p2 ++ []))) (pv := []) hW' (fun _ _ _ => trodAll_cons_mk (shut_bool Tryz.underlying4 _) trodAll_mk0) (fun sp hsp => ?_) (fun _ _ => rfl) (by simp)
  hbel (ok_one (by kernel_rfl) rfl (okWide_bool_mk Tryz.underlying4 _))⟩
 ·refine trodAll_cons_mk (WideElems.Trod_stays hlaid (by kernel_rfl) (of_decide_eq_true (by kernel_rfl)) h0' (fun x hx => hbel.same (hlt x (by simp [hx]))) (fun x hx => hsp x (by simp [hx])))
   (trodAll_cons_mk (WideElems.Trod_stays hlaid (by kernel_rfl) (of_decide_eq_true (by kernel_rfl)) h1' (fun x hx => hbel.same (hlt x (by simp [hx]))) (fun x hx => hsp x (by simp [hx])))
   (trodAll_cons_mk (WideElems.Trod_stays hlaid (by kernel_rfl) (of_decide_eq_true (by kernel_rfl)) h2' (fun x hx => hbel.same (hlt x (by simp [hx]))) (fun x hx => hsp x (by simp [hx])))
   trodAll_mk0))
end Go.Proofs.YtpjdfcigadnhcaaGreatDoor.lawSyntaxVariables
end

section
namespace Go.Proofs.YtpjdfcigadnhcaaGreatDoor
open Go.ChangeShapes Go.WideShapes Go.ChangeAt Go.RowKit
theorem own : ownKnob Tryz.prog.godebug = none := by kernel_rfl
def wTy : Value := .agg #[.int .i64 0, .string ⟨#[]⟩, .string ⟨#[]⟩, .slice none 0 0, .slice none 0 0]
def dTy (H : Type) : DataW H := .agg [.lit (.int .i64 0), .lit (.string []), .lit (.string []), .nil, .nil]
def layAs (cs : Array Value) : Obj → Obj
 | .cells _ t frozen => .cells cs t frozen
 | o => o
def accZ : List Nat := [128,191,160,191,128,159,144,191,128,143,0,0,0,0,0,0,0,0,0,0,0,0,0,0,0,0,0,0,0,0,0,0]
noncomputable def laidWorld (os : Os) : World :=
 { World.holding Tryz.prog os ⟨#[], #[], []⟩ with heap := ((World.holding Tryz.prog os ⟨#[], #[], []⟩).heap.modify 1 (layAs ⟨Pinned.utf8FirstZ.map fun n => Value.int .u8 (Int.ofNat n)⟩)).modify 2 (layAs ⟨accZ.map fun n => Value.int .u8 (Int.ofNat n)⟩) }
end Go.Proofs.YtpjdfcigadnhcaaGreatDoor
end
