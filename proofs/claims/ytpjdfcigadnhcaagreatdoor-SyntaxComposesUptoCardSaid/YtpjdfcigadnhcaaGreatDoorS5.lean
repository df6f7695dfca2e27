/-
  MAPS OF NAMES: what the set of a type's variables comes to.
  CONTRACTS: the library's contracts on slices.Sorted over the keys of a map, laid at this program (the layings' tables by the kit's lay-plain).
  CONTRACTS: slices.Sorted at the keys of a map, by the kit's contract.
  CONTRACTS: the range over the nodes of a type, with what is known of each node.
  CONTRACTS: Free of the program: the names of a type's variables, in their order.
  CONTRACTS: fewTypes.
  CONTRACTS: EqualTypes of the program.
  THE LAW SyntaxComposes itself.
  THE LAW SyntaxComposes, A: what it does at every argument of the bound, in every world of the shape.
  CLOSING, B: a world for the witness.
-/
import Derived.Test.YtpjdfcigadnhcaaGreatDoorS4
import Derived.Sort.KeysCollected
import Derived.Shelf.SlIter.Nil
import Derived.Shelf.SortM.Plain
import Derived.Shelf.SortM.SortNone
import Derived.Ground.GgzProg
import Derived.Ground.SlgmProg
import Derived.Test.YtpjdfcigadnhcaaGreatDoorProg
import Derived.Test.YtpjdfcigadnhcaaGreatDoorCards
import Derived.Test.YtpjdfcigadnhcaaGreatDoorTie
import Derived.Lib.LaidTab
set_option linter.all false
section
namespace Go.Proofs.YtpjdfcigadnhcaaGreatDoor
open Go.Eng
variable [Glob]
def NGood (s : List (Value × Nat × V) × Nat) : Prop :=
 (∀ e ∈ s.1, (∃ a : ByteArray, e.1 = .string a ∧ a.size ≤ 1048576) ∧ e.2.2 = bl true ∧ e.2.1 < s.2) ∧ (s.1.map fun e => e.2.1).Nodup ∧ (s.1.map fun e => e.1).Nodup
theorem NGood.nil : NGood ([], 0) := ⟨fun e he => by simp at he, by simp, by simp⟩
theorem NGood.below {s : List (Value × Nat × V) × Nat} (h : NGood s) (n : Nat) : (s.1.all fun e => belowV n e.2.2) = true := List.all_eq_true.2 fun e he => by
 rw [(h.1 e he).2.1]; rfl
theorem keyN : ∃ et, KeyT Tryz.prog 96 9 et isStrK := ⟨4, keyT_str (by kernel_rfl) (by kernel_rfl)⟩
theorem NGood.ins {s : List (Value × Nat × V) × Nat} (h : NGood s) (n : ByteArray) (hn : n.size ≤ 1048576) : ∃ s', NGood s' ∧ insertAt Tryz.prog 9 (.string n) (bl true) s.1 s.2 = some s' ∧
  (∀ k, (∃ e ∈ s'.1, e.1 = .string k) ↔ k = n ∨ ∃ e ∈ s.1, e.1 = .string k) ∧ s'.1.length ≤ s.1.length + 1 := by
 obtain ⟨et, hK⟩ := keyN
 obtain ⟨h1, h2, h3⟩ := h
 rcases insert_at (cl := s.2) hK (k := .string n) ⟨n, rfl⟩ (fun e he => let ⟨a, ha, _⟩ := (h1 e he).1; ⟨a, ha⟩) (bl true) with ⟨hi, hno⟩ | ⟨i, e, he, hk, hi⟩
 ·refine ⟨_, ⟨fun e he => ?_, ?_, ?_⟩, hi, fun k => ?_, by simp⟩
  ·rcases List.mem_append.1 he with he | he
   ·obtain ⟨p1, p2, p3⟩ := h1 e he
    exact ⟨p1, p2, Nat.lt_succ_of_lt p3⟩
   ·rw [List.mem_singleton] at he; subst he
    exact ⟨⟨n, rfl, hn⟩, rfl, Nat.lt_succ_self _⟩
  ·simp only [List.map_append,List.map_cons,List.map_nil]
   rw [List.nodup_append]
   refine ⟨h2, by simp, fun a ha b hb => ?_⟩
   rw [List.mem_singleton] at hb; subst hb
   obtain ⟨e, he, rfl⟩ := List.mem_map.1 ha
   exact Nat.ne_of_lt (h1 e he).2.2
  ·simp only [List.map_append,List.map_cons,List.map_nil]
   rw [List.nodup_append]
   refine ⟨h3, by simp, fun a ha b hb => ?_⟩
   rw [List.mem_singleton] at hb; subst hb
   obtain ⟨e, he, rfl⟩ := List.mem_map.1 ha
   exact hno e he
  ·constructor
   ·rintro ⟨e, he, hk⟩
    rcases List.mem_append.1 he with he | he
    ·exact .inr ⟨e, he, hk⟩
    ·rw [List.mem_singleton] at he; subst he
     cases hk; exact .inl rfl
   ·rintro (rfl | ⟨e, he, hk⟩)
    ·exact ⟨_, List.mem_append_right _ (List.mem_singleton.2 rfl), rfl⟩
    ·exact ⟨e, List.mem_append_left _ he, hk⟩
 ·have hlt := (List.getElem?_eq_some_iff.1 he).1
  have hm := List.mem_of_getElem? he
  have q : ∀ {β : Type} (f : Value × Nat × V → β), f (.string n, e.2.1, bl true) = f e → (s.1.set i (.string n, e.2.1, bl true)).map f = s.1.map f := fun f hf => by
   rw [List.map_set, hf]
   apply List.ext_getElem?
   intro j
   rw [List.getElem?_set]
   split
   ·rename_i hij; subst hij
    rw [if_pos (by simpa using hlt), List.getElem?_map, he]; rfl
   ·rfl
  refine ⟨_, ⟨fun e' he' => ?_, ?_, ?_⟩, hi, fun k => ?_, by simp⟩
  ·rcases List.mem_or_eq_of_mem_set he' with he' | rfl
   ·exact h1 e' he'
   ·exact ⟨⟨n, rfl, hn⟩, rfl, (h1 e hm).2.2⟩
  ·have := q (fun e => e.2.1) rfl
   dsimp only at this ⊢
   rw [this]; exact h2
  ·have := q (fun e => e.1) hk.symm
   dsimp only at this ⊢
   rw [this]; exact h3
  ·have q1 := q (fun e => e.1) hk.symm
   have q2 : ∀ l : List (Value × Nat × V), (∃ e ∈ l, e.1 = .string k) ↔ Value.string k ∈ l.map fun e => e.1 := fun l => by simp [List.mem_map, eq_comm]
   rw [q2, q1, ← q2]
   constructor
   ·exact .inr
   ·rintro (rfl | h)
    ·exact ⟨e, hm, hk⟩
    ·exact h
open Classical in
noncomputable def insN (s : { s // NGood s }) (n : ByteArray) : { s // NGood s } := if h : n.size ≤ 1048576 then ⟨Classical.choose (s.2.ins n h), (Classical.choose_spec (s.2.ins n h)).1⟩ else s
theorem insN_ok (s : { s // NGood s }) (n : ByteArray) (hn : n.size ≤ 1048576) : insertAt Tryz.prog 9 (.string n) (bl true) s.1.1 s.1.2 = some (insN s n).1 ∧
  (∀ k, (∃ e ∈ (insN s n).1.1, e.1 = .string k) ↔ k = n ∨ ∃ e ∈ s.1.1, e.1 = .string k) ∧ (insN s n).1.1.length ≤ s.1.1.length + 1 := by
 unfold insN
 rw [dif_pos hn]
 exact (Classical.choose_spec (s.2.ins n hn)).2
noncomputable def stepN (s : { s // NGood s }) (u : Ty) : { s // NGood s } := if decide (u.kind = 9) = true then insN s u.name else s
theorem stepN_fold : ∀ (l : List Ty) (s : { s // NGood s }), (∀ u ∈ l, u.name.size ≤ 1048576) →
  (∀ k, (∃ e ∈ (l.foldl stepN s).1.1, e.1 = .string k) ↔ (∃ u ∈ l, u.kind = 9 ∧ u.name = k) ∨ ∃ e ∈ s.1.1, e.1 = .string k) ∧ (l.foldl stepN s).1.1.length ≤ s.1.1.length + l.length
 | [], s, _ => ⟨fun k => by simp, by simp⟩
 | u :: r, s, h => by
  obtain ⟨h1, h2⟩ := stepN_fold r (stepN s u) fun v hv => h v (List.mem_cons_of_mem _ hv)
  rw [List.foldl_cons]
  by_cases h9 : u.kind = 9
  ·have e0 : stepN s u = insN s u.name := by unfold stepN; rw [if_pos (decide_eq_true h9)]
   obtain ⟨-, h3, h4⟩ := insN_ok s u.name (h u (List.mem_cons_self ..))
   rw [e0] at h1 h2 ⊢
   refine ⟨fun k => ?_, by rw [List.length_cons]; omega⟩
   rw [h1 k, h3 k]
   constructor
   ·rintro (⟨v, hv, hv9, hvk⟩ | rfl | he)
    ·exact .inl ⟨v, List.mem_cons_of_mem _ hv, hv9, hvk⟩
    ·exact .inl ⟨u, List.mem_cons_self .., h9, rfl⟩
    ·exact .inr he
   ·rintro (⟨v, hv, hv9, hvk⟩ | he)
    ·rcases List.mem_cons.1 hv with rfl | hv
     ·exact .inr (.inl hvk.symm)
     ·exact .inl ⟨v, hv, hv9, hvk⟩
    ·exact .inr (.inr he)
  ·have e0 : stepN s u = s := by unfold stepN; rw [if_neg (by simpa using h9)]
   rw [e0] at h1 h2 ⊢
   refine ⟨fun k => ?_, by rw [List.length_cons]; omega⟩
   rw [h1 k]
   constructor
   ·rintro (⟨v, hv, hv9, hvk⟩ | he)
    ·exact .inl ⟨v, List.mem_cons_of_mem _ hv, hv9, hvk⟩
    ·exact .inr he
   ·rintro (⟨v, hv, hv9, hvk⟩ | he)
    ·rcases List.mem_cons.1 hv with rfl | hv
     ·exact absurd hv9 h9
     ·exact .inl ⟨v, hv, hv9, hvk⟩
    ·exact .inr he
noncomputable def varMap (t : Ty) : { s // NGood s } := t.nodes.foldl stepN ⟨([], 0), NGood.nil⟩
theorem varMap_keys (t : Ty) (h : ∀ u ∈ t.nodes, u.name.size ≤ 1048576) (k : ByteArray) : (∃ e ∈ (varMap t).1.1, e.1 = .string k) ↔ k ∈ t.vars := by
 rw [varMap, (stepN_fold t.nodes _ h).1 k]
 unfold Ty.vars
 constructor
 ·rintro (⟨u, hu, h9, rfl⟩ | ⟨e, he, -⟩)
  ·exact List.mem_map.2 ⟨u, List.mem_filter.2 ⟨hu, decide_eq_true h9⟩, rfl⟩
  ·simp at he
 ·intro hk
  obtain ⟨u, hu, rfl⟩ := List.mem_map.1 hk
  obtain ⟨h1, h2⟩ := List.mem_filter.1 hu
  exact .inl ⟨u, h1, of_decide_eq_true h2, rfl⟩
theorem varMap_length (t : Ty) (h : ∀ u ∈ t.nodes, u.name.size ≤ 1048576) : (varMap t).1.1.length ≤ t.size := by
 have := (stepN_fold t.nodes ⟨([], 0), NGood.nil⟩ h).2
 rw [Ty.nodes_length _ t (Nat.le_refl _)] at this
 simpa [varMap] using this
def keyB (e : Value × Nat × V) : List UInt8 := match e.1 with
 | .string a => a.data.toList
 | _ => []
def sortedN (s : List (Value × Nat × V)) : List ByteArray := ((s.map keyB).mergeSort leB).map fun l => (⟨l.toArray⟩ : ByteArray)
theorem sortedN_mem {s : List (Value × Nat × V) × Nat} (h : NGood s) (k : ByteArray) : k ∈ sortedN s.1 ↔ ∃ e ∈ s.1, e.1 = .string k := by
 unfold sortedN
 rw [List.mem_map]
 constructor
 ·rintro ⟨l, hl, rfl⟩
  rw [List.mem_mergeSort] at hl
  obtain ⟨e, he, rfl⟩ := List.mem_map.1 hl
  obtain ⟨⟨a, ha, -⟩, -, -⟩ := h.1 e he
  refine ⟨e, he, ?_⟩
  rw [ha]; unfold keyB; rw [ha]
 ·rintro ⟨e, he, hk⟩
  refine ⟨k.data.toList, ?_, by cases k; rfl⟩
  rw [List.mem_mergeSort]
  exact List.mem_map.2 ⟨e, he, by unfold keyB; rw [hk]⟩
end Go.Proofs.YtpjdfcigadnhcaaGreatDoor
end

section
namespace Go.Proofs.YtpjdfcigadnhcaaGreatDoor
open Go.RowKit Go.Maps Go.Sort Go.Shelf
def keys67_ren : Go.Shelf.Ren := ⟨fun | 7 => 67 | 10 => 107 | n => n, fun | 23 => 96 | 26 => 9 | 3 => 4 | 28 => 99 | 0 => 0 | 27 => 98 | 33 => 56 | 4 => 4 | n => n, fun | n => n⟩
theorem keys67 : Go.Proofs.SlLaysZ.n7 Tryz.prog keys67_ren := {
  mixed := by kernel_rfl
  f7 := ⟨Tryz.f67.name, by decide, Tryz.func67.trans (congrArg some (by kernel_rfl))⟩
  f10 := ⟨Tryz.f107.name, by decide, Tryz.func107.trans (congrArg some (by kernel_rfl))⟩
  t0 := Tryz.underlying0
  a0 := Tryz.isAgg0
  z0 := Tryz.sizeOf0
  v0 := Tryz.zeroValue0
  t4 := Tryz.underlying4
  a4 := Tryz.isAgg4
  z4 := Tryz.sizeOf4
  v4 := Tryz.zeroValue4
  t23 := Tryz.underlying96
  a23 := Tryz.isAgg96
  z23 := Tryz.sizeOf96
  v23 := Tryz.zeroValue96
  t26 := Tryz.underlying9
  a26 := Tryz.isAgg9
  z26 := Tryz.sizeOf9
  v26 := Tryz.zeroValue9
  t27 := Tryz.underlying98
  a27 := Tryz.isAgg98
  z27 := Tryz.sizeOf98
  v27 := Tryz.zeroValue98
  t28 := Tryz.underlying99
  a28 := Tryz.isAgg99
  z28 := Tryz.sizeOf99
  v28 := Tryz.zeroValue99
  t33 := Tryz.underlying56
  a33 := Tryz.isAgg56
  z33 := Tryz.sizeOf56
  v33 := Tryz.zeroValue56 }
def sorted66_ren : Go.Shelf.Ren := ⟨fun | 6 => 66 | 8 => 106 | 9 => 42 | 11 => 159 | 13 => 89 | 12 => 88 | 23 => 136 | 24 => 137 | 14 => 127 | 15 => 128 | 16 => 129 | 17 => 130 | 18 => 131 | 19 => 132 | 20 => 133 | 21 => 134 | 22 => 135 | 25 => 175 | 26 => 176 | 27 => 177 | 28 => 178 | 29 => 179 | 30 => 125 | 31 => 196 | n => n, fun | 26 => 9 | 28 => 99 | 24 => 46 | 0 => 0 | 3 => 3 | 37 => 125 | 48 => 160 | 50 => 162 | 4 => 4 | 40 => 152 | 39 => 151 | 45 => 157 | 5 => 5 | 9 => 9 | 51 => 180 | 55 => 184 | 57 => 194 | 58 => 195 | 33 => 56 | n => n, fun | n => n⟩
theorem sorted66 : Go.Proofs.SlLaysZ.n6 Tryz.prog sorted66_ren := {
  mixed := by kernel_rfl
  f6 := ⟨Tryz.f66.name, by decide, Tryz.func66.trans (congrArg some (by kernel_rfl))⟩
  f8 := ⟨Tryz.f106.name, by decide, Tryz.func106.trans (congrArg some (by kernel_rfl))⟩
  f11 := ⟨Tryz.f159.name, by decide, Tryz.func159.trans (congrArg some (by kernel_rfl))⟩
  t0 := Tryz.underlying0
  a0 := Tryz.isAgg0
  z0 := Tryz.sizeOf0
  v0 := Tryz.zeroValue0
  t24 := Tryz.underlying46
  a24 := Tryz.isAgg46
  z24 := Tryz.sizeOf46
  v24 := Tryz.zeroValue46
  t26 := Tryz.underlying9
  a26 := Tryz.isAgg9
  z26 := Tryz.sizeOf9
  v26 := Tryz.zeroValue9
  t28 := Tryz.underlying99
  a28 := Tryz.isAgg99
  z28 := Tryz.sizeOf99
  v28 := Tryz.zeroValue99
  i26 := by kernel_rfl }
def sort42_ren : Go.Shelf.Ren := ⟨fun | 6 => 42 | 8 => 89 | 9 => 88 | 19 => 136 | 20 => 137 | 21 => 127 | 22 => 128 | 23 => 129 | 24 => 130 | 25 => 131 | 26 => 132 | 27 => 133 | 28 => 134 | 29 => 135 | 36 => 175 | 31 => 176 | 32 => 177 | 37 => 178 | 38 => 179 | 39 => 125 | 41 => 196 | n => n, fun | 27 => 46 | 29 => 9 | 3 => 3 | 32 => 125 | 26 => 46 | 0 => 0 | 44 => 160 | 46 => 162 | 4 => 4 | 36 => 152 | 35 => 151 | 41 => 157 | 5 => 5 | 9 => 9 | 53 => 180 | 57 => 184 | 63 => 194 | 64 => 195 | n => n, fun | n => n⟩
theorem sort42 : Go.Proofs.SlLaysM.n6 Tryz.prog sort42_ren := {
  mixed := by kernel_rfl
  f6 := ⟨Tryz.f42.name, by decide, Tryz.func42.trans (congrArg some (by kernel_rfl))⟩
  f8 := Tryz.func89.trans (congrArg some (by kernel_rfl))
  f9 := ⟨Tryz.f88.name, by decide, Tryz.func88.trans (congrArg some (by kernel_rfl))⟩
  f19 := Tryz.func136.trans (congrArg some (by kernel_rfl))
  f20 := Tryz.func137.trans (congrArg some (by kernel_rfl))
  f21 := ⟨Tryz.f127.name, by decide, Tryz.func127.trans (congrArg some (by kernel_rfl))⟩
  f22 := ⟨Tryz.f128.name, by decide, Tryz.func128.trans (congrArg some (by kernel_rfl))⟩
  f23 := ⟨Tryz.f129.name, by decide, Tryz.func129.trans (congrArg some (by kernel_rfl))⟩
  f24 := ⟨Tryz.f130.name, by decide, Tryz.func130.trans (congrArg some (by kernel_rfl))⟩
  f25 := ⟨Tryz.f131.name, by decide, Tryz.func131.trans (congrArg some (by kernel_rfl))⟩
  f26 := ⟨Tryz.f132.name, by decide, Tryz.func132.trans (congrArg some (by kernel_rfl))⟩
  f27 := ⟨Tryz.f133.name, by decide, Tryz.func133.trans (congrArg some (by kernel_rfl))⟩
  f28 := ⟨Tryz.f134.name, by decide, Tryz.func134.trans (congrArg some (by kernel_rfl))⟩
  f29 := ⟨Tryz.f135.name, by decide, Tryz.func135.trans (congrArg some (by kernel_rfl))⟩
  f31 := Tryz.func176.trans (congrArg some (by kernel_rfl))
  f32 := Tryz.func177.trans (congrArg some (by kernel_rfl))
  f36 := ⟨Tryz.f175.name, by decide, Tryz.func175.trans (congrArg some (by kernel_rfl))⟩
  f37 := ⟨Tryz.f178.name, by decide, Tryz.func178.trans (congrArg some (by kernel_rfl))⟩
  f38 := ⟨Tryz.f179.name, by decide, Tryz.func179.trans (congrArg some (by kernel_rfl))⟩
  f39 := ⟨Tryz.f125.name, by decide, Tryz.func125.trans (congrArg some (by kernel_rfl))⟩
  f41 := ⟨Tryz.f196.name, by decide, Tryz.func196.trans (congrArg some (by kernel_rfl))⟩
  t0 := Tryz.underlying0
  a0 := Tryz.isAgg0
  z0 := Tryz.sizeOf0
  v0 := Tryz.zeroValue0
  t3 := Tryz.underlying3
  a3 := Tryz.isAgg3
  z3 := Tryz.sizeOf3
  v3 := Tryz.zeroValue3
  t4 := Tryz.underlying4
  a4 := Tryz.isAgg4
  z4 := Tryz.sizeOf4
  v4 := Tryz.zeroValue4
  t5 := Tryz.underlying5
  a5 := Tryz.isAgg5
  z5 := Tryz.sizeOf5
  v5 := Tryz.zeroValue5
  t9 := Tryz.underlying9
  a9 := Tryz.isAgg9
  z9 := Tryz.sizeOf9
  v9 := Tryz.zeroValue9
  t26 := Tryz.underlying46
  a26 := Tryz.isAgg46
  z26 := Tryz.sizeOf46
  v26 := Tryz.zeroValue46
  t27 := Tryz.underlying46
  a27 := Tryz.isAgg46
  z27 := Tryz.sizeOf46
  v27 := Tryz.zeroValue46
  t29 := Tryz.underlying9
  a29 := Tryz.isAgg9
  z29 := Tryz.sizeOf9
  v29 := Tryz.zeroValue9
  t32 := Tryz.underlying125
  a32 := Tryz.isAgg125
  z32 := Tryz.sizeOf125
  v32 := Tryz.zeroValue125
  t35 := Tryz.underlying151
  a35 := Tryz.isAgg151
  z35 := Tryz.sizeOf151
  v35 := Tryz.zeroValue151
  t36 := Tryz.underlying152
  a36 := Tryz.isAgg152
  z36 := Tryz.sizeOf152
  v36 := Tryz.zeroValue152
  t41 := Tryz.underlying157
  a41 := Tryz.isAgg157
  z41 := Tryz.sizeOf157
  v41 := Tryz.zeroValue157
  t44 := Tryz.underlying160
  a44 := Tryz.isAgg160
  z44 := Tryz.sizeOf160
  v44 := Tryz.zeroValue160
  t46 := Tryz.underlying162
  a46 := Tryz.isAgg162
  z46 := Tryz.sizeOf162
  v46 := Tryz.zeroValue162
  t53 := Tryz.underlying180
  a53 := Tryz.isAgg180
  z53 := Tryz.sizeOf180
  v53 := Tryz.zeroValue180
  t57 := Tryz.underlying184
  a57 := Tryz.isAgg184
  z57 := Tryz.sizeOf184
  v57 := Tryz.zeroValue184
  t63 := Tryz.underlying194
  a63 := Tryz.isAgg194
  z63 := Tryz.sizeOf194
  v63 := Tryz.zeroValue194
  t64 := Tryz.underlying195
  a64 := Tryz.isAgg195
  z64 := Tryz.sizeOf195
  v64 := Tryz.zeroValue195 }
theorem sorts66 (m : Nat) : Go.Proofs.AnyZ.SortsIn Tryz.prog sorted66_ren Fence.wide m :=
  ⟨fun blk off cap ss W hH hblk hsz => callsIn_wide.2 (Go.Proofs.AnyM.slices_Sort_string sort42 blk off cap ss W hH hblk hsz),
   fun p cap W => callsIn_wide.2 (Go.Proofs.AnyM.slices_Sort_string_none sort42 p cap W)⟩
end Go.Proofs.YtpjdfcigadnhcaaGreatDoor
end

section
namespace Go.Proofs.YtpjdfcigadnhcaaGreatDoor
open Go.Eng
open Go.RowKit (Below)
open Go.WideElems (Fit rd rg)
open Go.Proofs (encStr)
variable [Glob]
def readN : Value → Option (DataW Unit × List MemPlace) := fun _ => some (.nil, [])
theorem bytes_of (a : ByteArray) : (⟨a.data.toList.toArray⟩ : ByteArray) = a := by cases a; rfl
theorem srt_ok (m : List Blk) (k kb : Nat) (s : List (Value × Nat × V) × Nat) (hg : NGood s) (hk : m[k]? = some (.box [.mp kb])) (hkb : m[kb]? = some (.map s.1 s.2)) (hl : s.1.length ≤ 1048576) :
  FnOkS Tryz.prog 66 [.clo (.func 107) [] [.ptr k 0]] m (.ms m.length 0 0 (sortedN s.1).length) (m ++ [.rows 0 1 ((sortedN s.1).map str)]) := by
 refine ⟨Tryz.call66, fun E w xs hs hx => ?_⟩
 obtain ⟨x, ys, hxs, hr, hrest⟩ := hx.of_cons
 have hys := hrest.of_nil
 subst hys
 obtain rfl : xs = #[x] := by cases xs; simp_all
 obtain ⟨g, e, c, rfl, hbk⟩ : ∃ g e c, x = .func (.func 107) #[] #[.pointer (some ⟨g, 0, none⟩)] ∧ E.blk k 0 = some (g, e, c) := by
  cases hr with
  | clo _ f first cap xs ys h1 h2 h3 h4 =>
   obtain rfl : xs = #[] := Array.eq_empty_of_size_eq_zero (by simpa using h1.symm)
   obtain ⟨y, rfl⟩ : ∃ y, ys = #[y] := by
    cases ys with
    | mk l =>
     match l, h2 with
     | [y], _ => exact ⟨y, rfl⟩
     | [], h2 => simp at h2
     | _ :: _ :: _, h2 => simp at h2
   have h5 := h4 0 (.ptr k 0) y rfl rfl
   cases h5 with
   | ptr _ _ _ g e c hb => exact ⟨g, e, c, rfl, hb⟩
 obtain ⟨g', T, bs, hb1, hh, hrl, -⟩ := hs.mem k _ hk
 rw [hbk] at hb1; cases hb1
 obtain ⟨y, zs, hy, hry, hrz⟩ := hrl.of_cons
 have hzs := hrz.of_nil
 subst hzs
 obtain ⟨gm, e2, c2, rfl, hbm⟩ := mp_inv hry
 obtain rfl : bs = #[.map (some gm)] := by cases bs; simp_all
 obtain ⟨gm', es, hb2, hh2, hrm, -⟩ := hs.mem kb _ hkb
 rw [hbm] at hb2; cases hb2
 have hu9 : Tryz.prog.underlying 9 = some .string := Tryz.underlying9
 have len : s.1.length = es.toList.length := hrm.1
 have pair : ∀ (i : Nat) (x : MapEntry), es.toList[i]? = some x → ∃ q, s.1[i]? = some q ∧ x.key = q.1 ∧ x.born = q.2.1 := fun i x hi => by
  obtain ⟨q, hq⟩ : ∃ q, s.1[i]? = some q := ⟨_, List.getElem?_eq_getElem (by rw [len]; exact (List.getElem?_eq_some_iff.1 hi).1)⟩
  obtain ⟨p1, p2, -⟩ := hrm.2 i q x hq hi
  exact ⟨q, hq, p1, p2⟩
 have hkeys : es.toList.map (·.key) = s.1.map (fun q => q.1) := by
  apply List.ext_getElem?
  intro i
  rw [List.getElem?_map, List.getElem?_map]
  cases hi : es.toList[i]? with
  | none => rw [List.getElem?_eq_none (by rw [len]; exact List.getElem?_eq_none_iff.1 hi)]; rfl
  | some x =>
   obtain ⟨q, hq, p1, -⟩ := pair i x hi
   rw [hq]; simp [p1]
 have hborn : es.toList.map (·.born) = s.1.map (fun q => q.2.1) := by
  apply List.ext_getElem?
  intro i
  rw [List.getElem?_map, List.getElem?_map]
  cases hi : es.toList[i]? with
  | none => rw [List.getElem?_eq_none (by rw [len]; exact List.getElem?_eq_none_iff.1 hi)]; rfl
  | some x =>
   obtain ⟨q, hq, -, p2⟩ := pair i x hi
   rw [hq]; simp [p2]
 have ent : ∀ x ∈ es.toList, ∃ a : ByteArray, x.key = .string a ∧ a.size ≤ 1048576 ∧ x.born < s.2 := fun x hx => by
  obtain ⟨i, hi⟩ := List.mem_iff_getElem?.1 hx
  obtain ⟨q, hq, p1, p2⟩ := pair i x hi
  obtain ⟨⟨a, ha, hs1⟩, -, hs2⟩ := hg.1 q (List.mem_of_getElem? hq)
  exact ⟨a, by rw [p1, ha], hs1, by rw [p2]; exact hs2⟩
 have hmaxv : (1048576 : Nat) ≤ maxLen := by decide
 have hrd : ∀ x ∈ es.toList, ∃ a : ByteArray, x.key = .string a ∧ rd Tryz.prog 9 readN x = some (.string a.data.toList, .nil) := fun x hx => by
  obtain ⟨a, ha, hsz, -⟩ := ent x hx
  refine ⟨a, ha, ?_⟩
  have : keyOf Tryz.prog 9 x.key = some (.string a.data.toList) := by
   unfold keyOf
   rw [hu9, ha]
   dsimp only
   unfold mapKey
   rw [hu9]
   dsimp only
   rw [if_pos (by omega)]
  unfold rd
  rw [this]; rfl
 have hF : Fit Tryz.prog 9 readN es s.2 := ⟨by rw [← Array.length_toList, ← len]; omega, ⟨fun x hx => (ent x hx).choose_spec.2.2, by rw [hborn]; exact hg.2.1, by rw [hkeys]; exact hg.2.2⟩, fun x hx => let ⟨_, _, h⟩ := hrd x hx; ⟨_, h⟩⟩
 obtain ⟨D0, hD0⟩ : ∃ D0 : DataW Unit, D0 = .map ((es.toList.map (rg Tryz.prog 9 readN)).foldr DataW.insert []) := ⟨_, rfl⟩
 have hown : w.ownsMap Tryz.prog 9 readN gm es.size D0 := ⟨es, s.2, hh2, hF, Nat.le_refl _, hD0⟩
 have hperm : (strKeys D0).Perm (s.1.map keyB) := by
  rw [hD0]
  simp only [strKeys]
  refine ((Go.WideShapes.sorted_perm _).map _).trans ?_
  rw [List.map_map]
  refine List.Perm.of_eq ?_
  apply List.ext_getElem?
  intro i
  rw [List.getElem?_map, List.getElem?_map]
  cases hi : es.toList[i]? with
  | none => rw [List.getElem?_eq_none (by rw [len]; exact List.getElem?_eq_none_iff.1 hi)]; rfl
  | some x =>
   obtain ⟨q, hq, p1, -⟩ := pair i x hi
   obtain ⟨a, ha, hr⟩ := hrd x (List.mem_of_getElem? hi)
   rw [hq]
   simp only [Option.map_some,Function.comp,rg,hr,Option.getD_some,strOf]
   unfold keyB
   rw [← p1, ha]
 have hsize : Maps.size D0 = s.1.length := by
  rw [hD0]
  simp only [Maps.size]
  rw [(Go.WideShapes.sorted_perm _).length_eq, List.length_map, len]
 have hlt : g < w.heap.size := (Array.getElem?_eq_some_iff.1 hh).1
 have hcell : w.cell? ⟨g, 0, none⟩ = some (.map (some gm)) := by simp [World.cell?, hh]
 have hseq : SeqGives Fence.wide 2 Tryz.prog 107 #[.pointer (some ⟨g, 0, none⟩)] encStr (fun ss => ss.Perm (strKeys D0)) (Maps.size D0) w :=
  AnyZ.keys_gives (ρ := keys67_ren) { keys67 with } Fence.wide _ trivial rfl (by omega) g gm es.size D0 _ hlt hcell hown
 have call := AnyZ.sorted_in sorted66 Fence.wide 5 trivial trivial trivial trivial rfl (by omega) (sorts66 _) (enters_of Tryz.func42 (by kernel_rfl) rfl) 107 #[.pointer (some ⟨g, 0, none⟩)] trivial (enters_of Tryz.func107 (by kernel_rfl) rfl) _ _ (by rw [hsize]; omega) (by rw [hsize]; omega) w hseq
 refine (callsIn_wide.1 call).mono ?_
 rintro e' w' ⟨v, ss, rfl, hS, hrow, hnil, hbel⟩
 have hsort : (ss.mergeSort (fun x y => decide (x ≤ y))).map (fun l => (⟨l.toArray⟩ : ByteArray)) = sortedN s.1 := by
  unfold sortedN
  rw [← mergeSort_of_perm (hS.trans hperm)]
 have hstr : (ss.mergeSort (fun x y => decide (x ≤ y))).map encStr = (sortedN s.1).map fun b => Value.string b := by
  rw [← hsort, List.map_map]; rfl
 have hlen : ss.length = (sortedN s.1).length := by rw [← hsort]; simp
 rw [hstr, hlen] at hrow
 rcases hrow.2 with ⟨rfl, h0⟩ | ⟨g2, cap, cur, rfl, hge, hc2, hcap, -, hcs, htk⟩
 ·have he : sortedN s.1 = [] := List.length_eq_zero_iff.1 h0
  obtain ⟨h1, h2⟩ := hs.below hbel
  refine ⟨E, _, rfl, h2, ?_, ?_⟩
  ·rw [he]
   have := h1.nilRows (key := m.length) (.inr rfl) 1
   simpa [setMem] using this
  ·rw [h0]; exact .msnil _ _ _ _
 ·have hg2 : g2 < w'.heap.size := (Array.getElem?_eq_some_iff.1 hc2).1
  have hFn : ∀ o, E.F ⟨g2, o, none⟩ = none := fun o => by
   cases hx : E.F ⟨g2, o, none⟩ with
   | none => rfl
   | some z => have := World.block_lt_of_cell? w _ (hs.F _ _ hx); simp at this; omega
  have hB : BlkOk (E.with m.length 0 (g2, 1, cap)) w' m.length (.rows 0 1 ((sortedN s.1).map str)) := by
   refine .inr ⟨g2, 9, cur, cap, if_pos ⟨rfl, rfl⟩, hc2, hcs, by rw [List.length_map]; exact hcap, fun i row hi => ?_, fun o => hFn o⟩
   rw [List.getElem?_map, Option.map_eq_some_iff] at hi
   obtain ⟨b, hb, rfl⟩ := hi
   refine ⟨rfl, fun j cc hj => ?_⟩
   match j with
   | 0 =>
    cases hj
    refine ⟨.string b, ?_, rfl, .sc _ _⟩
    have hil := (List.getElem?_eq_some_iff.1 hb).1
    have h3 : (cur.toList.take ((sortedN s.1).length * 1))[i]? = some (.string b) := by rw [htk, List.getElem?_map, hb]; rfl
    rw [List.getElem?_take_of_lt (by omega)] at h3
    simpa using h3
   | j + 1 => simp [V.cells] at hj
  obtain ⟨h1, h2⟩ := hs.adopt hbel (g := g2) (e := 1) (c := cap) hge hg2 rfl hB
  refine ⟨_, _, rfl, h2, h1, ?_⟩
  exact .ms _ _ _ _ _ g2 1 cap _ _ (if_pos ⟨rfl, rfl⟩) (fun _ => by simp) (fun _ => ⟨rfl, rfl⟩) hcap
end Go.Proofs.YtpjdfcigadnhcaaGreatDoor
end

section
namespace Go.Proofs.YtpjdfcigadnhcaaGreatDoor
open Go.Eng
open Nat (reduceAdd reduceLT reduceLeDiff reduceMul reduceEqDiff reduceSub)
variable [Glob]
section
variable {σ : Type} {M : σ → List Blk} {n k k1 k2 : Nat}
theorem walkP_ok (hn : ∀ s, (M s).length = n) (hk : k < n) (hk1 : k1 < n) (hk2 : k2 < n) (h1 : ∀ s, (M s)[k1]? = some (.box [.yld k])) (h2 : ∀ s, (M s)[k2]? = some (.box [.clo (.func 92) [] [.ptr k1 0, .ptr k2 0]])) (hb : ∀ s, (M s).all (belowB n) = true)
  (step : σ → Ty → σ × Bool) (G : σ → Prop) (hG : ∀ s u, G s → (step s u).2 = true → G (step s u).1) {B : Nat} (hB : B ≤ 1048576) (Pd : Ty → Prop) (hy : ∀ s u, G s → u.size ≤ B → Pd u → YOk Tryz.prog k [encTy u] (M s) (step s u).2 (M (step s u).1)) :
  ∀ (N : Nat) (t : Ty) (s : σ), G s → (∀ v ∈ t.nodes, Pd v) → t.size ≤ N → N ≤ B → FnOkS Tryz.prog 92 [encTy t, .ptr k1 0, .ptr k2 0] (M s) (bl (stepL step s t.nodes).2) (M (stepL step s t.nodes).1) := by
 have g0 : ∀ s (l : List Blk), (M s ++ l)[n]? = l[0]? := fun s l => by rw [List.getElem?_append_right (by rw [hn]; exact Nat.le_refl _), hn, Nat.sub_self]
 have g1 : ∀ s (l : List Blk), (M s ++ l)[n + 1]? = l[1]? := fun s l => by rw [List.getElem?_append_right (by rw [hn]; omega), hn, Nat.add_sub_cancel_left]
 have gk1 : ∀ s (l : List Blk), (M s ++ l)[k1]? = some (.box [.yld k]) := fun s l => by rw [List.getElem?_append_left (by rw [hn]; exact hk1)]; exact h1 s
 have gk2 : ∀ s (l : List Blk), (M s ++ l)[k2]? = some (.box [.clo (.func 92) [] [.ptr k1 0, .ptr k2 0]]) := fun s l => by rw [List.getElem?_append_left (by rw [hn]; exact hk2)]; exact h2 s
 have gs : ∀ s (l : List Blk) X, (M s ++ l).set n X = M s ++ l.set 0 X := fun s l X => by rw [List.set_append_right _ _ (by rw [hn]; exact Nat.le_refl _), hn, Nat.sub_self]
 have gt : ∀ s (l : List Blk), (M s ++ l).take n = M s := fun s l => by rw [← hn s, List.take_left]
 have gt' : ∀ s, (M s).take n = M s := fun s => by rw [List.take_of_length_le (by rw [hn]; exact Nat.le_refl _)]
 have fy : ∀ s u (l : List Blk), G s → u.size ≤ B → Pd u → YOk Tryz.prog k [encTy u] (M s ++ l) (step s u).2 (M (step s u).1 ++ l) := fun s u l hg hu hp => by
  refine (hy s u hg hu hp).frame (by rw [hn]; exact hk) ?_ (by rw [hn]; exact hb s) (by rw [hn, hn]) (by rw [hn]; exact hb _) l
  rw [encTy_eq]; simp [belowV, belowL, tyCells]
 intro N
 induction N with
 | zero => intro t s hg hP h; have := t.size_pos; omega
 | succ N ih =>
  intro t s hg hP hN hNB
  have hpl := t.parts_length
  have hps := t.size_parts
  have hpn := length_le_sum Ty.size Ty.size_pos t.parts
  have hne := t.nodes_eq
  have hp := sparts_ok t (by omega)
  have hyt := fun l => fy s t l hg (by omega) (hP t (by rw [t.nodes_eq]; simp))
  have ihf : ∀ u s (l : List Blk), G s → (∀ v ∈ u.nodes, Pd v) → u.size ≤ N → FnOkS Tryz.prog 92 [encTy u, .ptr k1 0, .ptr k2 0] (M s ++ l) (bl (stepL step s u.nodes).2) (M (stepL step s u.nodes).1 ++ l) := fun u s l hg hq hu => by
   refine (ih u s hg hq hu (by omega)).frame ?_ (by rw [hn]; exact hb s) rfl (by rw [hn, hn]) (by rw [hn]; exact hb _) l
   rw [encTy_eq, hn]; simp [belowV, belowL, tyCells, hk1, hk2]
  simp only [encTy_eq,tyCells] at ihf
  refine fns_ok tt_ok (fn := Tryz.f92) n (by rw [hn]; exact Nat.le_refl _) Tryz.func92 rfl Tryz.call92 ?_
  simp only [startSt,Tryz.ntmps92,List.length_cons,List.length_nil,reduceAdd,reduceSub,List.replicate_succ,List.replicate_zero,List.cons_append,List.nil_append]
  rw [encTy_eq] at hp hyt ⊢
  simp only [tyCells] at hp hyt ⊢
  refine tri_seq_region tt_ok fun K hK => ?_
  simp only [hn,go_sem]
  refine hK _ ?_
  clear hK K
  refine tri_seq ?_
  refine tri_seq_region tt_ok fun K hK => ?_
  simp only [gk1,g0,go_sem,reduceAdd]
  refine .inl ⟨_, _, hyt _, ?_⟩
  try simp only [go_sem,reduceIte,reduceAdd,reduceLT,reduceLeDiff,reduceMul,reduceEqDiff,reduceSub,reduceCtorEq]
  refine hK _ ?_
  clear hK K
  cases hbb : (step s t).2 with
  | false =>
   refine tri_cond rfl ?_
   refine tri_seq_region tt_ok fun K hK => ?_
   simp only [go_sem]
   refine hK _ ?_
   clear hK K
   refine tri_ret ⟨.inl rfl, ?_⟩
   have hst : stepL step s t.nodes = ((step s t).1, false) := by rw [hne]; simp [stepL, hbb]
   rw [hst]
   exact ⟨rfl, rfl, by dsimp only; rw [gt]; exact hb _, (gt _ _).symm⟩
  | true =>
   refine tri_cond rfl (tri_skip ?_)
   show Tri _ _ _ _ _ _
   refine tri_seq ?_
   refine tri_seq_region tt_ok fun K hK => ?_
   simp only [g0,go_sem,reduceAdd]
   refine .inl ⟨_, _, by simp only [go_sem], hp, ?_⟩
   try simp only [length_encTys,go_sem]
   refine hK _ ?_
   clear hK K
   obtain ⟨ps, hps'⟩ : ∃ ps, ps = t.parts := ⟨_, rfl⟩
   rw [← hps'] at hps hpn hne ⊢
   have hPp : ∀ u ∈ ps, ∀ v ∈ u.nodes, Pd v := fun u hu v hv => hP v (by rw [hne]; exact List.mem_cons_of_mem _ (List.mem_flatMap.2 ⟨u, hu, hv⟩))
   refine tri_block (tri_loop_inv (fun N st => ∃ (i : Nat) (s' : σ), G s' ∧ N = ps.length - i ∧ i ≤ ps.length ∧ stepL step s (t :: (ps.take i).flatMap Ty.nodes) = (s', true) ∧
    st = { fr := [.undef, .ptr k1 0, .ptr k2 0, .undef, .undef, .undef, .undef, .undef, .undef, .undef, .undef, .undef, .slice (encTys ps), num ps.length, num i] ++ List.replicate 8 .undef, mem := M s' }) ps.length ?_ ?_)
   ·refine ⟨n, [false,true,true,false,false,false,false,false,false,false,false,false,true,true,true], by rw [hn]; exact Nat.le_refl _, by simp only [maskFr,if_true,if_false,Bool.false_eq_true,List.all_cons,List.all_nil,belowV,decide_true,Bool.and_self,hk1,hk2], by dsimp only; rw [gt]; exact hb _, 0, (step s t).1, hG s t hg hbb, by omega, by omega, by simp [stepL, hbb], ?_⟩
    dsimp only; rw [gt]; rfl
   ·rintro N' st ⟨i, s', hg', rfl, hi, hsi, rfl⟩
    simp only [List.replicate_succ,List.replicate_zero,List.cons_append,List.nil_append]
    by_cases hlt : i < ps.length
    ·have hd := lt_dec hlt
     refine tri_seq_region tt_ok fun K hK => ?_
     simp only [hd,go_sem]
     refine hK _ ?_
     clear hK K
     refine tri_seq (tri_cond rfl (tri_skip ?_))
     refine tri_seq (tri_block ?_)
     obtain ⟨u, hu⟩ : ∃ u, ps[i]? = some u := ⟨_, List.getElem?_eq_getElem hlt⟩
     have hus := sumBy_mem Ty.size hu
     have hrec := fun l => ihf u s' l hg' (hPp u (List.mem_of_getElem? hu)) (by omega)
     have htk : (ps.take (i + 1)).flatMap Ty.nodes = (ps.take i).flatMap Ty.nodes ++ u.nodes := by rw [List.take_add_one, hu]; simp
     have hnx : stepL step s (t :: (ps.take (i + 1)).flatMap Ty.nodes) = stepL step s' u.nodes := by
      rw [htk, ← List.cons_append, stepL_append, hsi]; simp
     refine tri_seq_region tt_ok fun K hK => ?_
     simp only [get_encTys,hu,encTy_eq,tyCells,hn,g0,gs,go_sem,reduceAdd]
     refine hK _ ?_
     clear hK K
     refine tri_seq_region tt_ok fun K hK => ?_
     simp only [gk2,g0,go_sem,reduceAdd]
     refine .inr <| .inl ⟨_, _, hrec _, ?_⟩
     try simp only [go_sem]
     refine hK _ ?_
     clear hK K
     cases hbu : (stepL step s' u.nodes).2 with
     | false =>
      refine tri_cond rfl ?_
      refine tri_seq_region tt_ok fun K hK => ?_
      simp only [go_sem]
      refine hK _ ?_
      clear hK K
      refine tri_ret ⟨.inl rfl, ?_⟩
      have hst : stepL step s t.nodes = ((stepL step s' u.nodes).1, false) := by
       have hsplit : ps.flatMap Ty.nodes = (ps.take (i + 1)).flatMap Ty.nodes ++ (ps.drop (i + 1)).flatMap Ty.nodes := by rw [← List.flatMap_append, List.take_append_drop]
       rw [hne, hsplit, ← List.cons_append, stepL_append, hnx, hbu]; simp
      rw [hst]
      exact ⟨rfl, rfl, by dsimp only; rw [gt]; exact hb _, (gt _ _).symm⟩
     | true =>
      refine tri_cond rfl (tri_skip ?_)
      show Tri _ _ _ _ _ _
      refine tri_last_region tt_ok fun K hK => ?_
      simp only [go_sem]
      refine hK _ ?_
      clear hK K
      have hw2 := i64_succ i (by omega)
      rw [hw2]
      refine ⟨ps.length - (i + 1), by omega, n, [false,true,true,false,false,false,false,false,false,false,false,false,true,true,true], by rw [hn]; exact Nat.le_refl _, by simp only [maskFr,if_true,if_false,Bool.false_eq_true,List.all_cons,List.all_nil,belowV,decide_true,Bool.and_self,hk1,hk2], by dsimp only; rw [gt]; exact hb _, i + 1, (stepL step s' u.nodes).1, stepL_good step hG _ _ hg' hbu, rfl, hlt, by rw [hnx, ← hbu], ?_⟩
      dsimp only; rw [gt]; rfl
    ·have hd := ge_dec hlt
     refine tri_seq_region tt_ok fun K hK => ?_
     simp only [hd,go_sem]
     refine hK _ ?_
     clear hK K
     refine tri_seq (tri_cond rfl (tri_exit ?_))
     have hie : i = ps.length := by omega
     subst hie
     show Tri _ _ _ _ _ _
     refine tri_seq_region tt_ok fun K hK => ?_
     simp only [go_sem]
     refine hK _ ?_
     clear hK K
     refine tri_ret ⟨.inl rfl, ?_⟩
     rw [List.take_length] at hsi
     rw [hne, hsi]
     exact ⟨rfl, rfl, by dsimp only; rw [gt']; exact hb _, (gt' _).symm⟩
end

section
variable {σ : Type} {M : σ → List Blk} {n k kt : Nat}
theorem iterP_ok (hn : ∀ s, (M s).length = n) (hk : k < n) (hkt : kt < n) {t : Ty} (h1 : ∀ s, (M s)[kt]? = some (.box (tyCells t))) (hb : ∀ s, (M s).all (belowB n) = true)
  (step : σ → Ty → σ × Bool) (G : σ → Prop) (hG : ∀ s u, G s → (step s u).2 = true → G (step s u).1) {B : Nat} (hB : B ≤ 1048576) (Pd : Ty → Prop) (hy : ∀ s u, G s → u.size ≤ B → Pd u → YOk Tryz.prog k [encTy u] (M s) (step s u).2 (M (step s u).1)) (ht : t.size ≤ B) (hP : ∀ v ∈ t.nodes, Pd v) (s : σ) (hs : G s) :
  FnOkS Tryz.prog 91 [.yld k, .ptr kt 0] (M s) (.tup []) (M (stepL step s t.nodes).1) := by
 have g0 : ∀ s (l : List Blk), (M s ++ l)[n]? = l[0]? := fun s l => by rw [List.getElem?_append_right (by rw [hn]; exact Nat.le_refl _), hn, Nat.sub_self]
 have g1 : ∀ s (l : List Blk), (M s ++ l)[n + 1]? = l[1]? := fun s l => by rw [List.getElem?_append_right (by rw [hn]; omega), hn, Nat.add_sub_cancel_left]
 have gkt : ∀ s (l : List Blk), (M s ++ l)[kt]? = some (.box (tyCells t)) := fun s l => by rw [List.getElem?_append_left (by rw [hn]; exact hkt)]; exact h1 s
 have gs : ∀ s (l : List Blk) X, (M s ++ l).set (n + 1) X = M s ++ l.set 1 X := fun s l X => by rw [List.set_append_right _ _ (by rw [hn]; omega), hn, Nat.add_sub_cancel_left]
 have gt : ∀ s (l : List Blk), (M s ++ l).take n = M s := fun s l => by rw [← hn s, List.take_left]
 have hw : ∀ s, G s → FnOkS Tryz.prog 92 [encTy t, .ptr n 0, .ptr (n + 1) 0] (M s ++ [.box [.yld k], .box [.clo (.func 92) [] [.ptr n 0, .ptr (n + 1) 0]]]) (bl (stepL step s t.nodes).2) (M (stepL step s t.nodes).1 ++ [.box [.yld k], .box [.clo (.func 92) [] [.ptr n 0, .ptr (n + 1) 0]]]) := fun s hs => by
  refine walkP_ok (M := fun s => M s ++ [.box [.yld k], .box [.clo (.func 92) [] [.ptr n 0, .ptr (n + 1) 0]]]) (n := n + 2) (k := k) (k1 := n) (k2 := n + 1) (fun s => by simp [hn]) (by omega) (by omega) (by omega) (fun s => g0 _ _) (fun s => g1 _ _) (fun s => ?_) step G hG hB Pd (fun s u hg hu hq => ?_) t.size t s hs hP (Nat.le_refl _) ht
  ·rw [List.all_append, Bool.and_eq_true]
   refine ⟨belowBs_mono (by omega) (hb s), ?_⟩
   simp [belowB, belowV, belowL]; omega
  ·refine (hy s u hg hu hq).frame (by rw [hn]; exact hk) ?_ (by rw [hn]; exact hb s) (by rw [hn, hn]) (by rw [hn]; exact hb _) _
   rw [encTy_eq]; simp [belowV, belowL, tyCells]
 refine fns_ok tt_ok (fn := Tryz.f91) n (by rw [hn]; exact Nat.le_refl _) Tryz.func91 rfl Tryz.call91 ?_
 simp only [startSt,Tryz.ntmps91,List.length_cons,List.length_nil,reduceAdd,reduceSub,List.replicate_succ,List.replicate_zero,List.cons_append,List.nil_append]
 have hws := hw s hs
 rw [encTy_eq] at hws
 simp only [tyCells] at hws gkt
 refine tri_seq_region tt_ok fun K hK => ?_
 simp only [hn,go_sem]
 refine hK _ ?_
 clear hK K
 refine tri_seq_region tt_ok fun K hK => ?_
 simp only [hn,List.length_append,List.append_assoc,go_sem]
 refine hK _ ?_
 clear hK K
 refine tri_seq_region tt_ok fun K hK => ?_
 simp only [g1,gs,go_sem]
 refine hK _ ?_
 clear hK K
 refine tri_last_region tt_ok fun K hK => ?_
 simp only [g1,gkt,go_sem,reduceAdd]
 refine .inr <| .inl ⟨_, _, hws, ?_⟩
 try simp only [go_sem]
 refine hK _ ?_
 clear hK K
 refine ⟨.inr rfl, rfl, rfl, ?_, ?_⟩
 ·dsimp only; rw [gt]; exact hb _
 ·dsimp only; rw [gt]



theorem triP_types {n0 : Nat} {st : St} {Q : Exit → St → Prop} {f : Operand} {params : Array Tmp} {assign body : Code} {t : Ty} (pre : σ → List Blk) (s0 : σ) (n kt : Nat) (hmem : st.mem = pre s0) (hn : ∀ s, (pre s).length = n) (hkt : kt < n)
  (ht : ∀ s, (pre s)[kt]? = some (.box (tyCells t))) (hb : ∀ s, (pre s).all (belowB (n + 1)) = true) (hfr : st.fr.all (belowV (n + 1)) = true) (hf : st.eval f = .clo (.func 91) [] [.ptr kt 0]) (hp : params.size = 1) (step : σ → Ty → σ × Option Code) {B : Nat} (hB : B ≤ 1048576) (hsz : t.size ≤ B) (Pd : Ty → Prop) (hPt : ∀ v ∈ t.nodes, Pd v)
  (hbody : ∀ s u, u.size ≤ B → Pd u → ∀ (l : Nat) (LR LB : Blk), belowB (n + 1) LR = true → belowB (n + 1) LB = true → Tri Tryz.prog (some l) (n + 1) assign { fr := setPs params.toList [encTy u] st.fr, mem := pre s ++ [LR] } fun ex st1 => ex = .normal ∧ st1.mem[n]? = some LR ∧
   Tri Tryz.prog (some l) (n + 1) body { st1 with mem := st1.mem.set n LB } fun ex st2 => jumpOf ex = some (step s u).2 ∧ st2.mem[n]? = some LB ∧ st2.mem.take n = pre (step s u).1)
  (hq : match (stepJ step s0 t.nodes).2 with
   | none => Q .normal { st with mem := pre (stepJ step s0 t.nodes).1 ++ [.dead] }
   | some c => Tri Tryz.prog none n0 c { st with mem := pre (stepJ step s0 t.nodes).1 ++ [.dead] } Q) : Tri Tryz.prog none n0 (.rangeFunc f params assign body) st Q := by
 have hlen : st.mem.length = n := by rw [hmem, hn]
 have gn : ∀ s X, (pre s ++ [X])[n]? = some X := fun s X => by rw [List.getElem?_append_right (by rw [hn]; exact Nat.le_refl _), hn, Nat.sub_self]; rfl
 have gk : ∀ s X, (pre s ++ [X])[kt]? = some (.box (tyCells t)) := fun s X => by rw [List.getElem?_append_left (by rw [hn]; exact hkt)]; exact ht s
 have gset : ∀ s (X Y : Blk), (pre s ++ [X]).set n Y = pre s ++ [Y] := fun s X Y => by rw [List.set_append_right _ _ (by rw [hn]; exact Nat.le_refl _), hn, Nat.sub_self]; rfl
 have hball : ∀ (s : σ) (a : LoopState) (b : Option Code), (pre s ++ [Blk.loop a b st.fr params assign body]).all (belowB (n + 1)) = true := fun s a b => by
  rw [List.all_append, Bool.and_eq_true]
  exact ⟨hb s, by simp only [List.all_cons,List.all_nil,Bool.and_true,belowB]; exact hfr⟩
 have it := iterP_ok (M := fun s : σ × Option Code => pre s.1 ++ [.loop (if s.2.isNone then .ready else .done) s.2 st.fr params assign body]) (n := n + 1) (k := n) (kt := kt) (t := t) (fun s => by simp [hn]) (by omega) (by omega) (fun s => gk _ _) (fun s => hball _ _ _)
  (stepB step) (fun s => s.2 = none) (fun s u hs h => by simpa [stepB] using h) hB Pd (fun s u hs hu hq => by
   obtain ⟨s, j⟩ := s
   simp only at hs; subst hs
   refine yok_of_body (fr := st.fr) (params := params) (assign := assign) (body := body) (gn _ _) (by simp [hp]) fun l => ?_
   have hl : (pre s ++ [Blk.loop .ready none st.fr params assign body]).length = n + 1 := by simp [hn]
   simp only [Option.isNone_none,if_true,hl]
   refine Tri.mono (hbody s u hu hq l (.loop .ready none st.fr params assign body) (.loop .busy none st.fr params assign body) hfr hfr) ?_
   rintro ex st1 ⟨h1, h2, h3⟩
   refine ⟨h1, h2, Tri.mono h3 ?_⟩
   rintro ex st2 ⟨h4, h5, h6⟩
   refine ⟨_, h4, rfl, h5, ?_, ?_⟩
   ·rw [take_set (hn _) h5 h6]; exact hball _ _ _
   ·rw [take_set (hn _) h5 h6]; rfl) hsz hPt (s0, none) rfl
 rw [stepJ_L] at it
 refine tri_rangeFunc (g := 91) (vs := [.yld n, .ptr kt 0]) (by rw [hf, hlen]; rfl) (by rw [hmem]; exact it) ?_
 rw [hlen]
 refine ⟨_, _, _, _, _, _, gn _ _, ?_, ?_⟩
 ·cases (stepJ step s0 t.nodes).2 <;> simp
 ·generalize hj : (stepJ step s0 t.nodes).2 = j at hq
  cases j with
  | none => dsimp only at hq ⊢; rw [gset]; exact hq
  | some c => dsimp only at hq ⊢; rw [gset]; exact hq
end

end Go.Proofs.YtpjdfcigadnhcaaGreatDoor
end

section
namespace Go.Proofs.YtpjdfcigadnhcaaGreatDoor
open Go.Eng
open Nat (reduceAdd reduceLT reduceLeDiff reduceMul reduceEqDiff reduceSub)
variable [Glob]
set_option maxHeartbeats 4000000
set_option maxRecDepth 100000
theorem keys67_ok (m : List Blk) (kb : Nat) (hkb : kb < m.length) (hb : m.all (belowB (m.length + 1)) = true) : FnOkS Tryz.prog 67 [.mp kb] m (.clo (.func 107) [] [.ptr m.length 0]) (m ++ [.box [.mp kb]]) := by
 refine fns_ok tt_ok (fn := Tryz.f67) (m.length + 1) (by omega) Tryz.func67 rfl Tryz.call67 ?_
 simp only [startSt,Tryz.ntmps67,List.length_cons,List.length_nil,reduceAdd,reduceSub,List.replicate_succ,List.replicate_zero,List.cons_append,List.nil_append]
 refine tri_seq_region tt_ok fun K hK => ?_
 simp only [go_sem,reduceIte,reduceAdd,reduceLT,reduceLeDiff,reduceMul,reduceEqDiff,reduceSub,reduceCtorEq]
 refine hK _ ?_
 clear hK K
 refine tri_seq_region tt_ok fun K hK => ?_
 simp only [go_sem,reduceIte,reduceAdd,reduceLT,reduceLeDiff,reduceMul,reduceEqDiff,reduceSub,reduceCtorEq]
 refine hK _ ?_
 clear hK K
 have ht : ∀ B : Blk, (m ++ [B]).take (m.length + 1) = m ++ [B] := fun B => List.take_of_length_le (by simp)
 refine tri_ret ⟨.inl rfl, rfl, by simp [belowV, belowL], ?_, ?_⟩
 ·dsimp only; rw [ht]; simp [hb, belowB, belowV]; omega
 ·dsimp only; rw [ht]
theorem free_ok (t : Ty) (ht : t.wt ≤ 1048576) : FnOk Tryz.prog 26 [encTy t] (.slice ((sortedN (varMap t).1.1).map str)) := by
 have hsz := t.size_le_wt
 have hP : ∀ u ∈ t.nodes, u.name.size ≤ 1048576 := fun u hu => by
  have h1 := Ty.wt_nodes hu
  have h2 := u.wt_eq
  omega
 have hvl := varMap_length t hP
 obtain ⟨et, hK⟩ := keyN
 have h51 := fun B0 B1 B2 h => types_ok t [B0, B1, B2] h
 refine fn_ok tt_ok (fn := Tryz.f26) Tryz.func26 rfl Tryz.call26 ?_
 simp only [startSt,Tryz.ntmps26,List.length_cons,List.length_nil,reduceAdd,reduceSub,List.replicate_succ,List.replicate_zero,List.cons_append,List.nil_append]
 rw [encTy_eq] at h51 ⊢
 simp only [tyCells] at h51 ⊢
 refine tri_seq_region tt_ok fun K hK => ?_
 simp only [go_sem,reduceIte,reduceAdd,reduceLT,reduceLeDiff,reduceMul,reduceEqDiff,reduceSub,reduceCtorEq]
 refine hK _ ?_
 clear hK K
 refine tri_seq_region tt_ok fun K hK => ?_
 simp only [go_sem,reduceIte,reduceAdd,reduceLT,reduceLeDiff,reduceMul,reduceEqDiff,reduceSub,reduceCtorEq]
 refine hK _ ?_
 clear hK K
 refine tri_seq ?_
 refine tri_seq_region tt_ok fun K hK => ?_
 simp only [go_sem,reduceIte,reduceAdd,reduceLT,reduceLeDiff,reduceMul,reduceEqDiff,reduceSub,reduceCtorEq]
 refine .inr <| .inl ⟨_, _, h51 _ _ _ rfl, ?_⟩
 try simp only [go_sem,reduceIte,reduceAdd,reduceLT,reduceLeDiff,reduceMul,reduceEqDiff,reduceSub,reduceCtorEq]
 refine hK _ ?_
 clear hK K
 refine tri_block (triP_types (t := t) (B := 1048576) (fun s : { s // NGood s } => [.box (tyCells t), .map s.1.1 s.1.2, .box [.mp 1], .box (tyCells t)]) ⟨([], 0), NGood.nil⟩ 4 3 rfl (fun _ => rfl) (by omega) (fun _ => rfl) (fun s => ?_) rfl rfl rfl (fun s u => (stepN s u, none)) (by omega) (by omega) (fun v => v.name.size ≤ 1048576) hP ?_ ?_)
 ·show (true && ((s.1.1.all fun e => belowV 5 e.2.2) && (true && (true && true)))) = true
  rw [s.2.below 5]; rfl
 ·intro s u hu hn l LR LB hLR hLB
  obtain ⟨hi, -, -⟩ := insN_ok s u.name hn
  have hins := fun B0 B2 B3 B4 B5 => insertV_at (T := 96) (mem := [B0, .map s.1.1 s.1.2, B2, B3, B4, B5]) (b := 1) hK (k := .string u.name) ⟨u.name, rfl⟩ rfl hi rfl
  rw [encTy_eq]
  simp only [setPs,tyCells,List.set_cons_succ,List.set_cons_zero,List.cons_append,List.nil_append]
  refine tri_last_region tt_ok fun K hK => ?_
  simp only [go_sem,reduceIte,reduceAdd,reduceLT,reduceLeDiff,reduceMul,reduceEqDiff,reduceSub,reduceCtorEq]
  refine hK _ ?_
  clear hK K
  refine ⟨rfl, rfl, tri_block ?_⟩
  simp only [List.set_cons_succ,List.set_cons_zero]
  cases h9 : decide (u.kind = 9) with
  | true =>
   have e0 : stepN s u = insN s u.name := by unfold stepN; rw [if_pos h9]
   rw [e0]
   refine tri_seq_region tt_ok fun K hK => ?_
   simp only [h9,go_sem,reduceIte,reduceAdd,reduceLT,reduceLeDiff,reduceMul,reduceEqDiff,reduceSub,reduceCtorEq]
   refine hK _ ?_
   clear hK K
   refine tri_cond rfl ?_
   refine tri_last_region tt_ok fun K hK => ?_
   simp only [hins,go_sem,reduceIte,reduceAdd,reduceLT,reduceLeDiff,reduceMul,reduceEqDiff,reduceSub,reduceCtorEq]
   refine hK _ ?_
   clear hK K
   exact ⟨rfl, rfl, rfl⟩
  | false =>
   have e0 : stepN s u = s := by unfold stepN; rw [h9]; rfl
   rw [e0]
   refine tri_seq_region tt_ok fun K hK => ?_
   simp only [h9,go_sem,reduceIte,reduceAdd,reduceLT,reduceLeDiff,reduceMul,reduceEqDiff,reduceSub,reduceCtorEq]
   refine hK _ ?_
   clear hK K
   refine tri_cond rfl (tri_skip ?_)
   exact ⟨rfl, rfl, rfl⟩
 ·rw [stepJ_pure]
  have ev : t.nodes.foldl stepN ⟨([], 0), NGood.nil⟩ = varMap t := rfl
  rw [ev]
  obtain ⟨s, hs⟩ : ∃ s, s = varMap t := ⟨_, rfl⟩
  rw [← hs] at hvl ⊢
  show Tri _ _ _ _ _ _
  have h67 := keys67_ok [.box (tyCells t), .map s.1.1 s.1.2, .box [.mp 1], .box (tyCells t), .dead] 1 (by simp) (by
   show (true && ((s.1.1.all fun e => belowV 6 e.2.2) && (true && (true && (true && true))))) = true
   rw [s.2.below 6]; rfl)
  have h66 := srt_ok ([.box (tyCells t), .map s.1.1 s.1.2, .box [.mp 1], .box (tyCells t), .dead] ++ [.box [.mp 1]]) 5 1 s.1 s.2 rfl rfl (by omega)
  simp only [tyCells,List.length_cons,List.length_nil,reduceAdd,List.cons_append,List.nil_append] at h67 h66
  refine tri_seq_region tt_ok fun K hK => ?_
  simp only [go_sem,reduceIte,reduceAdd,reduceLT,reduceLeDiff,reduceMul,reduceEqDiff,reduceSub,reduceCtorEq]
  refine .inr <| .inl ⟨_, _, h67, ?_⟩
  try simp only [go_sem,reduceIte,reduceAdd,reduceLT,reduceLeDiff,reduceMul,reduceEqDiff,reduceSub,reduceCtorEq]
  refine .inr <| .inl ⟨_, _, h66, ?_⟩
  try simp only [go_sem,reduceIte,reduceAdd,reduceLT,reduceLeDiff,reduceMul,reduceEqDiff,reduceSub,reduceCtorEq]
  refine hK _ ?_
  clear hK K
  refine tri_ret ⟨.inl rfl, ?_⟩
  simp [retV, resL, resV, Tryz.f26, pur, pur1, purCell, take_len_map]
end Go.Proofs.YtpjdfcigadnhcaaGreatDoor
end

section
namespace Go.Proofs.YtpjdfcigadnhcaaGreatDoor
open Go.Eng
open Nat (reduceAdd reduceLT reduceLeDiff reduceMul reduceEqDiff reduceSub)
variable [Glob]
set_option maxRecDepth 100000
set_option maxHeartbeats 4000000
attribute [local irreducible] runM stepM valD
theorem sumBy_le_mul {α : Type} (f : α → Nat) (c : Nat) : ∀ l : List α, (∀ t ∈ l, f t ≤ c) → sumBy f l ≤ l.length * c
 | [], _ => by simp [sumBy]
 | a :: r, h => by
  have h1 := h a (by simp)
  have h2 := sumBy_le_mul f c r fun t ht => h t (by simp [ht])
  simp only [sumBy,List.length_cons,Nat.add_mul,Nat.one_mul]
  omega
theorem fewTypes_ok (k : Int) (ts : List Ty) (hs : ∀ t ∈ ts, t.size ≤ 1048576) (hl : ts.length ≤ 1000) :
  FnOk Tryz.prog 11 [num k, .slice (encTys ts)] (bl (decide ((sumBy Ty.size ts : Int) ≤ k))) := by
 have hle : ∀ i, sumBy Ty.size (ts.take i) ≤ 1048576000 := fun i => by
  have h1 := sumBy_take_le Ty.size ts i
  have h2 := sumBy_le_mul Ty.size 1048576 ts hs
  omega
 refine fn_ok tt_ok (fn := Tryz.f11) Tryz.func11 rfl Tryz.call11 ?_
 simp only [startSt,Tryz.ntmps11,List.length_cons,List.length_nil,reduceAdd,reduceSub,List.replicate_succ,List.replicate_zero,List.cons_append,List.nil_append]
 refine tri_seq_region tt_ok fun K hK => ?_
 simp only [go_sem,reduceIte,reduceAdd,reduceLT,reduceLeDiff,reduceMul,reduceEqDiff,reduceSub,reduceCtorEq]
 refine hK _ ?_
 clear hK K
 refine tri_seq_region tt_ok fun K hK => ?_
 simp only [go_sem,reduceIte,reduceAdd,reduceLT,reduceLeDiff,reduceMul,reduceEqDiff,reduceSub,reduceCtorEq]
 refine hK _ ?_
 clear hK K
 refine tri_seq ?_
 refine tri_seq_region tt_ok fun K hK => ?_
 simp only [length_encTys,go_sem,reduceIte,reduceAdd,reduceLT,reduceLeDiff,reduceMul,reduceEqDiff,reduceSub,reduceCtorEq]
 refine hK _ ?_
 clear hK K
 refine tri_block (tri_loop_inv (fun N st => ∃ (i : Nat), N = ts.length - i ∧ i ≤ ts.length ∧
  st = { fr := [num k, .undef, .undef, .undef, .undef, num ((sumBy Ty.size (ts.take i) : Nat)), .undef, .undef, .slice (encTys ts), num ts.length, num i] ++ List.replicate 11 .undef, mem := [] }) ts.length ?_ ?_)
 ·exact ⟨0, [true,false,false,false,false,true,false,false,true,true,true], by omega, by simp only [maskFr,belowV,belowL,belowB,reduceLT,mkb], rfl, 0, by omega, by omega, rfl⟩
 ·rintro N' st ⟨i, rfl, hi, rfl⟩
  simp only [List.replicate_succ,List.replicate_zero,List.cons_append,List.nil_append]
  by_cases hlt : i < ts.length
  ·have hd := lt_dec hlt
   refine tri_seq_region tt_ok fun K hK => ?_
   simp only [hd,go_sem,reduceIte,reduceAdd,reduceLT,reduceLeDiff,reduceMul,reduceEqDiff,reduceSub,reduceCtorEq]
   refine hK _ ?_
   clear hK K
   refine tri_seq (tri_cond rfl (tri_skip ?_))
   refine tri_seq (tri_block ?_)
   obtain ⟨t, ht⟩ : ∃ t, ts[i]? = some t := ⟨_, List.getElem?_eq_getElem hlt⟩
   have htt := hs t (List.mem_of_getElem? ht)
   have hst := sumBy_take_succ Ty.size ht
   have hl1 := hle (i + 1)
   have hT := tsize_ok t.size t (Nat.le_refl _) htt
   rw [encTy_eq] at hT
   simp only [tyCells] at hT
   have hw1 := i64_c (((sumBy Ty.size (ts.take i) : Nat) : Int) + (t.size : Int)) (sumBy Ty.size (ts.take (i + 1))) (by omega) (by omega)
   have hw2 := i64_succ i (by omega)
   refine tri_seq_region tt_ok fun K hK => ?_
   simp only [get_encTys,ht,encTy_eq,tyCells,go_sem,reduceIte,reduceAdd,reduceLT,reduceLeDiff,reduceMul,reduceEqDiff,reduceSub,reduceCtorEq]
   refine hK _ ?_
   clear hK K
   refine tri_last_region tt_ok fun K hK => ?_
   simp only [go_sem,reduceIte,reduceAdd,reduceLT,reduceLeDiff,reduceMul,reduceEqDiff,reduceSub,reduceCtorEq]
   refine .inl ⟨_, _, by simp only [hw1,go_sem,reduceIte,reduceAdd,reduceLT,reduceLeDiff,reduceMul,reduceEqDiff,reduceSub,reduceCtorEq,List.take_length], hT, ?_⟩
   try simp only [hw1,go_sem,reduceIte,reduceAdd,reduceLT,reduceLeDiff,reduceMul,reduceEqDiff,reduceSub,reduceCtorEq]
   refine hK _ ?_
   clear hK K
   show Tri _ _ _ _ _ _
   refine tri_last_region tt_ok fun K hK => ?_
   simp only [go_sem,reduceIte,reduceAdd,reduceLT,reduceLeDiff,reduceMul,reduceEqDiff,reduceSub,reduceCtorEq]
   refine hK _ ?_
   clear hK K
   rw [hw2]
   exact ⟨ts.length - (i + 1), by omega, 0, [true,false,false,false,false,true,false,false,true,true,true], by omega, by simp only [maskFr,belowV,belowL,belowB,reduceLT,mkb], rfl, i + 1, rfl, hlt, by simp [maskFr]⟩
  ·have hd := ge_dec hlt
   refine tri_seq_region tt_ok fun K hK => ?_
   simp only [hd,go_sem,reduceIte,reduceAdd,reduceLT,reduceLeDiff,reduceMul,reduceEqDiff,reduceSub,reduceCtorEq]
   refine hK _ ?_
   clear hK K
   refine tri_seq (tri_cond rfl (tri_exit ?_))
   have hie : i = ts.length := by omega
   subst hie
   show Tri _ _ _ _ _ _
   refine tri_seq_region tt_ok fun K hK => ?_
   simp only [go_sem,reduceIte,reduceAdd,reduceLT,reduceLeDiff,reduceMul,reduceEqDiff,reduceSub,reduceCtorEq]
   refine hK _ ?_
   clear hK K
   refine tri_ret ⟨.inl rfl, ?_⟩
   rw [List.take_length]
   rfl

theorem memAfter_bl (mem : List Blk) (keys : List (Nat × Nat)) (b : Bool) : memAfter mem keys (bl b) = mem := rfl
end Go.Proofs.YtpjdfcigadnhcaaGreatDoor
end

section
namespace Go.Proofs.YtpjdfcigadnhcaaGreatDoor
open Go.Eng
open Nat (reduceAdd reduceLT reduceLeDiff reduceMul reduceEqDiff reduceSub)
variable [Glob]
theorem dec_eqb (a b : Int) : decide (a = b) = eqb a b := by
 by_cases h : a = b
 ·rw [eqb_true h]; simp [h]
 ·rw [eqb_false h]; simp [h]
theorem boolEq_eqb (a b : Bool) : (a == b) = eqb a b := by
 by_cases h : a = b
 ·rw [eqb_true h]; simp [h]
 ·rw [eqb_false h]; simpa using h
theorem Ty.ext_iff (t u : Ty) : t = u ↔ t.kind = u.kind ∧ t.mod = u.mod ∧ t.name = u.name ∧ t.args = u.args ∧ t.flds = u.flds := by
 obtain ⟨k, m, n, ts, fs⟩ := t
 obtain ⟨k', m', n', ts', fs'⟩ := u
 simp [Ty.kind, Ty.mod, Ty.name, Ty.args, Ty.flds]
theorem Fd.ext_iff (t u : Fd) : t = u ↔ t.name = u.name ∧ t.opt = u.opt ∧ t.ty = u.ty := by
 obtain ⟨n, t, o⟩ := t
 obtain ⟨n', t', o'⟩ := u
 simp only [Fd.name,Fd.opt,Fd.ty,Fd.mk.injEq]
 exact ⟨fun h => ⟨h.1, h.2.2, h.2.1⟩, fun h => ⟨h.1, h.2.2, h.2.1⟩⟩

theorem eqFd_ok (t u : Fd) (h : FnOk Tryz.prog 24 [encTy t.ty, encTy u.ty] (bl (eqb t.ty u.ty))) : FnOk Tryz.prog 65 [encFd t, encFd u] (bl (eqb t u)) := by
 refine fn_ok tt_ok (fn := Tryz.f65) Tryz.func65 rfl Tryz.call65 ?_
 simp only [startSt,Tryz.ntmps65,List.length_cons,List.length_nil,reduceAdd,reduceSub,List.replicate_succ,List.replicate_zero,List.cons_append,List.nil_append]
 rw [encTy_eq, encTy_eq] at h
 rw [encFd_eq, encFd_eq]
 simp only [tyCells,List.cons_append,List.nil_append] at h ⊢
 have e1 := bytes_eq t.name u.name
 have hT : Tryz.prog.underlying 4 = some .bool := by kernel_rfl
 have e2 := fun x y => ev_beql (P := Tryz.prog) (T := 4) x y hT
 refine tri_seq_region tt_ok fun K hK => ?_
 simp only [go_sem,reduceIte,reduceAdd,reduceLT,reduceLeDiff,reduceMul,reduceEqDiff,reduceSub,reduceCtorEq]
 refine hK _ ?_
 clear hK K
 by_cases h1 : t.name = u.name
 ·rw [eqb_true h1] at e1
  by_cases h2 : t.opt = u.opt
  ·have e3 : (t.opt == u.opt) = true := by simpa using h2
   refine tri_seq_region tt_ok fun K hK => ?_
   simp only [e1,e2,e3,go_sem,reduceIte,reduceAdd,reduceLT,reduceLeDiff,reduceMul,reduceEqDiff,reduceSub,reduceCtorEq]
   refine .inl ⟨_, _, by simp only [go_sem,reduceIte,reduceAdd,reduceLT,reduceLeDiff,reduceMul,reduceEqDiff,reduceSub,reduceCtorEq,List.take_length], h, ?_⟩
   try simp only [go_sem,reduceIte,reduceAdd,reduceLT,reduceLeDiff,reduceMul,reduceEqDiff,reduceSub,reduceCtorEq]
   refine hK _ ?_
   clear hK K
   refine tri_ret ⟨.inl rfl, ?_⟩
   have hr : eqb t u = eqb t.ty u.ty := by
    by_cases h3 : t.ty = u.ty
    ·rw [eqb_true h3, eqb_true ((Fd.ext_iff t u).2 ⟨h1, h2, h3⟩)]
    ·rw [eqb_false h3, eqb_false fun e => h3 ((Fd.ext_iff t u).1 e).2.2]
   rw [hr]; rfl
  ·have e3 : (t.opt == u.opt) = false := by simpa using h2
   refine tri_seq_region tt_ok fun K hK => ?_
   simp only [e1,e2,e3,go_sem,reduceIte,reduceAdd,reduceLT,reduceLeDiff,reduceMul,reduceEqDiff,reduceSub,reduceCtorEq]
   refine hK _ ?_
   clear hK K
   refine tri_ret ⟨.inl rfl, ?_⟩
   rw [eqb_false fun e => h2 ((Fd.ext_iff t u).1 e).2.1]; rfl
 ·rw [eqb_false h1] at e1
  refine tri_seq_region tt_ok fun K hK => ?_
  simp only [e1,go_sem,reduceIte,reduceAdd,reduceLT,reduceLeDiff,reduceMul,reduceEqDiff,reduceSub,reduceCtorEq]
  refine hK _ ?_
  clear hK K
  refine tri_ret ⟨.inl rfl, ?_⟩
  rw [eqb_false fun e => h1 ((Fd.ext_iff t u).1 e).1]; rfl
theorem Ty.args_size {t a : Ty} {i : Nat} (h : t.args[i]? = some a) : a.size < t.size := by
 have h1 : t.parts[i]? = some a := by
  unfold Ty.parts
  rw [List.getElem?_append_left (List.getElem?_eq_some_iff.1 h).1]; exact h
 have := sumBy_mem Ty.size h1; have := t.size_parts; omega
theorem Ty.flds_size {t : Ty} {f : Fd} {i : Nat} (h : t.flds[i]? = some f) : f.ty.size < t.size := by
 have h1 : t.parts[t.args.length + i]? = some f.ty := by
  unfold Ty.parts
  rw [List.getElem?_append_right (by omega), Nat.add_sub_cancel_left, List.getElem?_map, h]; rfl
 have := sumBy_mem Ty.size h1; have := t.size_parts; omega

theorem seqTy_ok : ∀ (N : Nat) (t u : Ty), t.size ≤ N → N ≤ 1048576 → FnOk Tryz.prog 24 [encTy t, encTy u] (bl (eqb t u)) := by
 intro N
 induction N with
 | zero => intro t u h; have := t.size_pos; omega
 | succ N ih =>
  intro t u hN hb
  have hpl := t.parts_length
  have hA := equalTys_ok 24 t.args u.args (by omega) fun i a b ha _ => ih a b (by have := Ty.args_size ha; omega) (by omega)
  have hF := equalFds_ok 65 t.flds u.flds (by omega) fun i a b ha _ => eqFd_ok a b (ih a.ty b.ty (by have := Ty.flds_size ha; omega) (by omega))
  refine fn_ok tt_ok (fn := Tryz.f24) Tryz.func24 rfl Tryz.call24 ?_
  simp only [startSt,Tryz.ntmps24,List.length_cons,List.length_nil,reduceAdd,reduceSub,List.replicate_succ,List.replicate_zero,List.cons_append,List.nil_append]
  rw [encTy_eq, encTy_eq]
  simp only [tyCells]
  have e2 := bytes_eq t.mod u.mod
  have e3 := bytes_eq t.name u.name
  refine tri_seq_region tt_ok fun K hK => ?_
  simp only [go_sem,reduceIte,reduceAdd,reduceLT,reduceLeDiff,reduceMul,reduceEqDiff,reduceSub,reduceCtorEq]
  refine hK _ ?_
  clear hK K
  by_cases h1 : t.kind = u.kind
  ·have d1 : decide (t.kind = u.kind) = true := decide_eq_true h1
   by_cases h2 : t.mod = u.mod
   ·rw [eqb_true h2] at e2
    by_cases h3 : t.name = u.name
    ·rw [eqb_true h3] at e3
     by_cases h4 : t.args = u.args
     ·rw [eqb_true h4] at hA
      by_cases h5 : t.flds = u.flds
      ·rw [eqb_true h5] at hF
       refine tri_seq_region tt_ok fun K hK => ?_
       simp only [d1,e2,e3,go_sem,reduceIte,reduceAdd,reduceLT,reduceLeDiff,reduceMul,reduceEqDiff,reduceSub,reduceCtorEq]
       refine .inl ⟨_, _, by simp only [go_sem,reduceIte,reduceAdd,reduceLT,reduceLeDiff,reduceMul,reduceEqDiff,reduceSub,reduceCtorEq,List.take_length], hA, ?_⟩
       try simp only [go_sem,reduceIte,reduceAdd,reduceLT,reduceLeDiff,reduceMul,reduceEqDiff,reduceSub,reduceCtorEq]
       refine .inl ⟨_, _, by simp only [go_sem,reduceIte,reduceAdd,reduceLT,reduceLeDiff,reduceMul,reduceEqDiff,reduceSub,reduceCtorEq,List.take_length], hF, ?_⟩
       try simp only [go_sem,reduceIte,reduceAdd,reduceLT,reduceLeDiff,reduceMul,reduceEqDiff,reduceSub,reduceCtorEq]
       refine hK _ ?_
       clear hK K
       refine tri_ret ⟨.inl rfl, ?_⟩
       rw [eqb_true ((Ty.ext_iff t u).2 ⟨h1, h2, h3, h4, h5⟩)]; rfl
      ·rw [eqb_false h5] at hF
       refine tri_seq_region tt_ok fun K hK => ?_
       simp only [d1,e2,e3,go_sem,reduceIte,reduceAdd,reduceLT,reduceLeDiff,reduceMul,reduceEqDiff,reduceSub,reduceCtorEq]
       refine .inl ⟨_, _, by simp only [go_sem,reduceIte,reduceAdd,reduceLT,reduceLeDiff,reduceMul,reduceEqDiff,reduceSub,reduceCtorEq,List.take_length], hA, ?_⟩
       try simp only [go_sem,reduceIte,reduceAdd,reduceLT,reduceLeDiff,reduceMul,reduceEqDiff,reduceSub,reduceCtorEq]
       refine .inl ⟨_, _, by simp only [go_sem,reduceIte,reduceAdd,reduceLT,reduceLeDiff,reduceMul,reduceEqDiff,reduceSub,reduceCtorEq,List.take_length], hF, ?_⟩
       try simp only [go_sem,reduceIte,reduceAdd,reduceLT,reduceLeDiff,reduceMul,reduceEqDiff,reduceSub,reduceCtorEq]
       refine hK _ ?_
       clear hK K
       refine tri_ret ⟨.inl rfl, ?_⟩
       rw [eqb_false fun e => h5 ((Ty.ext_iff t u).1 e).2.2.2.2]; rfl
     ·rw [eqb_false h4] at hA
      refine tri_seq_region tt_ok fun K hK => ?_
      simp only [d1,e2,e3,go_sem,reduceIte,reduceAdd,reduceLT,reduceLeDiff,reduceMul,reduceEqDiff,reduceSub,reduceCtorEq]
      refine .inl ⟨_, _, by simp only [go_sem,reduceIte,reduceAdd,reduceLT,reduceLeDiff,reduceMul,reduceEqDiff,reduceSub,reduceCtorEq,List.take_length], hA, ?_⟩
      try simp only [go_sem,reduceIte,reduceAdd,reduceLT,reduceLeDiff,reduceMul,reduceEqDiff,reduceSub,reduceCtorEq]
      refine hK _ ?_
      clear hK K
      refine tri_ret ⟨.inl rfl, ?_⟩
      rw [eqb_false fun e => h4 ((Ty.ext_iff t u).1 e).2.2.2.1]; rfl
    ·rw [eqb_false h3] at e3
     refine tri_seq_region tt_ok fun K hK => ?_
     simp only [d1,e2,e3,go_sem,reduceIte,reduceAdd,reduceLT,reduceLeDiff,reduceMul,reduceEqDiff,reduceSub,reduceCtorEq]
     refine hK _ ?_
     clear hK K
     refine tri_ret ⟨.inl rfl, ?_⟩
     rw [eqb_false fun e => h3 ((Ty.ext_iff t u).1 e).2.2.1]; rfl
   ·rw [eqb_false h2] at e2
    refine tri_seq_region tt_ok fun K hK => ?_
    simp only [d1,e2,go_sem,reduceIte,reduceAdd,reduceLT,reduceLeDiff,reduceMul,reduceEqDiff,reduceSub,reduceCtorEq]
    refine hK _ ?_
    clear hK K
    refine tri_ret ⟨.inl rfl, ?_⟩
    rw [eqb_false fun e => h2 ((Ty.ext_iff t u).1 e).2.1]; rfl
  ·have d1 : decide (t.kind = u.kind) = false := decide_eq_false h1
   refine tri_seq_region tt_ok fun K hK => ?_
   simp only [d1,go_sem,reduceIte,reduceAdd,reduceLT,reduceLeDiff,reduceMul,reduceEqDiff,reduceSub,reduceCtorEq]
   refine hK _ ?_
   clear hK K
   refine tri_ret ⟨.inl rfl, ?_⟩
   rw [eqb_false fun e => h1 ((Ty.ext_iff t u).1 e).1]; rfl
end Go.Proofs.YtpjdfcigadnhcaaGreatDoor
end

section
namespace Go.Proofs.YtpjdfcigadnhcaaGreatDoor
open Go.Eng
open Nat (reduceAdd reduceLT reduceLeDiff reduceMul reduceEqDiff reduceSub)
variable [Glob]
set_option maxHeartbeats 4000000
set_option maxRecDepth 100000
attribute [local irreducible] runM stepM valD stepOp stepD callF callS
theorem prod3 (a b c : Nat) (h : a + b + c ≤ 200) : a * b * c ≤ 1048576 := by
 have key : ∀ a, a ≤ 200 → ∀ b, b ≤ 200 → a * b * (200 - a - b) ≤ 1048576 := by decide +kernel
 exact Nat.le_trans (Nat.mul_le_mul_left _ (by omega)) (key a (by omega) b (by omega))
theorem eqb_self2 {α : Type} (a : α) : eqb a a = true := eqb_true rfl
theorem sumBy_le_mul2 {α : Type} {f g : α → Nat} {c : Nat} : ∀ l : List α, (∀ t ∈ l, f t ≤ g t * c) → sumBy f l ≤ sumBy g l * c
 | [], _ => by simp [sumBy]
 | a :: r, h => by
  have h1 := h a (by simp)
  have h2 := sumBy_le_mul2 r fun t ht => h t (by simp [ht])
  simp only [sumBy,Nat.add_mul]
  omega
theorem Ty.subst_size (ns : List ByteArray) (us : List Ty) {B : Nat} (hB : 1 ≤ B) (hus : ∀ u ∈ us, u.size ≤ B) : ∀ t : Ty, (t.subst ns us).size ≤ t.size * B := by
 refine Ty.induct fun t ih => ?_
 have h0 := t.size_parts
 have keep : (Ty.mk t.kind t.mod t.name (t.args.map (Ty.subst ns us)) (t.flds.map (Fd.subst ns us))).size ≤ t.size * B := by
  rw [Ty.size_parts]
  have e : (Ty.mk t.kind t.mod t.name (t.args.map (Ty.subst ns us)) (t.flds.map (Fd.subst ns us))).parts = t.parts.map (Ty.subst ns us) := by
   simp only [Ty.parts,Ty.args,Ty.flds,List.map_append,List.map_map]
   congr 1
   exact List.map_congr_left fun f _ => by simp [Fd.subst_ty]
  rw [e, sumBy_map]
  have h1 := sumBy_le_mul2 (f := fun p => (p.subst ns us).size) (g := Ty.size) (c := B) t.parts ih
  rw [h0, Nat.add_mul]
  omega
 rw [t.subst_eq]
 by_cases h9 : t.kind = 9
 ·rw [if_pos h9]
  cases hp : pickT ns us t.name with
  | none => exact keep
  | some u =>
   dsimp only
   have hu : u ∈ us := by
    unfold pickT at hp
    split at hp
    ·exact List.mem_of_getElem? hp
    ·cases hp
   have h1 := hus u hu
   have h2 := Nat.mul_le_mul_right B t.size_pos
   omega
 ·rw [if_neg h9]; exact keep
theorem idxN_mem {ns : List ByteArray} {s : ByteArray} (h : idxN ns s = -1) : s ∉ ns := fun hm => by
 rcases idxN_get (ns := ns) (s := s) with ⟨-, hf⟩ | ⟨i, e, -, -⟩
 ·rw [List.findIdx?_eq_none_iff] at hf
  have := hf s hm
  simp at this
 ·omega
theorem sortedN_length (s : List (Value × Nat × V)) : (sortedN s).length = s.length := by simp [sortedN]
theorem composes_law (haw : FnOk Tryz.prog 10 [] (bl true)) (t u w : Ty) (x y : ByteArray) (ht : t.wt ≤ 1048576) (hu : u.wt ≤ 1048576) (hw : w.wt ≤ 1048576) : ∃ r, (fun v => v = bl true) r ∧ FnOk Tryz.prog 5 [encTy t, encTy u, encTy w, str x, str y] r := by
 refine fn_ex tt_ok (fn := Tryz.f5) Tryz.func5 rfl Tryz.call5 ?_
 simp only [startSt,Tryz.ntmps5,List.length_cons,List.length_nil,reduceAdd,reduceSub,List.replicate_succ,List.replicate_zero,List.cons_append,List.nil_append]
 have w1 := t.size_le_wt
 have w2 := u.size_le_wt
 have w3 := w.size_le_wt
 have p1 := t.size_pos
 have p2 := u.size_pos
 have p3 := w.size_pos
 simp only [encTy_eq,tyCells]
 refine ex_region_w tt_ok 68 [0,0,0,0,0,2,2,2,0,0,2] [] (by kernel_rfl) (by kernel_rfl) fun K hK => ?_
 try simp only [ltb]
 try simp only [ltb]
 simp only [memAfter_bl,go_sem,reduceIte,reduceAdd,reduceLT,reduceLeDiff,reduceMul,reduceEqDiff,reduceSub,reduceCtorEq,List.take_length]
 refine hK _ _ (by kernel_rfl) ?_
 simp only [mkW,lkF,reduceAdd,reduceEqDiff,if_true,if_false,reduceIte]
 refine ex_seq ?_
 refine ex_region_w tt_ok 68 [0,0,0,0,0,0,0,0,0,0,0,0,0,1,2] [] (by kernel_rfl) (by kernel_rfl) fun K hK => ?_
 try simp only [ltb]
 refine runX_cut 1 fun K1 hK1 => ?_
 simp only [ltb]
 simp only [memAfter_bl,go_sem,reduceIte,reduceAdd,reduceLT,reduceLeDiff,reduceMul,reduceEqDiff,reduceSub,reduceCtorEq,List.take_length]
 refine callF_ex (⟨_, rfl, haw⟩) ?_
 rintro _ rfl
 try simp only [memAfter_bl,go_sem,reduceIte,reduceAdd,reduceLT,reduceLeDiff,reduceMul,reduceEqDiff,reduceSub,reduceCtorEq,List.take_length]
 refine hK1 _ ?_
 try simp only [ltb]
 simp only [memAfter_bl,go_sem,reduceIte,reduceAdd,reduceLT,reduceLeDiff,reduceMul,reduceEqDiff,reduceSub,reduceCtorEq,List.take_length]
 refine hK _ _ (by kernel_rfl) ?_
 simp only [mkW,lkF,reduceAdd,reduceEqDiff,if_true,if_false,reduceIte]
 refine ex_if rfl (fun hc14 => ?_) (fun hc14 => ?_)
 ·cases hc14
 ·refine ex_skip ?_
  show Go.Eng.Ex _ _ _ _ _ _
  refine ex_seq ?_
  refine ex_region_w tt_ok 68 [0,0,0,0,0,0,0,0,0,0,0,0,0,0,0,1,1,1,1,1,1,1,1,1,1,2] [(6, 21)] (by kernel_rfl) (by kernel_rfl) fun K hK => ?_
  try simp only [ltb]
  refine runX_cut 5 fun K1 hK1 => ?_
  simp only [ltb]
  simp only [memAfter_bl,go_sem,reduceIte,reduceAdd,reduceLT,reduceLeDiff,reduceMul,reduceEqDiff,reduceSub,reduceCtorEq,List.take_length]
  refine callF_ex (by have h := fewTypes_ok 200 [t, u, w] (fun x hx => by simp only [List.mem_cons,List.not_mem_nil,or_false] at hx; rcases hx with rfl | rfl | rfl <;> omega) (by simp); simp only [encTys,encTy_eq,tyCells] at h; exact ⟨_, rfl, h⟩) ?_
  rintro _ rfl
  try simp only [memAfter_bl,go_sem,reduceIte,reduceAdd,reduceLT,reduceLeDiff,reduceMul,reduceEqDiff,reduceSub,reduceCtorEq,List.take_length]
  refine hK1 _ ?_
  refine runX_cut 2 fun K1 hK1 => ?_
  simp only [ltb]
  simp only [memAfter_bl,go_sem,reduceIte,reduceAdd,reduceLT,reduceLeDiff,reduceMul,reduceEqDiff,reduceSub,reduceCtorEq,List.take_length]
  refine hK1 _ ?_
  refine runX_case 21 (by rfl) fun b hb3_6 => ?_
  cases b
  ·try simp only [ltb]
   simp only [memAfter_bl,go_sem,reduceIte,reduceAdd,reduceLT,reduceLeDiff,reduceMul,reduceEqDiff,reduceSub,reduceCtorEq,List.take_length]
   refine hK _ _ (by kernel_rfl) ?_
   simp only [mkW,lkF,reduceAdd,reduceEqDiff,if_true,if_false,reduceIte]
   refine ex_if rfl (fun hc25 => ?_) (fun hc25 => ?_)
   ·refine ex_region_w tt_ok 68 [0,0,0,0,0,0,0,0,0,0,2] [] (by kernel_rfl) (by kernel_rfl) fun K hK => ?_
    try simp only [ltb]
    try simp only [ltb]
    simp only [memAfter_bl,go_sem,reduceIte,reduceAdd,reduceLT,reduceLeDiff,reduceMul,reduceEqDiff,reduceSub,reduceCtorEq,List.take_length]
    refine hK _ _ (by kernel_rfl) ?_
    simp only [mkW,lkF,reduceAdd,reduceEqDiff,if_true,if_false,reduceIte]
    refine ex_ret ?_
    exact ⟨.inl rfl, _, rfl, rfl⟩
   ·refine ex_skip ?_
    show Go.Eng.Ex _ _ _ _ _ _
    have hsum : sumBy Ty.size [t, u, w] ≤ 200 := by have := hb3_6; simp at this; omega
    simp only [sumBy] at hsum
    have hxy : x ≠ y := fun e => by rw [e] at hc25; simp at hc25
    have s1 := Ty.subst_size [x] [u] (B := 200) (by omega) (fun v hv => by simp only [List.mem_cons,List.not_mem_nil,or_false] at hv; subst hv; omega) t
    have s2 := Ty.subst_size [y] [w] (B := 200) (by omega) (fun v hv => by simp only [List.mem_cons,List.not_mem_nil,or_false] at hv; subst hv; omega) u
    have s5 := Ty.subst_size [x] [u] (B := u.size) (by omega) (fun v hv => by simp only [List.mem_cons,List.not_mem_nil,or_false] at hv; subst hv; omega) t
    have s3 := Ty.subst_size [y] [w] (B := w.size) (by omega) (fun v hv => by simp only [List.mem_cons,List.not_mem_nil,or_false] at hv; subst hv; omega) (t.subst [x] [u])
    have s4 : ((t.subst [x] [u]).subst [y] [w]).size ≤ 1048576 := Nat.le_trans s3 (Nat.le_trans (Nat.mul_le_mul_right _ s5) (prod3 _ _ _ (by omega)))
    clear s3 s5
    refine ex_mixed_w tt_ok mixed_ok 68 [0,0,0,0,0,0,0,0,0,0,0,2,0,0,0,0,0,0,0,0,0,0,0,0,0,0,1,1,1,1,1,1,1,1,1,1,1] (by kernel_rfl) [⟨.r, 0, [0], []⟩, ⟨.n, 0, [], []⟩, ⟨.n, 0, [], []⟩, ⟨.r, 0, [0], []⟩, ⟨.n, 0, [], []⟩, ⟨.n, 0, [], []⟩, ⟨.n, 0, [], []⟩, ⟨.n, 0, [], []⟩, ⟨.r, 0, [0], []⟩, ⟨.n, 0, [], []⟩, ⟨.n, 0, [], []⟩, ⟨.a, 0, [], []⟩, ⟨.s, 0, [], []⟩] 1 (by kernel_rfl) fun K hK => ?_
    try simp only [ltb,List.replicate_zero,List.replicate_succ]
    refine runM_cut 6 (by simp) (by simp) fun K1 hK1 => ?_
    try simp only [ltb]
    simp only [memAfter_bl,go_sem,reduceIte,reduceAdd,reduceLT,reduceLeDiff,reduceMul,reduceEqDiff,reduceSub,reduceCtorEq,List.take_length,List.replicate]
    refine callD_ex rfl (by have h := subst_ok [x] [u] (by simp) (by simp) (by intro v hv; simp only [List.mem_cons,List.not_mem_nil,or_false] at hv; subst hv; omega) (t).size (t) (Nat.le_refl _) (by omega); simp only [List.map_cons,List.map_nil,encTys,encTy_eq,tyCells] at h; exact ⟨_, rfl, h⟩) ?_
    rintro _ rfl
    try simp only [memAfter_bl,go_sem,reduceIte,reduceAdd,reduceLT,reduceLeDiff,reduceMul,reduceEqDiff,reduceSub,reduceCtorEq,List.take_length,List.replicate]
    refine hK1 _ ?_
    refine runM_cut 5 (by simp) (by simp) fun K1 hK1 => ?_
    try simp only [ltb]
    simp only [memAfter_bl,go_sem,reduceIte,reduceAdd,reduceLT,reduceLeDiff,reduceMul,reduceEqDiff,reduceSub,reduceCtorEq,List.take_length,List.replicate]
    refine callD_ex rfl (by have h := subst_ok [y] [w] (by simp) (by simp) (by intro v hv; simp only [List.mem_cons,List.not_mem_nil,or_false] at hv; subst hv; omega) (t.subst [x] [u]).size (t.subst [x] [u]) (Nat.le_refl _) (by omega); simp only [List.map_cons,List.map_nil,encTys,encTy_eq,tyCells] at h; exact ⟨_, rfl, h⟩) ?_
    rintro _ rfl
    try simp only [memAfter_bl,go_sem,reduceIte,reduceAdd,reduceLT,reduceLeDiff,reduceMul,reduceEqDiff,reduceSub,reduceCtorEq,List.take_length,List.replicate]
    refine hK1 _ ?_
    try simp only [ltb]
    simp only [memAfter_bl,go_sem,reduceIte,reduceAdd,reduceLT,reduceLeDiff,reduceMul,reduceEqDiff,reduceSub,reduceCtorEq,List.take_length,List.replicate]
    refine hK _ _ (by kernel_rfl) ?_
    simp only [mkW,lkF,reduceAdd,reduceEqDiff,if_true,if_false,reduceIte]
    refine ex_mixed_w tt_ok mixed_ok 68 [0,0,0,0,0,0,0,0,0,0,0,0,2,0,0,0,0,0,0,0,0,0,0,0,0,0,0,0,0,0,0,0,0,0,0,0,0,1,1,1,1,1,1,1,1,1,1,1,1,1] (by kernel_rfl) [⟨.r, 0, [0], []⟩, ⟨.n, 0, [], []⟩, ⟨.n, 0, [], []⟩, ⟨.n, 0, [], []⟩, ⟨.r, 0, [0], []⟩, ⟨.n, 0, [], []⟩, ⟨.n, 0, [], []⟩, ⟨.r, 0, [0], []⟩, ⟨.n, 0, [], []⟩, ⟨.n, 0, [], []⟩, ⟨.r, 0, [0], []⟩, ⟨.n, 0, [], []⟩, ⟨.n, 0, [], []⟩, ⟨.a, 0, [], []⟩, ⟨.s, 0, [], []⟩] 1 (by kernel_rfl) fun K hK => ?_
    try simp only [ltb,List.replicate_zero,List.replicate_succ]
    refine runM_cut 6 (by simp) (by simp) fun K1 hK1 => ?_
    try simp only [ltb]
    simp only [memAfter_bl,go_sem,reduceIte,reduceAdd,reduceLT,reduceLeDiff,reduceMul,reduceEqDiff,reduceSub,reduceCtorEq,List.take_length,List.replicate]
    refine hK1 _ ?_
    refine runM_cut 4 (by simp) (by simp) fun K1 hK1 => ?_
    try simp only [ltb]
    simp only [memAfter_bl,go_sem,reduceIte,reduceAdd,reduceLT,reduceLeDiff,reduceMul,reduceEqDiff,reduceSub,reduceCtorEq,List.take_length,List.replicate]
    refine callD_ex rfl (by have h := subst_ok [y] [w] (by simp) (by simp) (by intro v hv; simp only [List.mem_cons,List.not_mem_nil,or_false] at hv; subst hv; omega) (u).size (u) (Nat.le_refl _) (by omega); simp only [List.map_cons,List.map_nil,encTys,encTy_eq,tyCells] at h; exact ⟨_, rfl, h⟩) ?_
    rintro _ rfl
    try simp only [memAfter_bl,go_sem,reduceIte,reduceAdd,reduceLT,reduceLeDiff,reduceMul,reduceEqDiff,reduceSub,reduceCtorEq,List.take_length,List.replicate]
    refine hK1 _ ?_
    refine runM_cut 3 (by simp) (by simp) fun K1 hK1 => ?_
    try simp only [ltb]
    simp only [memAfter_bl,go_sem,reduceIte,reduceAdd,reduceLT,reduceLeDiff,reduceMul,reduceEqDiff,reduceSub,reduceCtorEq,List.take_length,List.replicate]
    refine callD_ex rfl (by have h := subst_ok [x, y] [u.subst [y] [w], w] (by simp) (by simp) (by intro v hv; simp only [List.mem_cons,List.not_mem_nil,or_false] at hv; rcases hv with rfl | rfl <;> omega) (t).size (t) (Nat.le_refl _) (by omega); simp only [List.map_cons,List.map_nil,encTys,encTy_eq,tyCells] at h; exact ⟨_, rfl, h⟩) ?_
    rintro _ rfl
    try simp only [memAfter_bl,go_sem,reduceIte,reduceAdd,reduceLT,reduceLeDiff,reduceMul,reduceEqDiff,reduceSub,reduceCtorEq,List.take_length,List.replicate]
    refine hK1 _ ?_
    try simp only [ltb]
    simp only [memAfter_bl,go_sem,reduceIte,reduceAdd,reduceLT,reduceLeDiff,reduceMul,reduceEqDiff,reduceSub,reduceCtorEq,List.take_length,List.replicate]
    refine hK _ _ (by kernel_rfl) ?_
    simp only [mkW,lkF,reduceAdd,reduceEqDiff,if_true,if_false,reduceIte]
    refine ex_seq ?_
    refine ex_region_w tt_ok 68 [0,0,0,0,0,0,0,0,0,0,0,0,0,0,0,0,0,0,0,0,0,0,0,0,0,0,0,0,0,0,0,0,0,0,0,0,0,0,0,0,0,0,0,0,0,0,0,0,0,0,1,1,1,2] [] (by kernel_rfl) (by kernel_rfl) fun K hK => ?_
    try simp only [ltb]
    refine runX_cut 3 fun K1 hK1 => ?_
    simp only [ltb]
    simp only [memAfter_bl,go_sem,reduceIte,reduceAdd,reduceLT,reduceLeDiff,reduceMul,reduceEqDiff,reduceSub,reduceCtorEq,List.take_length]
    refine callF_ex (by have h := seqTy_ok _ ((t.subst [x] [u]).subst [y] [w]) (t.subst [x, y] [u.subst [y] [w], w]) (Nat.le_refl _) (by omega); rw [← Ty.subst_two hxy, eqb_self2] at h; rw [Ty.subst_two hxy] at h ⊢; simp only [encTy_eq,tyCells] at h; exact ⟨_, rfl, h⟩) ?_
    rintro _ rfl
    try simp only [memAfter_bl,go_sem,reduceIte,reduceAdd,reduceLT,reduceLeDiff,reduceMul,reduceEqDiff,reduceSub,reduceCtorEq,List.take_length]
    refine hK1 _ ?_
    try simp only [ltb]
    simp only [memAfter_bl,go_sem,reduceIte,reduceAdd,reduceLT,reduceLeDiff,reduceMul,reduceEqDiff,reduceSub,reduceCtorEq,List.take_length]
    refine hK _ _ (by kernel_rfl) ?_
    simp only [mkW,lkF,reduceAdd,reduceEqDiff,if_true,if_false,reduceIte]
    refine ex_if rfl (fun hc53 => ?_) (fun hc53 => ?_)
    ·cases hc53
    ·refine ex_skip ?_
     show Go.Eng.Ex _ _ _ _ _ _
     have hP : ∀ v ∈ t.nodes, v.name.size ≤ 1048576 := fun v hv => by have h1 := Ty.wt_nodes hv; have h2 := v.wt_eq; omega
     have hvl := varMap_length t hP
     refine ex_mixed_w tt_ok mixed_ok 68 [0,0,0,0,0,0,0,0,0,0,2,0,0,0,0,0,0,0,0,0,0,0,0,0,0,0,0,0,0,0,0,0,0,0,0,0,0,0,0,0,0,0,0,0,0,0,0,0,0,0,0,0,0,0,1,1,1,1,1,1,1,1,1,1,1,1,1,1] (by kernel_rfl) [⟨.r, 0, [], []⟩, ⟨.n, 0, [], []⟩, ⟨.n, 0, [], []⟩, ⟨.n, 0, [], []⟩, ⟨.n, 0, [], []⟩, ⟨.r, 0, [], []⟩, ⟨.n, 0, [], []⟩, ⟨.n, 0, [], []⟩, ⟨.r, 0, [], []⟩, ⟨.n, 0, [], []⟩, ⟨.n, 0, [], []⟩, ⟨.r, 0, [], []⟩, ⟨.n, 0, [], []⟩, ⟨.n, 0, [], []⟩, ⟨.n, 0, [], []⟩] 0 (by kernel_rfl) fun K hK => ?_
     try simp only [ltb,List.replicate_zero,List.replicate_succ]
     refine runM_cut 2 (by simp) (by simp) fun K1 hK1 => ?_
     try simp only [ltb]
     simp only [memAfter_bl,go_sem,reduceIte,reduceAdd,reduceLT,reduceLeDiff,reduceMul,reduceEqDiff,reduceSub,reduceCtorEq,List.take_length,List.replicate]
     refine callD_ex rfl (by have h := free_ok t ht; simp only [encTy_eq,tyCells] at h; exact ⟨_, rfl, h⟩) ?_
     rintro _ rfl
     try simp only [memAfter_bl,go_sem,reduceIte,reduceAdd,reduceLT,reduceLeDiff,reduceMul,reduceEqDiff,reduceSub,reduceCtorEq,List.take_length,List.replicate]
     refine hK1 _ ?_
     refine runM_cut 2 (by simp) (by simp) fun K1 hK1 => ?_
     try simp only [ltb]
     simp only [memAfter_bl,go_sem,reduceIte,reduceAdd,reduceLT,reduceLeDiff,reduceMul,reduceEqDiff,reduceSub,reduceCtorEq,List.take_length,List.replicate]
     refine callD_ex rfl (scontains_tot _ x (by rw [sortedN_length]; omega)) ?_
     rintro _ rfl
     try simp only [memAfter_bl,go_sem,reduceIte,reduceAdd,reduceLT,reduceLeDiff,reduceMul,reduceEqDiff,reduceSub,reduceCtorEq,List.take_length,List.replicate]
     refine hK1 _ ?_
     refine runM_cut 1 (by simp) (by simp) fun K1 hK1 => ?_
     try simp only [ltb]
     simp only [memAfter_bl,go_sem,reduceIte,reduceAdd,reduceLT,reduceLeDiff,reduceMul,reduceEqDiff,reduceSub,reduceCtorEq,List.take_length,List.replicate]
     refine hK1 _ ?_
     refine runM_case 58 (by rfl) fun b hb9_4 => ?_
     cases b
     ·have hid : t.subst [x] [u] = t := by
       have h1 := of_decide_eq_false hb9_4
       have h2 : idxN (sortedN (varMap t).1.1) x = -1 := by rcases idxN_get (ns := sortedN (varMap t).1.1) (s := x) with ⟨e, -⟩ | ⟨i, e, -⟩ <;> omega
       have h3 := idxN_mem h2
       refine Ty.subst_id _ _ t fun v hv => ?_
       rw [pickT_one, if_neg]
       intro e
       have e2 : v = x := tl_eq (by simpa using e)
       rw [e2, ← varMap_keys t hP, ← sortedN_mem (varMap t).2] at hv
       exact h3 hv
      refine runM_cut 6 (by simp) (by simp) fun K1 hK1 => ?_
      try simp only [ltb]
      simp only [memAfter_bl,go_sem,reduceIte,reduceAdd,reduceLT,reduceLeDiff,reduceMul,reduceEqDiff,reduceSub,reduceCtorEq,List.take_length,List.replicate]
      refine callD_ex rfl (by have h := subst_ok [x] [u] (by simp) (by simp) (by intro v hv; simp only [List.mem_cons,List.not_mem_nil,or_false] at hv; subst hv; omega) (t).size (t) (Nat.le_refl _) (by omega); simp only [List.map_cons,List.map_nil,encTys,encTy_eq,tyCells] at h; exact ⟨_, rfl, h⟩) ?_
      rintro _ rfl
      try simp only [memAfter_bl,go_sem,reduceIte,reduceAdd,reduceLT,reduceLeDiff,reduceMul,reduceEqDiff,reduceSub,reduceCtorEq,List.take_length,List.replicate]
      refine hK1 _ ?_
      refine runM_cut 2 (by simp) (by simp) fun K1 hK1 => ?_
      try simp only [ltb]
      simp only [memAfter_bl,go_sem,reduceIte,reduceAdd,reduceLT,reduceLeDiff,reduceMul,reduceEqDiff,reduceSub,reduceCtorEq,List.take_length,List.replicate]
      refine callD_ex rfl (by have h := seqTy_ok _ (t.subst [x] [u]) t (Nat.le_refl _) (by omega); rw [eqb_true hid] at h; simp only [encTy_eq,tyCells] at h; exact ⟨_, rfl, h⟩) ?_
      rintro _ rfl
      try simp only [memAfter_bl,go_sem,reduceIte,reduceAdd,reduceLT,reduceLeDiff,reduceMul,reduceEqDiff,reduceSub,reduceCtorEq,List.take_length,List.replicate]
      refine hK1 _ ?_
      try simp only [ltb]
      simp only [memAfter_bl,go_sem,reduceIte,reduceAdd,reduceLT,reduceLeDiff,reduceMul,reduceEqDiff,reduceSub,reduceCtorEq,List.take_length,List.replicate]
      refine hK _ _ (by kernel_rfl) ?_
      simp only [mkW,lkF,reduceAdd,reduceEqDiff,if_true,if_false,reduceIte]
      refine ex_ret ?_
      exact ⟨.inl rfl, _, rfl, rfl⟩
     ·refine runM_cut 6 (by simp) (by simp) fun K1 hK1 => ?_
      try simp only [ltb]
      simp only [memAfter_bl,go_sem,reduceIte,reduceAdd,reduceLT,reduceLeDiff,reduceMul,reduceEqDiff,reduceSub,reduceCtorEq,List.take_length,List.replicate]
      refine hK1 _ ?_
      try simp only [ltb]
      simp only [memAfter_bl,go_sem,reduceIte,reduceAdd,reduceLT,reduceLeDiff,reduceMul,reduceEqDiff,reduceSub,reduceCtorEq,List.take_length,List.replicate]
      refine hK _ _ (by kernel_rfl) ?_
      simp only [mkW,lkF,reduceAdd,reduceEqDiff,if_true,if_false,reduceIte]
      refine ex_ret ?_
      exact ⟨.inl rfl, _, rfl, rfl⟩
  ·try simp only [ltb]
   simp only [memAfter_bl,go_sem,reduceIte,reduceAdd,reduceLT,reduceLeDiff,reduceMul,reduceEqDiff,reduceSub,reduceCtorEq,List.take_length]
   refine hK _ _ (by kernel_rfl) ?_
   simp only [mkW,lkF,reduceAdd,reduceEqDiff,if_true,if_false,reduceIte]
   refine ex_cond rfl ?_
   refine ex_region_w tt_ok 68 [0,0,0,0,0,0,0,0,0,0,2] [] (by kernel_rfl) (by kernel_rfl) fun K hK => ?_
   try simp only [ltb]
   try simp only [ltb]
   simp only [memAfter_bl,go_sem,reduceIte,reduceAdd,reduceLT,reduceLeDiff,reduceMul,reduceEqDiff,reduceSub,reduceCtorEq,List.take_length]
   refine hK _ _ (by kernel_rfl) ?_
   simp only [mkW,lkF,reduceAdd,reduceEqDiff,if_true,if_false,reduceIte]
   refine ex_ret ?_
   exact ⟨.inl rfl, _, rfl, rfl⟩
theorem composesLaw_ok (haw : FnOk Tryz.prog 10 [] (bl true)) (t u w : Ty) (x y : ByteArray) (ht : t.wt ≤ 1048576) (hu : u.wt ≤ 1048576) (hw : w.wt ≤ 1048576) : FnOk Tryz.prog 5 [encTy t, encTy u, encTy w, str x, str y] (bl true) := by
 obtain ⟨_, rfl, h⟩ := composes_law haw t u w x y ht hu hw
 exact h
end Go.Proofs.YtpjdfcigadnhcaaGreatDoor
end

section
namespace Go.Proofs.YtpjdfcigadnhcaaGreatDoor.lawSyntaxComposes
open Go.Eng
set_option maxRecDepth 100000
open Go.ChangeShapes Go.WideShapes Go.ChangeAt Go.RowKit
theorem contract (H : Type) (enc : TypeId × Value → H) (W : World) (args : Array Value) (ds gs : List (DataW H)) (before : List MemPlace) (base : Nat)
  (hok : ∀ (j : Nat) t v, Tryz.f5.params[j]? = some t → args[j]? = some v → Value.okWide Tryz.prog W .any base t v)
  (hW : DataW.Whole enc Tryz.prog Tryz.f5.params.toList Rows.syntaxComposesSpec.vars false W args.toList ds gs before) (hb : Rows.uptoBulkAll (ds ++ gs) ≤ 1048576) (hS : W.ShapedOpen Tryz.prog) :
  Calls Tryz.prog 5 args W fun e W' => ∃ v, e = .returned v ∧ Rows.syntaxComposesSpec.post enc Tryz.prog Tryz.f5 false true false false W args v W' := by
 have hW' := hW
 have hlt := hW.lt
 obtain ⟨p, q, hA0, hV, rfl, hfz, hnd⟩ := hW
 have hA : DataW.TrodAll enc Tryz.prog W 0 (fun _ => true) true Tryz.f5.params.toList args.toList ds p := hA0
 rw [Tryz.params5] at hA
 obtain ⟨v0, vs0, d0, ds0, p0, q0, hargs, rfl, rfl, h0, r0⟩ := trodAll_cons hA
 obtain ⟨v1, vs1, d1, ds1, p1, q1, rfl, rfl, rfl, h1, r1⟩ := trodAll_cons r0
 obtain ⟨v2, vs2, d2, ds2, p2, q2, rfl, rfl, rfl, h2, r2⟩ := trodAll_cons r1
 obtain ⟨v3, vs3, d3, ds3, p3, q3, rfl, rfl, rfl, h3, r3⟩ := trodAll_cons r2
 obtain ⟨v4, vs4, d4, ds4, p4, q4, rfl, rfl, rfl, h4, r4⟩ := trodAll_cons r3
 obtain ⟨rfl, rfl, rfl⟩ := trodAll_nil r4
 obtain rfl : args = #[v0, v1, v2, v3, v4] := by cases args; simp_all
 obtain ⟨rfl, rfl⟩ := trodVars_none hV
 rw [Tryz.params5] at hok
 obtain ⟨s3, rfl⟩ := okWide_string Tryz.underlying9 (hok 3 9 v3 rfl rfl)
 obtain ⟨s4, rfl⟩ := okWide_string Tryz.underlying9 (hok 4 9 v4 rfl rfl)
 clear hok
 clear hA0 hA r0 r1 r2 r3 r4 hargs hV
 simp only [List.append_nil] at hW' hlt
 simp only [List.append_nil,List.cons_append,List.nil_append,Rows.uptoBulkAll] at hb
 have h0' := h0
 have h1' := h1
 have h2' := h2
 have h3' := h3
 have h4' := h4
 obtain ⟨f0, h0⟩ := h0
 obtain ⟨f1, h1⟩ := h1
 obtain ⟨f2, h2⟩ := h2
 have main : Calls Tryz.prog 5 #[v0, v1, v2, .string s3, .string s4] W fun e W' => e = .returned (.bool true) ∧ Below W.heap.size W W' := by
  obtain ⟨n, hn⟩ := maxLen_at hS
  have go : ∀ (G : Glob) (hG : G.g = some 0) (hg : @Gl G W.cell?), @FnOk G Tryz.prog 10 [] tru → Calls Tryz.prog 5 #[v0, v1, v2, .string s3, .string s4] W fun e W' => e = .returned (.bool true) ∧ Below W.heap.size W W' := fun G hG hg haw => by
   obtain ⟨x0, hx0, b0⟩ := rd_ty (F := W.cell?) (hg := hg) rfl _ h0
   obtain ⟨x1, hx1, b1⟩ := rd_ty (F := W.cell?) (hg := hg) rfl _ h1
   obtain ⟨x2, hx2, b2⟩ := rd_ty (F := W.cell?) (hg := hg) rfl _ h2
   rw [encTy_eq] at hx0
   rw [encTy_eq] at hx1
   rw [encTy_eq] at hx2
   have hc := composesLaw_ok haw x0 x1 x2 s3 s4 (by omega) (by omega) (by omega)
   refine (hc.2 W.cell? hg W #[v0, v1, v2, .string s3, .string s4] (fun _ _ h => h) ?_).mono fun o W' h => ?_
   ·simp only [encTy_eq]
    exact .cons (rep_one (by simp [tyCells]) hx0) (.cons (rep_one (by simp [tyCells]) hx1) (.cons (rep_one (by simp [tyCells]) hx2) (.cons (.sc _ _) (.cons (.sc _ _) (.nil _)))))
   ·obtain ⟨F', x, rfl, -, -, -, ⟨hg', hx⟩, hbel⟩ := h
    obtain rfl := rep_sc hx
    exact ⟨rfl, hbel⟩
  by_cases hge : 4 ≤ n
  ·exact go (gGe n hge) rfl (@Gl.mk (gGe n hge) _ (fun g hg => by cases hg; exact hn) (fun g cs j x h => by cases h)) (awake_ge n hge)
  ·by_cases he3 : n = 3
   ·subst he3
    exact go gEq rfl (@Gl.mk gEq _ (fun g hg => by cases hg; exact hn) (fun g cs j x h => by cases h)) awake_eq
   ·have hl : n < 3 := by omega
    exact go (gLt n hl) rfl (@Gl.mk (gLt n hl) _ (fun g hg => by cases hg; exact hn) (fun g cs j x h => by cases h)) (awake_lt n hl)
 refine main.mono fun e W' ⟨he, hbel⟩ => ?_
 subst he
 have hlaid : laidOutB Tryz.prog = true := by kernel_rfl
 refine ⟨_, rfl, post_kept (pa := p0 ++ (p1 ++ (p2 ++ (p3 ++ (p4 ++ []))))) (pv := []) hW' (fun _ _ _ => trodAll_cons_mk (shut_bool Tryz.underlying4 _) trodAll_mk0) (fun sp hsp => ?_) (fun _ _ => rfl) (by simp)
  hbel (ok_one (by kernel_rfl) rfl (okWide_bool_mk Tryz.underlying4 _))⟩
 ·refine trodAll_cons_mk (WideElems.Trod_stays hlaid (by kernel_rfl) (of_decide_eq_true (by kernel_rfl)) h0' (fun x hx => hbel.same (hlt x (by simp [hx]))) (fun x hx => hsp x (by simp [hx])))
   (trodAll_cons_mk (WideElems.Trod_stays hlaid (by kernel_rfl) (of_decide_eq_true (by kernel_rfl)) h1' (fun x hx => hbel.same (hlt x (by simp [hx]))) (fun x hx => hsp x (by simp [hx])))
   (trodAll_cons_mk (WideElems.Trod_stays hlaid (by kernel_rfl) (of_decide_eq_true (by kernel_rfl)) h2' (fun x hx => hbel.same (hlt x (by simp [hx]))) (fun x hx => hsp x (by simp [hx])))
   (trodAll_cons_mk (WideElems.Trod_stays hlaid (by kernel_rfl) (of_decide_eq_true (by kernel_rfl)) h3' (fun x hx => hbel.same (hlt x (by simp [hx]))) (fun x hx => hsp x (by simp [hx])))
   (trodAll_cons_mk (WideElems.Trod_stays hlaid (by kernel_rfl) (of_decide_eq_true (by kernel_rfl)) h4' (fun x hx => hbel.same (hlt x (by simp [hx]))) (fun x hx => hsp x (by simp [hx])))
   trodAll_mk0))))
end Go.Proofs.YtpjdfcigadnhcaaGreatDoor.lawSyntaxComposes
end

section
namespace Go.Proofs.YtpjdfcigadnhcaaGreatDoor
open Go.ChangeShapes Go.WideShapes Go.ChangeAt Go.RowKit
theorem own : ownKnob Tryz.prog.godebug = none := by kernel_rfl
def wTy : Value := .agg #[.int .i64 0, .string ⟨#[]⟩, .string ⟨#[]⟩, .slice none 0 0, .slice none 0 0]
def wEx : Value := .agg #[.int .i64 0, .string ⟨#[]⟩, .string ⟨#[]⟩, .string ⟨#[]⟩, .int .i64 0, .slice none 0 0, .slice none 0 0, .slice none 0 0]
def wMd : Value := .agg #[.string ⟨#[]⟩, .slice none 0 0, .slice none 0 0]
def dTy (H : Type) : DataW H := .agg [.lit (.int .i64 0), .lit (.string []), .lit (.string []), .nil, .nil]
def dEx (H : Type) : DataW H := .agg [.lit (.int .i64 0), .lit (.string []), .lit (.string []), .lit (.string []), .lit (.int .i64 0), .nil, .nil, .nil]
def dMd (H : Type) : DataW H := .agg [.lit (.string []), .nil, .nil]
def layAs (cs : Array Value) : Obj → Obj
 | .cells _ t frozen => .cells cs t frozen
 | o => o
def accZ : List Nat := [128,191,160,191,128,159,144,191,128,143,0,0,0,0,0,0,0,0,0,0,0,0,0,0,0,0,0,0,0,0,0,0]
noncomputable def laidWorld (os : Os) : World :=
 { World.holding Tryz.prog os ⟨#[], #[], []⟩ with heap := ((World.holding Tryz.prog os ⟨#[], #[], []⟩).heap.modify 1 (layAs ⟨Pinned.utf8FirstZ.map fun n => Value.int .u8 (Int.ofNat n)⟩)).modify 2 (layAs ⟨accZ.map fun n => Value.int .u8 (Int.ofNat n)⟩) }
end Go.Proofs.YtpjdfcigadnhcaaGreatDoor
end
