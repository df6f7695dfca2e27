/-
  MAPS OF NAMES: what the set of a type's variables comes to.
-/
import Derived.Test.YtpjdfcigadnhcaaGreatDoorF8
import Derived.Sort.KeysCollected
set_option linter.all false
section
namespace Go.Proofs.YtpjdfcigadnhcaaGreatDoor
open Go.Eng
variable [Glob]
def NGood (s : List (Value × Nat × V) × Nat) : Prop :=
 (∀ e ∈ s.1, (∃ a : ByteArray, e.1 = .string a ∧ a.size ≤ 1048576) ∧ e.2.2 = bl true ∧ e.2.1 < s.2) ∧ (s.1.map fun e => e.2.1).Nodup ∧ (s.1.map fun e => e.1).Nodup
theorem NGood.nil : NGood ([], 0) := ⟨fun e he => by simp at he, by simp, by simp⟩
theorem NGood.below {s : List (Value × Nat × V) × Nat} (h : NGood s) (n : Nat) : (s.1.all fun e => belowV n e.2.2) = true := List.all_eq_true.2 fun e he => by
 rw [(h.1 e he).2.1]; rfl
theorem keyN : ∃ et, KeyT Tryz.prog 96 9 et isStrK := ⟨4, keyT_str (by kernel_rfl) (by kernel_rfl)⟩
theorem NGood.ins {s : List (Value × Nat × V) × Nat} (h : NGood s) (n : ByteArray) (hn : n.size ≤ 1048576) : ∃ s', NGood s' ∧ insertAt Tryz.prog 9 (.string n) (bl true) s.1 s.2 = some s' ∧
  (∀ k, (∃ e ∈ s'.1, e.1 = .string k) ↔ k = n ∨ ∃ e ∈ s.1, e.1 = .string k) ∧ s'.1.length ≤ s.1.length + 1 := by
 obtain ⟨et, hK⟩ := keyN
 obtain ⟨h1, h2, h3⟩ := h
 rcases insert_at (cl := s.2) hK (k := .string n) ⟨n, rfl⟩ (fun e he => let ⟨a, ha, _⟩ := (h1 e he).1; ⟨a, ha⟩) (bl true) with ⟨hi, hno⟩ | ⟨i, e, he, hk, hi⟩
 ·refine ⟨_, ⟨fun e he => ?_, ?_, ?_⟩, hi, fun k => ?_, by simp⟩
  ·rcases List.mem_append.1 he with he | he
   ·obtain ⟨p1, p2, p3⟩ := h1 e he
    exact ⟨p1, p2, Nat.lt_succ_of_lt p3⟩
   ·rw [List.mem_singleton] at he; subst he
    exact ⟨⟨n, rfl, hn⟩, rfl, Nat.lt_succ_self _⟩
  ·simp only [List.map_append,List.map_cons,List.map_nil]
   rw [List.nodup_append]
   refine ⟨h2, by simp, fun a ha b hb => ?_⟩
   rw [List.mem_singleton] at hb; subst hb
   obtain ⟨e, he, rfl⟩ := List.mem_map.1 ha
   exact Nat.ne_of_lt (h1 e he).2.2
  ·simp only [List.map_append,List.map_cons,List.map_nil]
   rw [List.nodup_append]
   refine ⟨h3, by simp, fun a ha b hb => ?_⟩
   rw [List.mem_singleton] at hb; subst hb
   obtain ⟨e, he, rfl⟩ := List.mem_map.1 ha
   exact hno e he
  ·constructor
   ·rintro ⟨e, he, hk⟩
    rcases List.mem_append.1 he with he | he
    ·exact .inr ⟨e, he, hk⟩
    ·rw [List.mem_singleton] at he; subst he
     cases hk; exact .inl rfl
   ·rintro (rfl | ⟨e, he, hk⟩)
    ·exact ⟨_, List.mem_append_right _ (List.mem_singleton.2 rfl), rfl⟩
    ·exact ⟨e, List.mem_append_left _ he, hk⟩
 ·have hlt := (List.getElem?_eq_some_iff.1 he).1
  have hm := List.mem_of_getElem? he
  have q : ∀ {β : Type} (f : Value × Nat × V → β), f (.string n, e.2.1, bl true) = f e → (s.1.set i (.string n, e.2.1, bl true)).map f = s.1.map f := fun f hf => by
   rw [List.map_set, hf]
   apply List.ext_getElem?
   intro j
   rw [List.getElem?_set]
   split
   ·rename_i hij; subst hij
    rw [if_pos (by simpa using hlt), List.getElem?_map, he]; rfl
   ·rfl
  refine ⟨_, ⟨fun e' he' => ?_, ?_, ?_⟩, hi, fun k => ?_, by simp⟩
  ·rcases List.mem_or_eq_of_mem_set he' with he' | rfl
   ·exact h1 e' he'
   ·exact ⟨⟨n, rfl, hn⟩, rfl, (h1 e hm).2.2⟩
  ·have := q (fun e => e.2.1) rfl
   dsimp only at this ⊢
   rw [this]; exact h2
  ·have := q (fun e => e.1) hk.symm
   dsimp only at this ⊢
   rw [this]; exact h3
  ·have q1 := q (fun e => e.1) hk.symm
   have q2 : ∀ l : List (Value × Nat × V), (∃ e ∈ l, e.1 = .string k) ↔ Value.string k ∈ l.map fun e => e.1 := fun l => by simp [List.mem_map, eq_comm]
   rw [q2, q1, ← q2]
   constructor
   ·exact .inr
   ·rintro (rfl | h)
    ·exact ⟨e, hm, hk⟩
    ·exact h
open Classical in
noncomputable def insN (s : { s // NGood s }) (n : ByteArray) : { s // NGood s } := if h : n.size ≤ 1048576 then ⟨Classical.choose (s.2.ins n h), (Classical.choose_spec (s.2.ins n h)).1⟩ else s
theorem insN_ok (s : { s // NGood s }) (n : ByteArray) (hn : n.size ≤ 1048576) : insertAt Tryz.prog 9 (.string n) (bl true) s.1.1 s.1.2 = some (insN s n).1 ∧
  (∀ k, (∃ e ∈ (insN s n).1.1, e.1 = .string k) ↔ k = n ∨ ∃ e ∈ s.1.1, e.1 = .string k) ∧ (insN s n).1.1.length ≤ s.1.1.length + 1 := by
 unfold insN
 rw [dif_pos hn]
 exact (Classical.choose_spec (s.2.ins n hn)).2
noncomputable def stepN (s : { s // NGood s }) (u : Ty) : { s // NGood s } := if decide (u.kind = 9) = true then insN s u.name else s
theorem stepN_fold : ∀ (l : List Ty) (s : { s // NGood s }), (∀ u ∈ l, u.name.size ≤ 1048576) →
  (∀ k, (∃ e ∈ (l.foldl stepN s).1.1, e.1 = .string k) ↔ (∃ u ∈ l, u.kind = 9 ∧ u.name = k) ∨ ∃ e ∈ s.1.1, e.1 = .string k) ∧ (l.foldl stepN s).1.1.length ≤ s.1.1.length + l.length
 | [], s, _ => ⟨fun k => by simp, by simp⟩
 | u :: r, s, h => by
  obtain ⟨h1, h2⟩ := stepN_fold r (stepN s u) fun v hv => h v (List.mem_cons_of_mem _ hv)
  rw [List.foldl_cons]
  by_cases h9 : u.kind = 9
  ·have e0 : stepN s u = insN s u.name := by unfold stepN; rw [if_pos (decide_eq_true h9)]
   obtain ⟨-, h3, h4⟩ := insN_ok s u.name (h u (List.mem_cons_self ..))
   rw [e0] at h1 h2 ⊢
   refine ⟨fun k => ?_, by rw [List.length_cons]; omega⟩
   rw [h1 k, h3 k]
   constructor
   ·rintro (⟨v, hv, hv9, hvk⟩ | rfl | he)
    ·exact .inl ⟨v, List.mem_cons_of_mem _ hv, hv9, hvk⟩
    ·exact .inl ⟨u, List.mem_cons_self .., h9, rfl⟩
    ·exact .inr he
   ·rintro (⟨v, hv, hv9, hvk⟩ | he)
    ·rcases List.mem_cons.1 hv with rfl | hv
     ·exact .inr (.inl hvk.symm)
     ·exact .inl ⟨v, hv, hv9, hvk⟩
    ·exact .inr (.inr he)
  ·have e0 : stepN s u = s := by unfold stepN; rw [if_neg (by simpa using h9)]
   rw [e0] at h1 h2 ⊢
   refine ⟨fun k => ?_, by rw [List.length_cons]; omega⟩
   rw [h1 k]
   constructor
   ·rintro (⟨v, hv, hv9, hvk⟩ | he)
    ·exact .inl ⟨v, List.mem_cons_of_mem _ hv, hv9, hvk⟩
    ·exact .inr he
   ·rintro (⟨v, hv, hv9, hvk⟩ | he)
    ·rcases List.mem_cons.1 hv with rfl | hv
     ·exact absurd hv9 h9
     ·exact .inl ⟨v, hv, hv9, hvk⟩
    ·exact .inr he
noncomputable def varMap (t : Ty) : { s // NGood s } := t.nodes.foldl stepN ⟨([], 0), NGood.nil⟩
theorem varMap_keys (t : Ty) (h : ∀ u ∈ t.nodes, u.name.size ≤ 1048576) (k : ByteArray) : (∃ e ∈ (varMap t).1.1, e.1 = .string k) ↔ k ∈ t.vars := by
 rw [varMap, (stepN_fold t.nodes _ h).1 k]
 unfold Ty.vars
 constructor
 ·rintro (⟨u, hu, h9, rfl⟩ | ⟨e, he, -⟩)
  ·exact List.mem_map.2 ⟨u, List.mem_filter.2 ⟨hu, decide_eq_true h9⟩, rfl⟩
  ·simp at he
 ·intro hk
  obtain ⟨u, hu, rfl⟩ := List.mem_map.1 hk
  obtain ⟨h1, h2⟩ := List.mem_filter.1 hu
  exact .inl ⟨u, h1, of_decide_eq_true h2, rfl⟩
theorem varMap_length (t : Ty) (h : ∀ u ∈ t.nodes, u.name.size ≤ 1048576) : (varMap t).1.1.length ≤ t.size := by
 have := (stepN_fold t.nodes ⟨([], 0), NGood.nil⟩ h).2
 rw [Ty.nodes_length _ t (Nat.le_refl _)] at this
 simpa [varMap] using this
def keyB (e : Value × Nat × V) : List UInt8 := match e.1 with
 | .string a => a.data.toList
 | _ => []
def sortedN (s : List (Value × Nat × V)) : List ByteArray := ((s.map keyB).mergeSort leB).map fun l => (⟨l.toArray⟩ : ByteArray)
theorem sortedN_mem {s : List (Value × Nat × V) × Nat} (h : NGood s) (k : ByteArray) : k ∈ sortedN s.1 ↔ ∃ e ∈ s.1, e.1 = .string k := by
 unfold sortedN
 rw [List.mem_map]
 constructor
 ·rintro ⟨l, hl, rfl⟩
  rw [List.mem_mergeSort] at hl
  obtain ⟨e, he, rfl⟩ := List.mem_map.1 hl
  obtain ⟨⟨a, ha, -⟩, -, -⟩ := h.1 e he
  refine ⟨e, he, ?_⟩
  rw [ha]; unfold keyB; rw [ha]
 ·rintro ⟨e, he, hk⟩
  refine ⟨k.data.toList, ?_, by cases k; rfl⟩
  rw [List.mem_mergeSort]
  exact List.mem_map.2 ⟨e, he, by unfold keyB; rw [hk]⟩
end Go.Proofs.YtpjdfcigadnhcaaGreatDoor
end
