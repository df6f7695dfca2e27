/-
  PLAIN: equal neighbours left out.
  PLAIN: the variables and the references of a type with a type in place of a variable.
  CONTRACTS: CheckType of the reference.
  CONTRACTS: the range over the nodes of a type, with what is known of each node.
  MAPS OF USES: what the set of a type's references comes to.
  CONTRACTS: a range over the keys of a map of uses.
-/
import Derived.Test.YtpjdfcigadnhcaaGreatDoorF5
set_option linter.all false
section
namespace Go.Proofs.YtpjdfcigadnhcaaGreatDoor
open Go.Eng
section
variable {α : Type} [DecidableEq α]
def ddA (p : α) : List α → List α
 | [] => []
 | y :: r => if y = p then ddA p r else y :: ddA y r
def dd : List α → List α
 | [] => []
 | x :: r => x :: ddA x r
theorem ddA_snoc (z : α) : ∀ (r : List α) (p : α), ddA p (r ++ [z]) = ddA p r ++ (if z = r.getLast?.getD p then [] else [z])
 | [], p => by
  simp only [List.nil_append,ddA,List.getLast?_nil,Option.getD_none]
  rfl
 | y :: r, p => by
  have e1 : (y :: r).getLast?.getD p = r.getLast?.getD y := by rw [List.getLast?_cons]; rfl
  rw [e1, List.cons_append]
  unfold ddA
  by_cases h : y = p
  ·rw [if_pos h, if_pos h, ddA_snoc z r p, h]
  ·rw [if_neg h, if_neg h, ddA_snoc z r y]; rfl
theorem dd_snoc {l : List α} (z y : α) (h : l.getLast? = some y) : dd (l ++ [z]) = dd l ++ (if z = y then [] else [z]) := by
 cases l with
 | nil => simp at h
 | cons x r =>
  have e1 : r.getLast?.getD x = y := by rw [List.getLast?_cons] at h; exact Option.some.inj h
  show x :: ddA x (r ++ [z]) = (x :: ddA x r) ++ _
  rw [ddA_snoc, e1]; rfl
theorem getLast_take {l : List α} {i : Nat} {y : α} (h : l[i]? = some y) : (l.take (i + 1)).getLast? = some y := by
 rw [List.take_add_one, h]; simp
theorem dd_take {l : List α} {i : Nat} {x y : α} (hx : l[i + 1]? = some x) (hy : l[i]? = some y) : dd (l.take (i + 2)) = dd (l.take (i + 1)) ++ (if x = y then [] else [x]) := by
 rw [List.take_add_one (i := i + 1), hx]
 exact dd_snoc x y (getLast_take hy)
theorem ddA_length (p : α) : ∀ r : List α, (ddA p r).length ≤ r.length := by
 intro r
 induction r generalizing p with
 | nil => exact Nat.le_refl _
 | cons y r ih =>
  unfold ddA
  split
  ·exact Nat.le_succ_of_le (ih p)
  ·exact Nat.succ_le_succ (ih y)
theorem dd_length (l : List α) : (dd l).length ≤ l.length := by
 cases l with
 | nil => exact Nat.le_refl _
 | cons x r => exact Nat.succ_le_succ (ddA_length x r)
theorem ddA_mem (x : α) : ∀ (r : List α) (p : α), x = p ∨ x ∈ ddA p r ↔ x = p ∨ x ∈ r
 | [], p => by simp [ddA]
 | y :: r, p => by
  unfold ddA
  split
  ·rename_i h; subst h
   rw [ddA_mem x r y, List.mem_cons]
   constructor
   ·rintro (h | h)
    ·exact .inl h
    ·exact .inr (.inr h)
   ·rintro (h | h | h)
    ·exact .inl h
    ·exact .inl h
    ·exact .inr h
  ·rw [List.mem_cons, ddA_mem x r y, List.mem_cons]
theorem dd_mem (x : α) (l : List α) : x ∈ dd l ↔ x ∈ l := by
 cases l with
 | nil => exact Iff.rfl
 | cons y r => rw [dd, List.mem_cons, ddA_mem, List.mem_cons]
theorem ddA_asc {lt : α → α → Bool} (hl : Lin lt) : ∀ (r : List α) (p : α), (∀ x ∈ r, lt x p = false) → (r.Pairwise fun x y => lt y x = false) → Asc lt (p :: ddA p r)
 | [], p, _, _ => by simp [ddA, Asc]
 | y :: r, p, h1, h2 => by
  rw [List.pairwise_cons] at h2
  unfold ddA
  split
  ·rename_i h; subst h
   exact ddA_asc hl r y (fun x hx => h2.1 x hx) h2.2
  ·rename_i h
   have h3 := ddA_asc hl r y h2.1 h2.2
   have h4 : lt p y = true := by
    cases h5 : lt p y with
    | true => rfl
    | false => exact absurd (hl.tri _ _ (h1 y (List.mem_cons_self ..)) h5) h
   refine List.pairwise_cons.2 ⟨fun x hx => ?_, h3⟩
   rcases List.mem_cons.1 hx with rfl | hx
   ·exact h4
   ·exact hl.trans _ _ _ h4 ((List.pairwise_cons.1 h3).1 x hx)
theorem dd_asc {lt : α → α → Bool} (hl : Lin lt) {l : List α} (h : ∀ (i j : Nat) (x y : α), i < j → l[i]? = some x → l[j]? = some y → lt y x = false) : Asc lt (dd l) := by
 have h1 : l.Pairwise fun x y => lt y x = false := List.pairwise_iff_getElem.2 fun i j hi hj hij => h i j _ _ hij (List.getElem?_eq_getElem hi) (List.getElem?_eq_getElem hj)
 cases l with
 | nil => exact List.Pairwise.nil
 | cons x r => rw [List.pairwise_cons] at h1; exact ddA_asc hl r x h1.1 h1.2
end
end Go.Proofs.YtpjdfcigadnhcaaGreatDoor
end

section
namespace Go.Proofs.YtpjdfcigadnhcaaGreatDoor
open Go.Eng
variable [Glob]
def Ty.Leafy (t : Ty) : Prop := ∀ u ∈ t.nodes, u.kind = 9 → u.parts = []
theorem Ty.Leafy.part {t p : Ty} (h : t.Leafy) (hp : p ∈ t.parts) : p.Leafy := fun u hu => h u (by rw [t.nodes_eq]; exact List.mem_cons_of_mem _ (List.mem_flatMap.2 ⟨p, hp, hu⟩))
theorem Ty.Leafy.self {t : Ty} (h : t.Leafy) : t.kind = 9 → t.parts = [] := h t (by rw [t.nodes_eq]; exact List.mem_cons_self ..)
def atNode {α : Type} (f : Ty → List α) (x : α) (t : Ty) : Prop := ∃ u ∈ t.nodes, x ∈ f u
theorem atNode_iff {α : Type} {f : Ty → List α} {x : α} (t : Ty) : atNode f x t ↔ x ∈ f t ∨ ∃ p ∈ t.parts, atNode f x p := by
 unfold atNode
 rw [t.nodes_eq]
 constructor
 ·rintro ⟨u, hu, hx⟩
  rcases List.mem_cons.1 hu with rfl | hu
  ·exact .inl hx
  ·obtain ⟨p, hp, hu⟩ := List.mem_flatMap.1 hu
   exact .inr ⟨p, hp, u, hu, hx⟩
 ·rintro (hx | ⟨p, hp, u, hu, hx⟩)
  ·exact ⟨t, List.mem_cons_self .., hx⟩
  ·exact ⟨u, List.mem_cons_of_mem _ (List.mem_flatMap.2 ⟨p, hp, hu⟩), hx⟩
theorem parts_map (ns : List ByteArray) (us : List Ty) (k : Int) (m n : ByteArray) (ts : List Ty) (fs : List Fd) : (Ty.mk k m n (ts.map (Ty.subst ns us)) (fs.map (Fd.subst ns us))).parts = (Ty.mk k m n ts fs).parts.map (Ty.subst ns us) := by
 simp only [Ty.parts,Ty.args,Ty.flds,List.map_append,List.map_map]
 congr 1
 apply List.map_congr_left
 intro f _
 show (f.subst ns us).ty = _
 rw [Fd.subst_eq]; rfl
theorem subst_at (x : ByteArray) (u : Ty) {t : Ty} (h9 : t.kind = 9) (hx : t.name = x) : t.subst [x] [u] = u := by
 rw [t.subst_eq, if_pos h9, pickT_one, hx, if_pos (by simp)]
theorem subst_not (x : ByteArray) (u : Ty) {t : Ty} (h : ¬ (t.kind = 9 ∧ t.name = x)) : t.subst [x] [u] = .mk t.kind t.mod t.name (t.args.map (Ty.subst [x] [u])) (t.flds.map (Fd.subst [x] [u])) :=
 subst_keep fun h9 => by
  rw [pickT_one, if_neg]
  intro e
  exact h ⟨h9, tl_eq (eq_of_beq e)⟩
theorem subst_parts (x : ByteArray) (u : Ty) {t : Ty} (h : ¬ (t.kind = 9 ∧ t.name = x)) : (t.subst [x] [u]).parts = t.parts.map (Ty.subst [x] [u]) := by
 rw [subst_not x u h, parts_map, Ty.eta]
theorem frees_at (x : ByteArray) (u : Ty) (y : ByteArray) : ∀ t : Ty, t.Leafy → (atNode (nmOf 9) y (t.subst [x] [u]) ↔ (atNode (nmOf 9) y t ∧ y ≠ x) ∨ (atNode (nmOf 9) x t ∧ atNode (nmOf 9) y u)) := by
 refine Ty.induct fun t ih hl => ?_
 by_cases h : t.kind = 9 ∧ t.name = x
 ·rw [subst_at x u h.1 h.2]
  have hp := hl.self h.1
  have e1 : ∀ z, atNode (nmOf 9) z t ↔ z = x := fun z => by
   rw [atNode_iff, hp]
   unfold nmOf
   rw [if_pos h.1, h.2]
   simp
  rw [e1, e1]
  constructor
  ·exact fun hy => .inr ⟨rfl, hy⟩
  ·rintro (⟨h1, h2⟩ | ⟨-, hy⟩)
   ·exact absurd h1 h2
   ·exact hy
 ·have hf : nmOf 9 (t.subst [x] [u]) = nmOf 9 t := by rw [subst_not x u h]; rfl
  have hf1 : ∀ z, z ∈ nmOf 9 t → z ≠ x := fun z hz e => by
   unfold nmOf at hz
   split at hz
   ·rename_i h9
    rw [List.mem_singleton] at hz
    exact h ⟨h9, by rw [← hz, e]⟩
   ·cases hz
  rw [atNode_iff, hf, subst_parts x u h, atNode_iff t (f := nmOf 9) (x := y), atNode_iff t (f := nmOf 9) (x := x)]
  constructor
  ·rintro (hy | ⟨p, hp, hy⟩)
   ·exact .inl ⟨.inl hy, hf1 y hy⟩
   ·obtain ⟨q, hq, rfl⟩ := List.mem_map.1 hp
    rcases (ih q hq (hl.part hq)).1 hy with ⟨h1, h2⟩ | ⟨h1, h2⟩
    ·exact .inl ⟨.inr ⟨q, hq, h1⟩, h2⟩
    ·exact .inr ⟨.inr ⟨q, hq, h1⟩, h2⟩
  ·rintro (⟨hy | ⟨q, hq, hy⟩, hne⟩ | ⟨hx | ⟨q, hq, hx⟩, hy⟩)
   ·exact .inl hy
   ·exact .inr ⟨_, List.mem_map.2 ⟨q, hq, rfl⟩, (ih q hq (hl.part hq)).2 (.inl ⟨hy, hne⟩)⟩
   ·exact absurd rfl (hf1 x hx)
   ·exact .inr ⟨_, List.mem_map.2 ⟨q, hq, rfl⟩, (ih q hq (hl.part hq)).2 (.inr ⟨hx, hy⟩)⟩
theorem uses_at (x : ByteArray) (u : Ty) (y : Us) : ∀ t : Ty, t.Leafy → (atNode usOf y (t.subst [x] [u]) ↔ atNode usOf y t ∨ (atNode (nmOf 9) x t ∧ atNode usOf y u)) := by
 refine Ty.induct fun t ih hl => ?_
 by_cases h : t.kind = 9 ∧ t.name = x
 ·rw [subst_at x u h.1 h.2]
  have hp := hl.self h.1
  have e1 : atNode (nmOf 9) x t ↔ True := by
   rw [atNode_iff, hp]
   unfold nmOf
   rw [if_pos h.1, h.2]
   simp
  have e2 : atNode usOf y t ↔ False := by
   rw [atNode_iff, hp]
   unfold usOf
   rw [if_neg (by omega)]
   simp
  rw [e1, e2]
  simp
 ·have hf : usOf (t.subst [x] [u]) = usOf t := by rw [subst_not x u h]; rfl
  have hf1 : ¬ x ∈ nmOf 9 t := fun hz => by
   unfold nmOf at hz
   split at hz
   ·rename_i h9
    rw [List.mem_singleton] at hz
    exact h ⟨h9, hz.symm⟩
   ·cases hz
  rw [atNode_iff, hf, subst_parts x u h, atNode_iff t (f := usOf) (x := y), atNode_iff t (f := nmOf 9) (x := x)]
  constructor
  ·rintro (hy | ⟨p, hp, hy⟩)
   ·exact .inl (.inl hy)
   ·obtain ⟨q, hq, rfl⟩ := List.mem_map.1 hp
    rcases (ih q hq (hl.part hq)).1 hy with h1 | ⟨h1, h2⟩
    ·exact .inl (.inr ⟨q, hq, h1⟩)
    ·exact .inr ⟨.inr ⟨q, hq, h1⟩, h2⟩
  ·rintro ((hy | ⟨q, hq, hy⟩) | ⟨hx | ⟨q, hq, hx⟩, hy⟩)
   ·exact .inl hy
   ·exact .inr ⟨_, List.mem_map.2 ⟨q, hq, rfl⟩, (ih q hq (hl.part hq)).2 (.inl hy)⟩
   ·exact absurd hx hf1
   ·exact .inr ⟨_, List.mem_map.2 ⟨q, hq, rfl⟩, (ih q hq (hl.part hq)).2 (.inr ⟨hx, hy⟩)⟩
def namesOf (x : ByteArray) (u t : Ty) (i : Nat) : List ByteArray := ((gathT ltS (nmOf 9) t).take i).flatMap fun z => if z = x then gathT ltS (nmOf 9) u else [z]
def usesOf (x : ByteArray) (u t : Ty) (i : Nat) : List Us := gathT ltU usOf t ++ ((gathT ltS (nmOf 9) t).take i).flatMap fun z => if z = x then gathT ltU usOf u else []
theorem names_law {x : ByteArray} {u t : Ty} (hl : t.Leafy) {l : List ByteArray} (hp : l.Perm (namesOf x u t (gathT ltS (nmOf 9) t).length)) (hs : ∀ (i j : Nat) (x y : ByteArray), i < j → l[i]? = some x → l[j]? = some y → ltS y x = false) :
  dd l = gathT ltS (nmOf 9) (t.subst [x] [u]) := by
 refine Asc.ext lin_str (dd_asc lin_str hs) (gathT_asc lin_str (nmOf_len 9) _) fun y => ?_
 have ge : ∀ (z : ByteArray) (v : Ty), z ∈ gathT ltS (nmOf 9) v ↔ atNode (nmOf 9) z v := fun z v => gathT_mem v
 rw [dd_mem, hp.mem_iff, ge, frees_at x u y t hl]
 unfold namesOf
 rw [List.take_length, List.mem_flatMap]
 constructor
 ·rintro ⟨z, hz, hy⟩
  split at hy
  ·rename_i e; subst e
   exact .inr ⟨(ge _ _).1 hz, (ge _ _).1 hy⟩
  ·rename_i e
   rw [List.mem_singleton] at hy
   subst hy
   exact .inl ⟨(ge _ _).1 hz, e⟩
 ·rintro (⟨h1, h2⟩ | ⟨h1, h2⟩)
  ·exact ⟨y, (ge _ _).2 h1, by rw [if_neg h2]; exact List.mem_singleton.2 rfl⟩
  ·exact ⟨x, (ge _ _).2 h1, by rw [if_pos rfl]; exact (ge _ _).2 h2⟩
theorem uses_law {x : ByteArray} {u t : Ty} (hl : t.Leafy) {l : List Us} (hp : l.Perm (usesOf x u t (gathT ltS (nmOf 9) t).length)) (hs : ∀ (i j : Nat) (x y : Us), i < j → l[i]? = some x → l[j]? = some y → ltU y x = false) :
  dd l = gathT ltU usOf (t.subst [x] [u]) := by
 refine Asc.ext lin_us (dd_asc lin_us hs) (gathT_asc lin_us usOf_len _) fun y => ?_
 have ge : ∀ (z : ByteArray) (v : Ty), z ∈ gathT ltS (nmOf 9) v ↔ atNode (nmOf 9) z v := fun z v => gathT_mem v
 have gu : ∀ (z : Us) (v : Ty), z ∈ gathT ltU usOf v ↔ atNode usOf z v := fun z v => gathT_mem v
 rw [dd_mem, hp.mem_iff, gu, uses_at x u y t hl]
 unfold usesOf
 rw [List.take_length, List.mem_append, List.mem_flatMap, gu]
 constructor
 ·rintro (h | ⟨z, hz, hy⟩)
  ·exact .inl h
  ·split at hy
   ·rename_i e; subst e
    exact .inr ⟨(ge _ _).1 hz, (gu _ _).1 hy⟩
   ·cases hy
 ·rintro (h1 | ⟨h1, h2⟩)
  ·exact .inl h1
  ·exact .inr ⟨x, (ge _ _).2 h1, by rw [if_pos rfl]; exact (gu _ _).2 h2⟩
theorem namesOf_succ {x : ByteArray} {u t : Ty} {i : Nat} {z : ByteArray} (h : (gathT ltS (nmOf 9) t)[i]? = some z) : namesOf x u t (i + 1) = namesOf x u t i ++ (if z = x then gathT ltS (nmOf 9) u else [z]) := by
 unfold namesOf
 rw [List.take_add_one, h]; simp
theorem usesOf_succ {x : ByteArray} {u t : Ty} {i : Nat} {z : ByteArray} (h : (gathT ltS (nmOf 9) t)[i]? = some z) : usesOf x u t (i + 1) = usesOf x u t i ++ (if z = x then gathT ltU usOf u else []) := by
 unfold usesOf
 rw [List.take_add_one, h]; simp
theorem flatMap_len {α β : Type} (f : α → List β) (c : Nat) : ∀ l : List α, (∀ x ∈ l, (f x).length ≤ c) → (l.flatMap f).length ≤ l.length * c
 | [], _ => by simp
 | x :: r, h => by
  rw [List.flatMap_cons, List.length_append, List.length_cons, Nat.succ_mul]
  have := flatMap_len f c r fun y hy => h y (List.mem_cons_of_mem _ hy)
  have := h x (List.mem_cons_self ..)
  omega
theorem namesOf_length (x : ByteArray) (u t : Ty) (i : Nat) (ht : t.size ≤ 200) (hu : u.size ≤ 200) : (namesOf x u t i).length ≤ 40000 := by
 have h1 := gathT_length (lt := ltS) (nmOf_len 9) t
 have h2 := gathT_length (lt := ltS) (nmOf_len 9) u
 refine Nat.le_trans (flatMap_len _ 200 _ fun z _ => ?_) ?_
 ·have := u.size_pos
  split
  ·omega
  ·simp
 ·have : ((gathT ltS (nmOf 9) t).take i).length ≤ 200 := by rw [List.length_take]; omega
  exact Nat.mul_le_mul_right 200 this
theorem usesOf_length (x : ByteArray) (u t : Ty) (i : Nat) (ht : t.size ≤ 200) (hu : u.size ≤ 200) : (usesOf x u t i).length ≤ 40200 := by
 have h1 := gathT_length (lt := ltS) (nmOf_len 9) t
 have h2 := gathT_length (lt := ltU) usOf_len u
 have h3 := gathT_length (lt := ltU) usOf_len t
 unfold usesOf
 rw [List.length_append]
 have h4 : (((gathT ltS (nmOf 9) t).take i).flatMap fun z => if z = x then gathT ltU usOf u else []).length ≤ ((gathT ltS (nmOf 9) t).take i).length * 200 := flatMap_len _ 200 _ fun z _ => by
  split
  ·omega
  ·simp
 have h5 : ((gathT ltS (nmOf 9) t).take i).length ≤ 200 := by rw [List.length_take]; omega
 have := Nat.mul_le_mul_right 200 h5
 omega
theorem subst_names (x : ByteArray) (u : Ty) : ∀ (t v : Ty), v ∈ (t.subst [x] [u]).nodes → (∃ w ∈ t.nodes, v.name = w.name) ∨ v ∈ u.nodes := by
 refine Ty.induct fun t ih v hv => ?_
 by_cases h : t.kind = 9 ∧ t.name = x
 ·rw [subst_at x u h.1 h.2] at hv; exact .inr hv
 ·rw [Ty.nodes_eq, subst_parts x u h] at hv
  rcases List.mem_cons.1 hv with rfl | hv
  ·exact .inl ⟨t, by rw [t.nodes_eq]; exact List.mem_cons_self .., by rw [subst_not x u h]; rfl⟩
  ·obtain ⟨p, hp, hv⟩ := List.mem_flatMap.1 hv
   obtain ⟨q, hq, rfl⟩ := List.mem_map.1 hp
   rcases ih q hq v hv with ⟨w, hw, e⟩ | h1
   ·exact .inl ⟨w, by rw [t.nodes_eq]; exact List.mem_cons_of_mem _ (List.mem_flatMap.2 ⟨q, hq, hw⟩), e⟩
   ·exact .inr h1
end Go.Proofs.YtpjdfcigadnhcaaGreatDoor
end

section
namespace Go.Proofs.YtpjdfcigadnhcaaGreatDoor
open Go.Eng
open Nat (reduceAdd reduceLT reduceLeDiff reduceMul reduceEqDiff reduceSub)
variable [Glob]
set_option maxHeartbeats 4000000
set_option maxRecDepth 100000
attribute [local irreducible] runM stepM valD stepOp stepD callF callS
theorem leafy_of {t : Ty} (h : t.kind = 9 → t.args = [] ∧ t.flds = []) (hp : ∀ p ∈ t.parts, p.Leafy) : t.Leafy := fun u hu h9 => by
 rw [t.nodes_eq] at hu
 rcases List.mem_cons.1 hu with rfl | hu
 ·obtain ⟨h1, h2⟩ := h h9
  show u.args ++ u.flds.map Fd.ty = []
  rw [h1, h2]; rfl
 ·obtain ⟨p, hpp, hu⟩ := List.mem_flatMap.1 hu
  exact hp p hpp u hu h9
theorem rtform1 (t : Ty) (hs : t.size ≤ 1048576) (hrec : ∀ p ∈ t.parts, ∃ r, (fun v => ∃ c : Int, v = num c ∧ (c = 0 → p.Leafy)) r ∧ FnOk Tryz.prog 87 [encTy p] r) : ∃ r, (fun v => ∃ c : Int, v = num c ∧ (c = 0 → t.Leafy)) r ∧ FnOk Tryz.prog 87 [encTy t] r := by
 refine fn_ex tt_ok (fn := Tryz.f87) Tryz.func87 rfl Tryz.call87 ?_
 simp only [ltb,startSt,Tryz.ntmps87,List.length_cons,List.length_nil,reduceAdd,reduceSub,List.replicate_succ,List.replicate_zero]
 have hpl := t.parts_length
 have hfl : t.flds.length ≤ t.parts.length := by show _ ≤ (t.args ++ t.flds.map Fd.ty).length; rw [List.length_append, List.length_map]; omega
 have hal : t.args.length + t.flds.length ≤ t.parts.length := by show _ ≤ (t.args ++ t.flds.map Fd.ty).length; rw [List.length_append, List.length_map]; omega
 obtain ⟨ps, hps⟩ : ∃ ps, ps = t.parts := ⟨_, rfl⟩
 have hlp : ps.length ≤ t.size := by rw [hps]; have := length_le_sum Ty.size Ty.size_pos t.parts; have := t.size_parts; omega
 have hPS : (encTys ps).length = ps.length := length_encTys _
 simp only [encTy_eq,tyCells]
 refine ex_region_w tt_ok 28 [0,2,2] [] rfl rfl fun K hK => ?_
 try simp only [ltb]
 try simp only [ltb]
 simp only [length_encFds,length_encTys,hPS,go_sem,reduceIte,reduceAdd,reduceLT,reduceLeDiff,reduceMul,reduceEqDiff,reduceSub,reduceCtorEq,List.take_length]
 refine hK _ _ rfl ?_
 simp only [mwb,reduceAdd,reduceEqDiff]
 refine ex_seq_joinK [] 1 [false,true] (fun vs => vs = [] ∧ (t.kind = 9 → t.args = [] ∧ t.flds = [])) ?_ ?_
 ·refine ex_region_w tt_ok 28 [0,0,0,2,0,0,0,1,1] [] rfl rfl fun K hK => ?_
  try simp only [ltb]
  refine runX_cut 2 fun K1 hK1 => ?_
  simp only [ltb]
  simp only [length_encFds,length_encTys,hPS,go_sem,reduceIte,reduceAdd,reduceLT,reduceLeDiff,reduceMul,reduceEqDiff,reduceSub,reduceCtorEq,List.take_length]
  refine callF_ex (by have h := rtnode_tot t (by omega); rw [encTy_eq] at h; simp only [tyCells] at h; exact h) ?_
  rintro _ ⟨cn, rfl, hcn⟩
  try simp only [length_encFds,length_encTys,hPS,go_sem,reduceIte,reduceAdd,reduceLT,reduceLeDiff,reduceMul,reduceEqDiff,reduceSub,reduceCtorEq,List.take_length]
  refine hK1 _ ?_
  try simp only [ltb]
  simp only [length_encFds,length_encTys,hPS,go_sem,reduceIte,reduceAdd,reduceLT,reduceLeDiff,reduceMul,reduceEqDiff,reduceSub,reduceCtorEq,List.take_length]
  refine hK _ _ rfl ?_
  simp only [mwb,reduceAdd,reduceEqDiff]
  refine ex_region_w tt_ok 28 (rp 9 0 [1,2]) [] rfl rfl fun K hK => ?_
  try simp only [ltb]
  try simp only [ltb]
  simp only [length_encFds,length_encTys,hPS,go_sem,reduceIte,reduceAdd,reduceLT,reduceLeDiff,reduceMul,reduceEqDiff,reduceSub,reduceCtorEq,List.take_length]
  refine hK _ _ rfl ?_
  simp only [mwb,reduceAdd,reduceEqDiff]
  refine ex_if rfl (fun hc10 => ?_) (fun hc10 => ?_)
  ·refine ex_region_w tt_ok 28 [0,0,2,0,0,0,0,0,0,0,0,1] [] rfl rfl fun K hK => ?_
   try simp only [ltb]
   try simp only [ltb]
   simp only [length_encFds,length_encTys,hPS,go_sem,reduceIte,reduceAdd,reduceLT,reduceLeDiff,reduceMul,reduceEqDiff,reduceSub,reduceCtorEq,List.take_length]
   refine hK _ _ rfl ?_
   simp only [mwb,reduceAdd,reduceEqDiff]
   refine ex_ret ?_
   first
    | exact ⟨.inl rfl, _, ⟨0, rfl, fun _ => leafy_of h9 fun p hp => by rw [← hps] at hp; obtain ⟨j, hj⟩ := List.mem_iff_getElem?.1 hp; exact hno j (by have := (List.getElem?_eq_some_iff.1 hj).1; omega) p hj⟩, rfl⟩
    | exact ⟨.inl rfl, _, ⟨_, rfl, fun h => by simp_all⟩, rfl⟩
  ·refine ex_skip ?_
   refine ⟨[], ?_, 1, [false,true], by omega, by simp only [maskFr,belowV,belowL,belowB,reduceLT,mkb], by simp only [maskFr,belowV,belowL,belowB,reduceLT,mkb], by simp only [maskFr,belowV,belowL,belowB,reduceLT,putAll,List.set_cons_zero,List.set_cons_succ,mkb]⟩
   exact ⟨rfl, hcn (by simpa using hc10)⟩
 ·intro vs hJ
  obtain ⟨rfl, h9⟩ := hJ
  simp only [maskFr,belowV,belowL,belowB,reduceLT,putAll,List.set_cons_zero,List.set_cons_succ,mkb]
  refine ex_region_w tt_ok 28 [0,0,0,0,2,0,0,0,0,0,0,0,1,1] [] rfl rfl fun K hK => ?_
  try simp only [ltb]
  refine runX_cut 2 fun K1 hK1 => ?_
  simp only [ltb]
  simp only [length_encFds,length_encTys,hPS,go_sem,reduceIte,reduceAdd,reduceLT,reduceLeDiff,reduceMul,reduceEqDiff,reduceSub,reduceCtorEq,List.take_length]
  refine callF_ex (by have h := parts_ok t (by omega); rw [encTy_eq] at h; simp only [tyCells] at h; rw [← hps] at h; exact ⟨_, rfl, h⟩) ?_
  rintro _ rfl
  try simp only [length_encFds,length_encTys,hPS,go_sem,reduceIte,reduceAdd,reduceLT,reduceLeDiff,reduceMul,reduceEqDiff,reduceSub,reduceCtorEq,List.take_length]
  refine hK1 _ ?_
  try simp only [ltb]
  simp only [length_encFds,length_encTys,hPS,go_sem,reduceIte,reduceAdd,reduceLT,reduceLeDiff,reduceMul,reduceEqDiff,reduceSub,reduceCtorEq,List.take_length]
  refine hK _ _ rfl ?_
  simp only [mwb,reduceAdd,reduceEqDiff]
  refine ex_seq ?_
  refine ex_region_w tt_ok 28 [0,0,0,0,0,2] [] rfl rfl fun K hK => ?_
  try simp only [ltb]
  try simp only [ltb]
  simp only [length_encFds,length_encTys,hPS,go_sem,reduceIte,reduceAdd,reduceLT,reduceLeDiff,reduceMul,reduceEqDiff,reduceSub,reduceCtorEq,List.take_length]
  refine hK _ _ rfl ?_
  simp only [mwb,reduceAdd,reduceEqDiff]
  refine ex_block ?_
  refine ex_loopK [5] [num 0] 1 [false,false,true,false,true,true,false,false,false,false,true] (fun vs => ((ps.length : Int) - intOf (vs.headD .undef)).toNat) (fun vs => ∃ i : Nat, vs = [num i] ∧ i ≤ ps.length ∧ ∀ j < i, ∀ p, ps[j]? = some p → p.Leafy) (by omega) (by simp only [maskFr,belowV,belowL,belowB,reduceLT,mkb]) (by simp only [maskFr,belowV,belowL,belowB,reduceLT,mkb]) (by rfl) (⟨0, rfl, Nat.zero_le _, fun j hj => absurd hj (Nat.not_lt_zero j)⟩) fun vs hI => ?_
  obtain ⟨i, rfl, hi, hno⟩ := hI
  simp only [maskFr,belowV,belowL,belowB,reduceLT,putAll,List.set_cons_zero,List.set_cons_succ,mkb]
  refine ex_seq ?_
  refine ex_region_w tt_ok 28 (rp 14 0 [1,1,1,2]) [] rfl rfl fun K hK => ?_
  try simp only [ltb]
  try simp only [ltb]
  simp only [length_encFds,length_encTys,hPS,go_sem,reduceIte,reduceAdd,reduceLT,reduceLeDiff,reduceMul,reduceEqDiff,reduceSub,reduceCtorEq,List.take_length]
  refine hK _ _ rfl ?_
  simp only [mwb,reduceAdd,reduceEqDiff]
  refine ex_if rfl (fun hc17 => ?_) (fun hc17 => ?_)
  ·have hlt : i < ps.length := by simpa using hc17
   obtain ⟨p, hp⟩ : ∃ p, ps[i]? = some p := ⟨_, List.getElem?_eq_getElem hlt⟩
   have hw := i64_succ i (by omega)
   refine ex_skip ?_
   show Go.Eng.Ex _ _ _ _ _ _
   refine ex_seq ?_
   refine ex_block ?_
   refine ex_region_w tt_ok 28 (0::0::0::0::0::0::2::(rp 13 0 [1,1,1,1,1])) [] rfl rfl fun K hK => ?_
   try simp only [ltb]
   refine runX_cut 5 fun K1 hK1 => ?_
   simp only [ltb]
   simp only [hw,get_encTys,hp,encTy_eq,tyCells,length_encFds,length_encTys,hPS,go_sem,reduceIte,reduceAdd,reduceLT,reduceLeDiff,reduceMul,reduceEqDiff,reduceSub,reduceCtorEq,List.take_length]
   refine callF_ex (by have h := hrec p (by rw [← hps]; exact List.mem_of_getElem? hp); rw [encTy_eq] at h; simp only [tyCells] at h; exact h) ?_
   rintro _ ⟨cp, rfl, hcp⟩
   try simp only [hw,get_encTys,hp,encTy_eq,tyCells,length_encFds,length_encTys,hPS,go_sem,reduceIte,reduceAdd,reduceLT,reduceLeDiff,reduceMul,reduceEqDiff,reduceSub,reduceCtorEq,List.take_length]
   refine hK1 _ ?_
   try simp only [ltb]
   simp only [hw,get_encTys,hp,encTy_eq,tyCells,length_encFds,length_encTys,hPS,go_sem,reduceIte,reduceAdd,reduceLT,reduceLeDiff,reduceMul,reduceEqDiff,reduceSub,reduceCtorEq,List.take_length]
   refine hK _ _ rfl ?_
   simp only [mwb,reduceAdd,reduceEqDiff]
   refine ex_region_w tt_ok 28 (rp 25 0 [1,2]) [] rfl rfl fun K hK => ?_
   try simp only [ltb]
   try simp only [ltb]
   simp only [hw,get_encTys,hp,encTy_eq,tyCells,length_encFds,length_encTys,hPS,go_sem,reduceIte,reduceAdd,reduceLT,reduceLeDiff,reduceMul,reduceEqDiff,reduceSub,reduceCtorEq,List.take_length]
   refine hK _ _ rfl ?_
   simp only [mwb,reduceAdd,reduceEqDiff]
   refine ex_if rfl (fun hc26 => ?_) (fun hc26 => ?_)
   ·refine ex_region_w tt_ok 28 (0::0::2::(rp 24 0 [1])) [] rfl rfl fun K hK => ?_
    try simp only [ltb]
    try simp only [ltb]
    simp only [hw,get_encTys,hp,encTy_eq,tyCells,length_encFds,length_encTys,hPS,go_sem,reduceIte,reduceAdd,reduceLT,reduceLeDiff,reduceMul,reduceEqDiff,reduceSub,reduceCtorEq,List.take_length]
    refine hK _ _ rfl ?_
    simp only [mwb,reduceAdd,reduceEqDiff]
    refine ex_ret ?_
    first
     | exact ⟨.inl rfl, _, ⟨0, rfl, fun _ => leafy_of h9 fun p hp => by rw [← hps] at hp; obtain ⟨j, hj⟩ := List.mem_iff_getElem?.1 hp; exact hno j (by have := (List.getElem?_eq_some_iff.1 hj).1; omega) p hj⟩, rfl⟩
     | exact ⟨.inl rfl, _, ⟨_, rfl, fun h => by simp_all⟩, rfl⟩
   ·refine ex_skip ?_
    show Go.Eng.Ex _ _ _ _ _ _
    refine ex_last_region_w tt_ok 28 (0::0::0::0::0::2::(rp 12 0 [2,2])) [] (by kernel_rfl) rfl rfl fun K hK => ?_
    try simp only [ltb]
    try simp only [ltb]
    simp only [hw,get_encTys,hp,encTy_eq,tyCells,length_encFds,length_encTys,hPS,go_sem,reduceIte,reduceAdd,reduceLT,reduceLeDiff,reduceMul,reduceEqDiff,reduceSub,reduceCtorEq,List.take_length]
    refine hK _ _ rfl ?_
    simp only [mwb,reduceAdd,reduceEqDiff]
    refine ⟨[_], ?_, ?_, 1, [false,false,true,false,true,true,false,false,false,false,true], by omega, by simp only [maskFr,belowV,belowL,belowB,reduceLT,mkb], by simp only [maskFr,belowV,belowL,belowB,reduceLT,mkb], by simp only [maskFr,belowV,belowL,belowB,reduceLT,putAll,List.set_cons_zero,List.set_cons_succ,mkb]; rfl⟩
    ·refine ⟨i + 1, rfl, hlt, fun j hj q hq => ?_⟩
     rcases Nat.lt_or_ge j i with h | h
     ·exact hno j h q hq
     ·obtain rfl : j = i := by omega
      rw [hp] at hq; cases hq; exact hcp (by simpa using hc26)
    ·simp only [intOf,List.headD_cons]; omega
  ·have hge : ¬ i < ps.length := by simpa using hc17
   refine ex_exit ?_
   show Go.Eng.Ex _ _ _ _ _ _
   refine ex_region_w tt_ok 28 [0,0,2] [] rfl rfl fun K hK => ?_
   try simp only [ltb]
   try simp only [ltb]
   simp only [length_encFds,length_encTys,hPS,go_sem,reduceIte,reduceAdd,reduceLT,reduceLeDiff,reduceMul,reduceEqDiff,reduceSub,reduceCtorEq,List.take_length]
   refine hK _ _ rfl ?_
   simp only [mwb,reduceAdd,reduceEqDiff]
   refine ex_ret ?_
   first
    | exact ⟨.inl rfl, _, ⟨0, rfl, fun _ => leafy_of h9 fun p hp => by rw [← hps] at hp; obtain ⟨j, hj⟩ := List.mem_iff_getElem?.1 hp; exact hno j (by have := (List.getElem?_eq_some_iff.1 hj).1; omega) p hj⟩, rfl⟩
    | exact ⟨.inl rfl, _, ⟨_, rfl, fun h => by simp_all⟩, rfl⟩
theorem rtform_tot : ∀ t : Ty, t.size ≤ 1048576 → ∃ r, (fun v => ∃ c : Int, v = num c ∧ (c = 0 → t.Leafy)) r ∧ FnOk Tryz.prog 87 [encTy t] r := by
 refine Ty.induct fun t ih ht => ?_
 exact rtform1 t ht fun p hp => ih p hp (by obtain ⟨i, hi⟩ := List.mem_iff_getElem?.1 hp; have := sumBy_mem Ty.size hi; have := t.size_parts; omega)
theorem rcheckType_tot (t : Ty) (hs : t.size ≤ 1048576) : ∃ r, (fun v => ∃ c : Int, v = num c ∧ (c = 0 → t.Leafy)) r ∧ FnOk Tryz.prog 41 [encTy t] r := by
 refine fn_ex tt_ok (fn := Tryz.f41) Tryz.func41 rfl Tryz.call41 ?_
 simp only [ltb,startSt,Tryz.ntmps41,List.length_cons,List.length_nil,reduceAdd,reduceSub,List.replicate_succ,List.replicate_zero]
 simp only [encTy_eq,tyCells]
 refine ex_region_w tt_ok 13 [0,2,2] [] rfl rfl fun K hK => ?_
 try simp only [ltb]
 simp only [ltb,go_sem,reduceIte,reduceAdd,reduceLT,reduceLeDiff,reduceMul,reduceEqDiff,reduceSub,reduceCtorEq,List.take_length]
 refine hK _ _ rfl ?_
 simp only [mwb,reduceAdd,reduceEqDiff]
 refine ex_seq ?_
 refine ex_region_w tt_ok 13 [0,0,0,1,1,1,1,1,1,1,2] [(3, 6)] rfl rfl fun K hK => ?_
 try simp only [ltb]
 refine runX_cut 2 fun K1 hK1 => ?_
 simp only [ltb,go_sem,reduceIte,reduceAdd,reduceLT,reduceLeDiff,reduceMul,reduceEqDiff,reduceSub,reduceCtorEq,List.take_length]
 refine callF_ex (by have h := tsize_ok t.size t (Nat.le_refl _) hs; rw [encTy_eq] at h; simp only [tyCells] at h; exact ⟨_, rfl, h⟩) ?_
 rintro _ rfl
 try simp only [go_sem,reduceIte,reduceAdd,reduceLT,reduceLeDiff,reduceMul,reduceEqDiff,reduceSub,reduceCtorEq,List.take_length]
 refine hK1 _ ?_
 refine runX_cut 2 fun K1 hK1 => ?_
 simp only [ltb,go_sem,reduceIte,reduceAdd,reduceLT,reduceLeDiff,reduceMul,reduceEqDiff,reduceSub,reduceCtorEq,List.take_length]
 refine hK1 _ ?_
 refine runX_case 6 (by rfl) fun b hb1_3 => ?_
 cases b
 ·refine runX_cut 2 fun K1 hK1 => ?_
  simp only [ltb,go_sem,reduceIte,reduceAdd,reduceLT,reduceLeDiff,reduceMul,reduceEqDiff,reduceSub,reduceCtorEq,List.take_length]
  refine callF_ex (by have h := tdepth_ok t.size t (Nat.le_refl _) hs; rw [encTy_eq] at h; simp only [tyCells] at h; exact ⟨_, rfl, h⟩) ?_
  rintro _ rfl
  try simp only [go_sem,reduceIte,reduceAdd,reduceLT,reduceLeDiff,reduceMul,reduceEqDiff,reduceSub,reduceCtorEq,List.take_length]
  refine hK1 _ ?_
  simp only [ltb,go_sem,reduceIte,reduceAdd,reduceLT,reduceLeDiff,reduceMul,reduceEqDiff,reduceSub,reduceCtorEq,List.take_length]
  refine hK _ _ rfl ?_
  simp only [mwb,reduceAdd,reduceEqDiff]
  refine ex_if rfl (fun hc10 => ?_) (fun hc10 => ?_)
  ·refine ex_region_w tt_ok 13 [0,0,2] [] rfl rfl fun K hK => ?_
   try simp only [ltb]
   simp only [ltb,go_sem,reduceIte,reduceAdd,reduceLT,reduceLeDiff,reduceMul,reduceEqDiff,reduceSub,reduceCtorEq,List.take_length]
   refine hK _ _ rfl ?_
   simp only [mwb,reduceAdd,reduceEqDiff]
   refine ex_ret ?_
   first
    | exact ⟨.inl rfl, _, ⟨7, rfl, fun h => absurd h (by decide)⟩, rfl⟩
    | exact ⟨.inl rfl, _, ⟨_, rfl, hcp⟩, rfl⟩
  ·refine ex_skip ?_
   show Go.Eng.Ex _ _ _ _ _ _
   refine ex_region_w tt_ok 13 [0,0,2,0,0,0,0,0,0,0,0,1,1] [] rfl rfl fun K hK => ?_
   try simp only [ltb]
   refine runX_cut 2 fun K1 hK1 => ?_
   simp only [ltb,go_sem,reduceIte,reduceAdd,reduceLT,reduceLeDiff,reduceMul,reduceEqDiff,reduceSub,reduceCtorEq,List.take_length]
   refine callF_ex (by have h := rtform_tot t hs; rw [encTy_eq] at h; simp only [tyCells] at h; exact h) ?_
   rintro _ ⟨cp, rfl, hcp⟩
   try simp only [go_sem,reduceIte,reduceAdd,reduceLT,reduceLeDiff,reduceMul,reduceEqDiff,reduceSub,reduceCtorEq,List.take_length]
   refine hK1 _ ?_
   simp only [ltb,go_sem,reduceIte,reduceAdd,reduceLT,reduceLeDiff,reduceMul,reduceEqDiff,reduceSub,reduceCtorEq,List.take_length]
   refine hK _ _ rfl ?_
   simp only [mwb,reduceAdd,reduceEqDiff]
   refine ex_ret ?_
   first
    | exact ⟨.inl rfl, _, ⟨7, rfl, fun h => absurd h (by decide)⟩, rfl⟩
    | exact ⟨.inl rfl, _, ⟨_, rfl, hcp⟩, rfl⟩
 ·simp only [ltb,go_sem,reduceIte,reduceAdd,reduceLT,reduceLeDiff,reduceMul,reduceEqDiff,reduceSub,reduceCtorEq,List.take_length]
  refine hK _ _ rfl ?_
  simp only [mwb,reduceAdd,reduceEqDiff]
  refine ex_cond rfl ?_
  refine ex_region_w tt_ok 13 [0,0,2] [] rfl rfl fun K hK => ?_
  try simp only [ltb]
  simp only [ltb,go_sem,reduceIte,reduceAdd,reduceLT,reduceLeDiff,reduceMul,reduceEqDiff,reduceSub,reduceCtorEq,List.take_length]
  refine hK _ _ rfl ?_
  simp only [mwb,reduceAdd,reduceEqDiff]
  refine ex_ret ?_
  first
   | exact ⟨.inl rfl, _, ⟨7, rfl, fun h => absurd h (by decide)⟩, rfl⟩
   | exact ⟨.inl rfl, _, ⟨_, rfl, hcp⟩, rfl⟩
end Go.Proofs.YtpjdfcigadnhcaaGreatDoor
end

section
namespace Go.Proofs.YtpjdfcigadnhcaaGreatDoor
open Go.Eng
open Nat (reduceAdd reduceLT reduceLeDiff reduceMul reduceEqDiff reduceSub)
variable [Glob]
section
variable {σ : Type} {M : σ → List Blk} {n k k1 k2 : Nat}
theorem walkP_ok (hn : ∀ s, (M s).length = n) (hk : k < n) (hk1 : k1 < n) (hk2 : k2 < n) (h1 : ∀ s, (M s)[k1]? = some (.box [.yld k])) (h2 : ∀ s, (M s)[k2]? = some (.box [.clo (.func 92) [] [.ptr k1 0, .ptr k2 0]])) (hb : ∀ s, (M s).all (belowB n) = true)
  (step : σ → Ty → σ × Bool) (G : σ → Prop) (hG : ∀ s u, G s → (step s u).2 = true → G (step s u).1) {B : Nat} (hB : B ≤ 1048576) (Pd : Ty → Prop) (hy : ∀ s u, G s → u.size ≤ B → Pd u → YOk Tryz.prog k [encTy u] (M s) (step s u).2 (M (step s u).1)) :
  ∀ (N : Nat) (t : Ty) (s : σ), G s → (∀ v ∈ t.nodes, Pd v) → t.size ≤ N → N ≤ B → FnOkS Tryz.prog 92 [encTy t, .ptr k1 0, .ptr k2 0] (M s) (bl (stepL step s t.nodes).2) (M (stepL step s t.nodes).1) := by
 have g0 : ∀ s (l : List Blk), (M s ++ l)[n]? = l[0]? := fun s l => by rw [List.getElem?_append_right (by rw [hn]; exact Nat.le_refl _), hn, Nat.sub_self]
 have g1 : ∀ s (l : List Blk), (M s ++ l)[n + 1]? = l[1]? := fun s l => by rw [List.getElem?_append_right (by rw [hn]; omega), hn, Nat.add_sub_cancel_left]
 have gk1 : ∀ s (l : List Blk), (M s ++ l)[k1]? = some (.box [.yld k]) := fun s l => by rw [List.getElem?_append_left (by rw [hn]; exact hk1)]; exact h1 s
 have gk2 : ∀ s (l : List Blk), (M s ++ l)[k2]? = some (.box [.clo (.func 92) [] [.ptr k1 0, .ptr k2 0]]) := fun s l => by rw [List.getElem?_append_left (by rw [hn]; exact hk2)]; exact h2 s
 have gs : ∀ s (l : List Blk) X, (M s ++ l).set n X = M s ++ l.set 0 X := fun s l X => by rw [List.set_append_right _ _ (by rw [hn]; exact Nat.le_refl _), hn, Nat.sub_self]
 have gt : ∀ s (l : List Blk), (M s ++ l).take n = M s := fun s l => by rw [← hn s, List.take_left]
 have gt' : ∀ s, (M s).take n = M s := fun s => by rw [List.take_of_length_le (by rw [hn]; exact Nat.le_refl _)]
 have fy : ∀ s u (l : List Blk), G s → u.size ≤ B → Pd u → YOk Tryz.prog k [encTy u] (M s ++ l) (step s u).2 (M (step s u).1 ++ l) := fun s u l hg hu hp => by
  refine (hy s u hg hu hp).frame (by rw [hn]; exact hk) ?_ (by rw [hn]; exact hb s) (by rw [hn, hn]) (by rw [hn]; exact hb _) l
  rw [encTy_eq]; simp [belowV, belowL, tyCells]
 intro N
 induction N with
 | zero => intro t s hg hP h; have := t.size_pos; omega
 | succ N ih =>
  intro t s hg hP hN hNB
  have hpl := t.parts_length
  have hps := t.size_parts
  have hpn := length_le_sum Ty.size Ty.size_pos t.parts
  have hne := t.nodes_eq
  have hp := sparts_ok t (by omega)
  have hyt := fun l => fy s t l hg (by omega) (hP t (by rw [t.nodes_eq]; simp))
  have ihf : ∀ u s (l : List Blk), G s → (∀ v ∈ u.nodes, Pd v) → u.size ≤ N → FnOkS Tryz.prog 92 [encTy u, .ptr k1 0, .ptr k2 0] (M s ++ l) (bl (stepL step s u.nodes).2) (M (stepL step s u.nodes).1 ++ l) := fun u s l hg hq hu => by
   refine (ih u s hg hq hu (by omega)).frame ?_ (by rw [hn]; exact hb s) rfl (by rw [hn, hn]) (by rw [hn]; exact hb _) l
   rw [encTy_eq, hn]; simp [belowV, belowL, tyCells, hk1, hk2]
  simp only [encTy_eq,tyCells] at ihf
  refine fns_ok tt_ok (fn := Tryz.f92) n (by rw [hn]; exact Nat.le_refl _) Tryz.func92 rfl Tryz.call92 ?_
  simp only [ltb,startSt,Tryz.ntmps92,List.length_cons,List.length_nil,reduceAdd,reduceSub,List.replicate_succ,List.replicate_zero]
  rw [encTy_eq] at hp hyt ⊢
  simp only [tyCells] at hp hyt ⊢
  refine tri_seq_region tt_ok fun K hK => ?_
  simp only [hn,go_sem,reduceIte,reduceAdd,reduceLT,reduceLeDiff,reduceMul,reduceEqDiff,reduceSub,reduceCtorEq]
  refine hK _ ?_
  refine tri_seq ?_
  refine tri_seq_region tt_ok fun K hK => ?_
  simp only [gk1,g0,hn,go_sem,reduceIte,reduceAdd,reduceLT,reduceLeDiff,reduceMul,reduceEqDiff,reduceSub,reduceCtorEq]
  refine .inl ⟨_, _, hyt _, ?_⟩
  try simp only [go_sem,reduceIte,reduceAdd,reduceLT,reduceLeDiff,reduceMul,reduceEqDiff,reduceSub,reduceCtorEq]
  refine hK _ ?_
  cases hbb : (step s t).2 with
  | false =>
   refine tri_cond rfl ?_
   refine tri_seq_region tt_ok fun K hK => ?_
   simp only [go_sem,reduceIte,reduceAdd,reduceLT,reduceLeDiff,reduceMul,reduceEqDiff,reduceSub,reduceCtorEq]
   refine hK _ ?_
   refine tri_ret ⟨.inl rfl, ?_⟩
   have hst : stepL step s t.nodes = ((step s t).1, false) := by rw [hne]; simp [stepL, hbb]
   rw [hst]
   exact ⟨rfl, rfl, by dsimp only; rw [gt]; exact hb _, (gt _ _).symm⟩
  | true =>
   refine tri_cond rfl (tri_skip ?_)
   show Tri _ _ _ _ _ _
   refine tri_seq ?_
   refine tri_seq_region tt_ok fun K hK => ?_
   simp only [gk1,g0,hn,go_sem,reduceIte,reduceAdd,reduceLT,reduceLeDiff,reduceMul,reduceEqDiff,reduceSub,reduceCtorEq]
   refine .inl ⟨_, _, by simp only [length_encTys,go_sem,reduceIte,reduceAdd,reduceLT,reduceLeDiff,reduceMul,reduceEqDiff,reduceSub,reduceCtorEq,List.take_length], hp, ?_⟩
   try simp only [length_encTys,go_sem,reduceIte,reduceAdd,reduceLT,reduceLeDiff,reduceMul,reduceEqDiff,reduceSub,reduceCtorEq]
   refine hK _ ?_
   obtain ⟨ps, hps'⟩ : ∃ ps, ps = t.parts := ⟨_, rfl⟩
   rw [← hps'] at hps hpn hne ⊢
   have hPp : ∀ u ∈ ps, ∀ v ∈ u.nodes, Pd v := fun u hu v hv => hP v (by rw [hne]; exact List.mem_cons_of_mem _ (List.mem_flatMap.2 ⟨u, hu, hv⟩))
   refine tri_block (tri_loop_inv (fun N st => ∃ (i : Nat) (s' : σ), G s' ∧ N = ps.length - i ∧ i ≤ ps.length ∧ stepL step s (t :: (ps.take i).flatMap Ty.nodes) = (s', true) ∧
    st = { fr := [.undef, .ptr k1 0, .ptr k2 0, .undef, .undef, .undef, .undef, .undef, .undef, .undef, .undef, .undef, .slice (encTys ps), num ps.length, num i] ++ List.replicate 8 .undef, mem := M s' }) ps.length ?_ ?_)
   ·refine ⟨n, (false::true::true::(rp 9 false [true,true,true])), by rw [hn]; exact Nat.le_refl _, by simp only [maskFr,belowV,belowL,belowB,reduceLT,hk1,hk2,mkb], by dsimp only; rw [gt]; exact hb _, 0, (step s t).1, hG s t hg hbb, by omega, by omega, by simp [stepL, hbb], ?_⟩
    dsimp only; rw [gt]; rfl
   ·rintro N' st ⟨i, s', hg', rfl, hi, hsi, rfl⟩
    simp only [ltb,List.replicate_succ,List.replicate_zero]
    by_cases hlt : i < ps.length
    ·have hd := lt_dec hlt
     refine tri_seq_region tt_ok fun K hK => ?_
     simp only [length_encTys,hd,go_sem,reduceIte,reduceAdd,reduceLT,reduceLeDiff,reduceMul,reduceEqDiff,reduceSub,reduceCtorEq]
     refine hK _ ?_
     refine tri_seq (tri_cond rfl (tri_skip ?_))
     refine tri_seq (tri_block ?_)
     obtain ⟨u, hu⟩ : ∃ u, ps[i]? = some u := ⟨_, List.getElem?_eq_getElem hlt⟩
     have hus := sumBy_mem Ty.size hu
     have hrec := fun l => ihf u s' l hg' (hPp u (List.mem_of_getElem? hu)) (by omega)
     have htk : (ps.take (i + 1)).flatMap Ty.nodes = (ps.take i).flatMap Ty.nodes ++ u.nodes := by rw [List.take_add_one, hu]; simp
     have hnx : stepL step s (t :: (ps.take (i + 1)).flatMap Ty.nodes) = stepL step s' u.nodes := by
      rw [htk, ← List.cons_append, stepL_append, hsi]; simp
     refine tri_seq_region tt_ok fun K hK => ?_
     simp only [get_encTys,hu,encTy_eq,tyCells,hn,g0,gs,go_sem,reduceIte,reduceAdd,reduceLT,reduceLeDiff,reduceMul,reduceEqDiff,reduceSub,reduceCtorEq]
     refine hK _ ?_
     refine tri_seq_region tt_ok fun K hK => ?_
     simp only [gk2,g0,hn,go_sem,reduceIte,reduceAdd,reduceLT,reduceLeDiff,reduceMul,reduceEqDiff,reduceSub,reduceCtorEq]
     refine .inr <| .inl ⟨_, _, hrec _, ?_⟩
     try simp only [go_sem,reduceIte,reduceAdd,reduceLT,reduceLeDiff,reduceMul,reduceEqDiff,reduceSub,reduceCtorEq]
     refine hK _ ?_
     cases hbu : (stepL step s' u.nodes).2 with
     | false =>
      refine tri_cond rfl ?_
      refine tri_seq_region tt_ok fun K hK => ?_
      simp only [go_sem,reduceIte,reduceAdd,reduceLT,reduceLeDiff,reduceMul,reduceEqDiff,reduceSub,reduceCtorEq]
      refine hK _ ?_
      refine tri_ret ⟨.inl rfl, ?_⟩
      have hst : stepL step s t.nodes = ((stepL step s' u.nodes).1, false) := by
       have hsplit : ps.flatMap Ty.nodes = (ps.take (i + 1)).flatMap Ty.nodes ++ (ps.drop (i + 1)).flatMap Ty.nodes := by rw [← List.flatMap_append, List.take_append_drop]
       rw [hne, hsplit, ← List.cons_append, stepL_append, hnx, hbu]; simp
      rw [hst]
      exact ⟨rfl, rfl, by dsimp only; rw [gt]; exact hb _, (gt _ _).symm⟩
     | true =>
      refine tri_cond rfl (tri_skip ?_)
      show Tri _ _ _ _ _ _
      refine tri_last_region tt_ok fun K hK => ?_
      simp only [go_sem,reduceIte,reduceAdd,reduceLT,reduceLeDiff,reduceMul,reduceEqDiff,reduceSub,reduceCtorEq]
      refine hK _ ?_
      have hw2 := i64_succ i (by omega)
      rw [hw2]
      refine ⟨ps.length - (i + 1), by omega, n, (false::true::true::(rp 9 false [true,true,true])), by rw [hn]; exact Nat.le_refl _, by simp only [maskFr,belowV,belowL,belowB,reduceLT,hk1,hk2,mkb], by dsimp only; rw [gt]; exact hb _, i + 1, (stepL step s' u.nodes).1, stepL_good step hG _ _ hg' hbu, rfl, hlt, by rw [hnx, ← hbu], ?_⟩
      dsimp only; rw [gt]; rfl
    ·have hd := ge_dec hlt
     refine tri_seq_region tt_ok fun K hK => ?_
     simp only [length_encTys,hd,go_sem,reduceIte,reduceAdd,reduceLT,reduceLeDiff,reduceMul,reduceEqDiff,reduceSub,reduceCtorEq]
     refine hK _ ?_
     refine tri_seq (tri_cond rfl (tri_exit ?_))
     have hie : i = ps.length := by omega
     subst hie
     show Tri _ _ _ _ _ _
     refine tri_seq_region tt_ok fun K hK => ?_
     simp only [go_sem,reduceIte,reduceAdd,reduceLT,reduceLeDiff,reduceMul,reduceEqDiff,reduceSub,reduceCtorEq]
     refine hK _ ?_
     refine tri_ret ⟨.inl rfl, ?_⟩
     rw [List.take_length] at hsi
     rw [hne, hsi]
     exact ⟨rfl, rfl, by dsimp only; rw [gt']; exact hb _, (gt' _).symm⟩
end

section
variable {σ : Type} {M : σ → List Blk} {n k kt : Nat}
theorem iterP_ok (hn : ∀ s, (M s).length = n) (hk : k < n) (hkt : kt < n) {t : Ty} (h1 : ∀ s, (M s)[kt]? = some (.box (tyCells t))) (hb : ∀ s, (M s).all (belowB n) = true)
  (step : σ → Ty → σ × Bool) (G : σ → Prop) (hG : ∀ s u, G s → (step s u).2 = true → G (step s u).1) {B : Nat} (hB : B ≤ 1048576) (Pd : Ty → Prop) (hy : ∀ s u, G s → u.size ≤ B → Pd u → YOk Tryz.prog k [encTy u] (M s) (step s u).2 (M (step s u).1)) (ht : t.size ≤ B) (hP : ∀ v ∈ t.nodes, Pd v) (s : σ) (hs : G s) :
  FnOkS Tryz.prog 91 [.yld k, .ptr kt 0] (M s) (.tup []) (M (stepL step s t.nodes).1) := by
 have g0 : ∀ s (l : List Blk), (M s ++ l)[n]? = l[0]? := fun s l => by rw [List.getElem?_append_right (by rw [hn]; exact Nat.le_refl _), hn, Nat.sub_self]
 have g1 : ∀ s (l : List Blk), (M s ++ l)[n + 1]? = l[1]? := fun s l => by rw [List.getElem?_append_right (by rw [hn]; omega), hn, Nat.add_sub_cancel_left]
 have gkt : ∀ s (l : List Blk), (M s ++ l)[kt]? = some (.box (tyCells t)) := fun s l => by rw [List.getElem?_append_left (by rw [hn]; exact hkt)]; exact h1 s
 have gs : ∀ s (l : List Blk) X, (M s ++ l).set (n + 1) X = M s ++ l.set 1 X := fun s l X => by rw [List.set_append_right _ _ (by rw [hn]; omega), hn, Nat.add_sub_cancel_left]
 have gt : ∀ s (l : List Blk), (M s ++ l).take n = M s := fun s l => by rw [← hn s, List.take_left]
 have hw : ∀ s, G s → FnOkS Tryz.prog 92 [encTy t, .ptr n 0, .ptr (n + 1) 0] (M s ++ [.box [.yld k], .box [.clo (.func 92) [] [.ptr n 0, .ptr (n + 1) 0]]]) (bl (stepL step s t.nodes).2) (M (stepL step s t.nodes).1 ++ [.box [.yld k], .box [.clo (.func 92) [] [.ptr n 0, .ptr (n + 1) 0]]]) := fun s hs => by
  refine walkP_ok (M := fun s => M s ++ [.box [.yld k], .box [.clo (.func 92) [] [.ptr n 0, .ptr (n + 1) 0]]]) (n := n + 2) (k := k) (k1 := n) (k2 := n + 1) (fun s => by simp [hn]) (by omega) (by omega) (by omega) (fun s => g0 _ _) (fun s => g1 _ _) (fun s => ?_) step G hG hB Pd (fun s u hg hu hq => ?_) t.size t s hs hP (Nat.le_refl _) ht
  ·rw [List.all_append, Bool.and_eq_true]
   refine ⟨belowBs_mono (by omega) (hb s), ?_⟩
   simp [belowB, belowV, belowL]; omega
  ·refine (hy s u hg hu hq).frame (by rw [hn]; exact hk) ?_ (by rw [hn]; exact hb s) (by rw [hn, hn]) (by rw [hn]; exact hb _) _
   rw [encTy_eq]; simp [belowV, belowL, tyCells]
 refine fns_ok tt_ok (fn := Tryz.f91) n (by rw [hn]; exact Nat.le_refl _) Tryz.func91 rfl Tryz.call91 ?_
 simp only [ltb,startSt,Tryz.ntmps91,List.length_cons,List.length_nil,reduceAdd,reduceSub,List.replicate_succ,List.replicate_zero]
 have hws := hw s hs
 rw [encTy_eq] at hws
 simp only [tyCells] at hws gkt
 refine tri_seq_region tt_ok fun K hK => ?_
 simp only [hn,go_sem,reduceIte,reduceAdd,reduceLT,reduceLeDiff,reduceMul,reduceEqDiff,reduceSub,reduceCtorEq]
 refine hK _ ?_
 refine tri_seq_region tt_ok fun K hK => ?_
 simp only [hn,List.length_append,List.append_assoc,go_sem,reduceIte,reduceAdd,reduceLT,reduceLeDiff,reduceMul,reduceEqDiff,reduceSub,reduceCtorEq]
 refine hK _ ?_
 refine tri_seq_region tt_ok fun K hK => ?_
 simp only [hn,g1,gs,go_sem,reduceIte,reduceAdd,reduceLT,reduceLeDiff,reduceMul,reduceEqDiff,reduceSub,reduceCtorEq]
 refine hK _ ?_
 refine tri_last_region tt_ok fun K hK => ?_
 simp only [hn,g1,gkt,go_sem,reduceIte,reduceAdd,reduceLT,reduceLeDiff,reduceMul,reduceEqDiff,reduceSub,reduceCtorEq]
 refine .inr <| .inl ⟨_, _, hws, ?_⟩
 try simp only [go_sem,reduceIte,reduceAdd,reduceLT,reduceLeDiff,reduceMul,reduceEqDiff,reduceSub,reduceCtorEq]
 refine hK _ ?_
 refine ⟨.inr rfl, rfl, rfl, ?_, ?_⟩
 ·dsimp only; rw [gt]; exact hb _
 ·dsimp only; rw [gt]



theorem triP_types {n0 : Nat} {st : St} {Q : Exit → St → Prop} {f : Operand} {params : Array Tmp} {assign body : Code} {t : Ty} (pre : σ → List Blk) (s0 : σ) (n kt : Nat) (hmem : st.mem = pre s0) (hn : ∀ s, (pre s).length = n) (hkt : kt < n)
  (ht : ∀ s, (pre s)[kt]? = some (.box (tyCells t))) (hb : ∀ s, (pre s).all (belowB (n + 1)) = true) (hfr : st.fr.all (belowV (n + 1)) = true) (hf : st.eval f = .clo (.func 91) [] [.ptr kt 0]) (hp : params.size = 1) (step : σ → Ty → σ × Option Code) {B : Nat} (hB : B ≤ 1048576) (hsz : t.size ≤ B) (Pd : Ty → Prop) (hPt : ∀ v ∈ t.nodes, Pd v)
  (hbody : ∀ s u, u.size ≤ B → Pd u → ∀ (l : Nat) (LR LB : Blk), belowB (n + 1) LR = true → belowB (n + 1) LB = true → Tri Tryz.prog (some l) (n + 1) assign { fr := setPs params.toList [encTy u] st.fr, mem := pre s ++ [LR] } fun ex st1 => ex = .normal ∧ st1.mem[n]? = some LR ∧
   Tri Tryz.prog (some l) (n + 1) body { st1 with mem := st1.mem.set n LB } fun ex st2 => jumpOf ex = some (step s u).2 ∧ st2.mem[n]? = some LB ∧ st2.mem.take n = pre (step s u).1)
  (hq : match (stepJ step s0 t.nodes).2 with
   | none => Q .normal { st with mem := pre (stepJ step s0 t.nodes).1 ++ [.dead] }
   | some c => Tri Tryz.prog none n0 c { st with mem := pre (stepJ step s0 t.nodes).1 ++ [.dead] } Q) : Tri Tryz.prog none n0 (.rangeFunc f params assign body) st Q := by
 have hlen : st.mem.length = n := by rw [hmem, hn]
 have gn : ∀ s X, (pre s ++ [X])[n]? = some X := fun s X => by rw [List.getElem?_append_right (by rw [hn]; exact Nat.le_refl _), hn, Nat.sub_self]; rfl
 have gk : ∀ s X, (pre s ++ [X])[kt]? = some (.box (tyCells t)) := fun s X => by rw [List.getElem?_append_left (by rw [hn]; exact hkt)]; exact ht s
 have gset : ∀ s (X Y : Blk), (pre s ++ [X]).set n Y = pre s ++ [Y] := fun s X Y => by rw [List.set_append_right _ _ (by rw [hn]; exact Nat.le_refl _), hn, Nat.sub_self]; rfl
 have hball : ∀ (s : σ) (a : LoopState) (b : Option Code), (pre s ++ [Blk.loop a b st.fr params assign body]).all (belowB (n + 1)) = true := fun s a b => by
  rw [List.all_append, Bool.and_eq_true]
  exact ⟨hb s, by simp only [List.all_cons,List.all_nil,Bool.and_true,belowB]; exact hfr⟩
 have it := iterP_ok (M := fun s : σ × Option Code => pre s.1 ++ [.loop (if s.2.isNone then .ready else .done) s.2 st.fr params assign body]) (n := n + 1) (k := n) (kt := kt) (t := t) (fun s => by simp [hn]) (by omega) (by omega) (fun s => gk _ _) (fun s => hball _ _ _)
  (stepB step) (fun s => s.2 = none) (fun s u hs h => by simpa [stepB] using h) hB Pd (fun s u hs hu hq => by
   obtain ⟨s, j⟩ := s
   simp only at hs; subst hs
   refine yok_of_body (fr := st.fr) (params := params) (assign := assign) (body := body) (gn _ _) (by simp [hp]) fun l => ?_
   have hl : (pre s ++ [Blk.loop .ready none st.fr params assign body]).length = n + 1 := by simp [hn]
   simp only [Option.isNone_none,if_true,hl]
   refine Tri.mono (hbody s u hu hq l (.loop .ready none st.fr params assign body) (.loop .busy none st.fr params assign body) hfr hfr) ?_
   rintro ex st1 ⟨h1, h2, h3⟩
   refine ⟨h1, h2, Tri.mono h3 ?_⟩
   rintro ex st2 ⟨h4, h5, h6⟩
   refine ⟨_, h4, rfl, h5, ?_, ?_⟩
   ·rw [take_set (hn _) h5 h6]; exact hball _ _ _
   ·rw [take_set (hn _) h5 h6]; rfl) hsz hPt (s0, none) rfl
 rw [stepJ_L] at it
 refine tri_rangeFunc (g := 91) (vs := [.yld n, .ptr kt 0]) (by rw [hf, hlen]; rfl) (by rw [hmem]; exact it) ?_
 rw [hlen]
 refine ⟨_, _, _, _, _, _, gn _ _, ?_, ?_⟩
 ·cases (stepJ step s0 t.nodes).2 <;> simp
 ·generalize hj : (stepJ step s0 t.nodes).2 = j at hq
  cases j with
  | none => dsimp only at hq ⊢; rw [gset]; exact hq
  | some c => dsimp only at hq ⊢; rw [gset]; exact hq
end

end Go.Proofs.YtpjdfcigadnhcaaGreatDoor
end

section
namespace Go.Proofs.YtpjdfcigadnhcaaGreatDoor
open Go.Eng
variable [Glob]
def usV (u : Us) : Value := .agg #[.string u.1, .string u.2]
theorem usV_inj {u v : Us} (h : usV u = usV v) : u = v := by
 unfold usV at h
 injection h with h
 have := congrArg Array.toList h
 simp only [List.cons.injEq,Value.string.injEq,and_true] at this
 exact Prod.ext this.1 this.2
theorem eqUs (u v : Us) : scRunP Tryz.prog (Op.equal 65 (usV u) (usV v)) = some (decide (u = v)) := by
 show scRunP Tryz.prog (Op.equal 65 (.agg #[.string u.1, .string u.2]) (.agg #[.string v.1, .string v.2])) = _
 rw [eq65, us_beq]
theorem findAsk_us (u : Us) : ∀ (kvs : List (Value × Nat × V)) (n : Nat), (∀ e ∈ kvs, ∃ x, e.1 = usV x) →
  (findAskV Tryz.prog 65 (usV u) kvs n = some none ∧ ∀ e ∈ kvs, e.1 ≠ usV u) ∨ ∃ i e, kvs[i]? = some e ∧ e.1 = usV u ∧ findAskV Tryz.prog 65 (usV u) kvs n = some (some (n + i, e.2.2))
 | [], n, _ => .inl ⟨rfl, by simp⟩
 | e :: r, n, h => by
  obtain ⟨x, hx⟩ := h e (by simp)
  have h1 : scRunP Tryz.prog (Op.equal 65 (usV u) e.1) = some (decide (u = x)) := by rw [hx]; exact eqUs u x
  by_cases he : u = x
  ·refine .inr ⟨0, e, rfl, by rw [hx, he], ?_⟩
   rw [decide_eq_true he] at h1
   simp only [findAskV,h1,Nat.add_zero]
  ·rw [decide_eq_false he] at h1
   rcases findAsk_us u r (n + 1) (fun e' he' => h e' (by simp [he'])) with ⟨h2, h3⟩ | ⟨i, e', h2, h3, h4⟩
   ·refine .inl ⟨by simp only [findAskV,h1]; exact h2, fun e' he' => ?_⟩
    rcases List.mem_cons.1 he' with rfl | he'
    ·rw [hx]; exact fun q => he (usV_inj q).symm
    ·exact h3 e' he'
   ·refine .inr ⟨i + 1, e', by simpa using h2, h3, ?_⟩
    simp only [findAskV,h1]
    rw [h4, show n + 1 + i = n + (i + 1) by omega]
theorem find_us (u : Us) (kvs : List (Value × Nat × V)) (h : ∀ e ∈ kvs, ∃ x, e.1 = usV x) :
  (findV Tryz.prog 65 (usV u) kvs = some none ∧ ∀ e ∈ kvs, e.1 ≠ usV u) ∨ ∃ i e, kvs[i]? = some e ∧ e.1 = usV u ∧ findV Tryz.prog 65 (usV u) kvs = some (some (i, e.2.2)) := by
 have key : findV Tryz.prog 65 (usV u) kvs = findAskV Tryz.prog 65 (usV u) kvs 0 := by
  unfold findV
  rw [Tryz.underlying65]
  dsimp only
  cases kvs with
  | nil => rfl
  | cons e r =>
   obtain ⟨x, hx⟩ := h e (by simp)
   simp only [findNowV,hx,usV,Instr.sameNow]
 rw [key]
 rcases findAsk_us u kvs 0 h with h1 | ⟨i, e, h1, h2, h3⟩
 ·exact .inl h1
 ·exact .inr ⟨i, e, h1, h2, by rw [h3, Nat.zero_add]⟩
theorem keyOk_us (u : Us) : keyOk Tryz.prog 65 (usV u) = true := by
 obtain ⟨a, b⟩ := u
 kernel_rfl
theorem bits_us (u : Us) : Instr.sameBits 10000 (usV u) (usV u) = true := by
 have h : ∀ s : ByteArray, Instr.sameBits 9999 (.string s) (.string s) = true := fun s => (baBeq_iff s s).2 rfl
 show Instr.sameBits (9999 + 1) (usV u) (usV u) = true
 unfold usV
 rw [Instr.sameBits]
 simp [h]
theorem map115 : mapDesc Tryz.prog 115 = some (65, 4) := by kernel_rfl
theorem insert_us (u : Us) {kvs : List (Value × Nat × V)} {cl : Nat} (h : ∀ e ∈ kvs, ∃ x, e.1 = usV x) (v : V) :
  (insertAt Tryz.prog 65 (usV u) v kvs cl = some (kvs ++ [(usV u, cl, v)], cl + 1) ∧ ∀ e ∈ kvs, e.1 ≠ usV u) ∨ ∃ i e, kvs[i]? = some e ∧ e.1 = usV u ∧ insertAt Tryz.prog 65 (usV u) v kvs cl = some (kvs.set i (usV u, e.2.1, v), cl) := by
 unfold insertAt
 rcases find_us u kvs h with ⟨h1, h2⟩ | ⟨i, e, h1, h2, h3⟩
 ·rw [h1]; exact .inl ⟨rfl, h2⟩
 ·refine .inr ⟨i, e, h1, h2, ?_⟩
  rw [h3]; dsimp only; rw [h1]; dsimp only
  rw [h2, if_pos (bits_us u)]
theorem insertV_us (u : Us) {kvs kvs' : List (Value × Nat × V)} {cl cl' : Nat} {v : V} (hi : insertAt Tryz.prog 65 (usV u) v kvs cl = some (kvs', cl')) {mem : List Blk} {b : Nat} (hm : mem[b]? = some (.map kvs cl)) :
  insertV Tryz.prog mem 115 (.mp b) (.agg [str u.1, str u.2]) v = some (mem.set b (.map kvs' cl')) := by
 have ht : toVal (.agg [str u.1, str u.2]) = some (usV u) := rfl
 unfold insertV
 rw [map115]
 dsimp only
 rw [ht]
 dsimp only
 rw [if_pos (keyOk_us u), hm]
 dsimp only
 rw [hi]
def UGood (s : List (Value × Nat × V) × Nat) : Prop :=
 (∀ e ∈ s.1, (∃ x, e.1 = usV x) ∧ e.2.2 = bl true ∧ e.2.1 < s.2) ∧ (s.1.map fun e => e.2.1).Nodup ∧ (s.1.map fun e => e.1).Nodup
theorem UGood.nil : UGood ([], 0) := ⟨fun e he => by simp at he, by simp, by simp⟩
theorem UGood.below {s : List (Value × Nat × V) × Nat} (h : UGood s) (n : Nat) : (s.1.all fun e => belowV n e.2.2) = true := List.all_eq_true.2 fun e he => by
 rw [(h.1 e he).2.1]; rfl
theorem UGood.ins {s : List (Value × Nat × V) × Nat} (h : UGood s) (u : Us) : ∃ s', UGood s' ∧ insertAt Tryz.prog 65 (usV u) (bl true) s.1 s.2 = some s' ∧
  (∀ k, (∃ e ∈ s'.1, e.1 = usV k) ↔ k = u ∨ ∃ e ∈ s.1, e.1 = usV k) ∧ s'.1.length ≤ s.1.length + 1 := by
 obtain ⟨h1, h2, h3⟩ := h
 rcases insert_us (cl := s.2) u (fun e he => (h1 e he).1) (bl true) with ⟨hi, hno⟩ | ⟨i, e, he, hk, hi⟩
 ·refine ⟨_, ⟨fun e he => ?_, ?_, ?_⟩, hi, fun k => ?_, by simp⟩
  ·rcases List.mem_append.1 he with he | he
   ·obtain ⟨p1, p2, p3⟩ := h1 e he
    exact ⟨p1, p2, Nat.lt_succ_of_lt p3⟩
   ·rw [List.mem_singleton] at he; subst he
    exact ⟨⟨u, rfl⟩, rfl, Nat.lt_succ_self _⟩
  ·simp only [List.map_append,List.map_cons,List.map_nil]
   rw [List.nodup_append]
   refine ⟨h2, by simp, fun a ha b hb => ?_⟩
   rw [List.mem_singleton] at hb; subst hb
   obtain ⟨e, he, rfl⟩ := List.mem_map.1 ha
   exact Nat.ne_of_lt (h1 e he).2.2
  ·simp only [List.map_append,List.map_cons,List.map_nil]
   rw [List.nodup_append]
   refine ⟨h3, by simp, fun a ha b hb => ?_⟩
   rw [List.mem_singleton] at hb; subst hb
   obtain ⟨e, he, rfl⟩ := List.mem_map.1 ha
   exact hno e he
  ·constructor
   ·rintro ⟨e, he, hk⟩
    rcases List.mem_append.1 he with he | he
    ·exact .inr ⟨e, he, hk⟩
    ·rw [List.mem_singleton] at he; subst he
     exact .inl (usV_inj hk).symm
   ·rintro (rfl | ⟨e, he, hk⟩)
    ·exact ⟨_, List.mem_append_right _ (List.mem_singleton.2 rfl), rfl⟩
    ·exact ⟨e, List.mem_append_left _ he, hk⟩
 ·have hlt := (List.getElem?_eq_some_iff.1 he).1
  have hm := List.mem_of_getElem? he
  have q : ∀ {β : Type} (f : Value × Nat × V → β), f (usV u, e.2.1, bl true) = f e → (s.1.set i (usV u, e.2.1, bl true)).map f = s.1.map f := fun f hf => by
   rw [List.map_set, hf]
   apply List.ext_getElem?
   intro j
   rw [List.getElem?_set]
   split
   ·rename_i hij; subst hij
    rw [if_pos (by simpa using hlt), List.getElem?_map, he]; rfl
   ·rfl
  refine ⟨_, ⟨fun e' he' => ?_, ?_, ?_⟩, hi, fun k => ?_, by simp⟩
  ·rcases List.mem_or_eq_of_mem_set he' with he' | rfl
   ·exact h1 e' he'
   ·exact ⟨⟨u, rfl⟩, rfl, (h1 e hm).2.2⟩
  ·have := q (fun e => e.2.1) rfl
   dsimp only at this ⊢
   rw [this]; exact h2
  ·have := q (fun e => e.1) hk.symm
   dsimp only at this ⊢
   rw [this]; exact h3
  ·have q1 := q (fun e => e.1) hk.symm
   have q2 : ∀ l : List (Value × Nat × V), (∃ e ∈ l, e.1 = usV k) ↔ usV k ∈ l.map fun e => e.1 := fun l => by simp [List.mem_map, eq_comm]
   rw [q2, q1, ← q2]
   constructor
   ·exact .inr
   ·rintro (rfl | h)
    ·exact ⟨e, hm, hk⟩
    ·exact h
open Classical in
noncomputable def insU (s : { s // UGood s }) (u : Us) : { s // UGood s } := ⟨Classical.choose (s.2.ins u), (Classical.choose_spec (s.2.ins u)).1⟩
theorem insU_ok (s : { s // UGood s }) (u : Us) : insertAt Tryz.prog 65 (usV u) (bl true) s.1.1 s.1.2 = some (insU s u).1 ∧
  (∀ k, (∃ e ∈ (insU s u).1.1, e.1 = usV k) ↔ k = u ∨ ∃ e ∈ s.1.1, e.1 = usV k) ∧ (insU s u).1.1.length ≤ s.1.1.length + 1 := (Classical.choose_spec (s.2.ins u)).2
noncomputable def stepU (s : { s // UGood s }) (t : Ty) : { s // UGood s } := if decide (t.kind = 10) = true then insU s (t.mod, t.name) else s
theorem stepU_fold : ∀ (l : List Ty) (s : { s // UGood s }),
  (∀ k, (∃ e ∈ (l.foldl stepU s).1.1, e.1 = usV k) ↔ (∃ t ∈ l, k ∈ usOf t) ∨ ∃ e ∈ s.1.1, e.1 = usV k) ∧ (l.foldl stepU s).1.1.length ≤ s.1.1.length + l.length
 | [], s => ⟨fun k => by simp, by simp⟩
 | t :: r, s => by
  obtain ⟨h1, h2⟩ := stepU_fold r (stepU s t)
  rw [List.foldl_cons]
  by_cases h9 : t.kind = 10
  ·have e0 : stepU s t = insU s (t.mod, t.name) := by unfold stepU; rw [if_pos (decide_eq_true h9)]
   have e1 : usOf t = [(t.mod, t.name)] := if_pos h9
   obtain ⟨-, h3, h4⟩ := insU_ok s (t.mod, t.name)
   rw [e0] at h1 h2 ⊢
   refine ⟨fun k => ?_, by rw [List.length_cons]; omega⟩
   rw [h1 k, h3 k]
   simp only [List.mem_cons,exists_eq_or_imp,e1,List.mem_singleton,List.not_mem_nil,or_false]
   constructor
   ·rintro (h | h | h)
    ·exact .inl (.inr h)
    ·exact .inl (.inl h)
    ·exact .inr h
   ·rintro ((h | h) | h)
    ·exact .inr (.inl h)
    ·exact .inl h
    ·exact .inr (.inr h)
  ·have e0 : stepU s t = s := by unfold stepU; rw [if_neg (by simpa using h9)]
   have e1 : usOf t = [] := if_neg h9
   rw [e0] at h1 h2 ⊢
   refine ⟨fun k => ?_, by rw [List.length_cons]; omega⟩
   rw [h1 k]
   simp only [List.mem_cons,exists_eq_or_imp,e1,List.not_mem_nil,false_or]
noncomputable def useMap (t : Ty) : { s // UGood s } := t.nodes.foldl stepU ⟨([], 0), UGood.nil⟩
def keyU (e : Value × Nat × V) : Us := match e.1 with
 | .agg cs => match cs.toList with
  | [.string a, .string b] => (a, b)
  | _ => (⟨#[]⟩, ⟨#[]⟩)
 | _ => (⟨#[]⟩, ⟨#[]⟩)
theorem keyU_of {e : Value × Nat × V} {x : Us} (h : e.1 = usV x) : keyU e = x := by unfold keyU; rw [h]; rfl
theorem UGood.nodup {s : List (Value × Nat × V) × Nat} (h : UGood s) : (s.1.map keyU).Nodup := by
 have e : s.1.map (fun e => e.1) = (s.1.map keyU).map usV := by
  rw [List.map_map]
  refine List.map_congr_left fun e he => ?_
  obtain ⟨⟨x, hx⟩, -⟩ := h.1 e he
  simp only [Function.comp,keyU_of hx,hx]
 have h3 := h.2.2
 rw [e] at h3
 exact (List.pairwise_map.1 h3).imp fun hne he => hne (by rw [he])
theorem useMap_mem (t : Ty) (x : Us) : x ∈ (useMap t).1.1.map keyU ↔ ∃ u ∈ t.nodes, x ∈ usOf u := by
 have h1 := (stepU_fold t.nodes ⟨([], 0), UGood.nil⟩).1 x
 have h2 : (∃ e ∈ (useMap t).1.1, e.1 = usV x) ↔ ∃ u ∈ t.nodes, x ∈ usOf u := by
  rw [useMap, h1]; simp
 rw [← h2, List.mem_map]
 constructor
 ·rintro ⟨e, he, rfl⟩
  obtain ⟨⟨y, hy⟩, -⟩ := (useMap t).2.1 e he
  exact ⟨e, he, by rw [keyU_of hy, hy]⟩
 ·rintro ⟨e, he, hx⟩
  exact ⟨e, he, keyU_of hx⟩
theorem useMap_length (t : Ty) : (useMap t).1.1.length ≤ t.size := by
 have := (stepU_fold t.nodes ⟨([], 0), UGood.nil⟩).2
 rw [Ty.nodes_length _ t (Nat.le_refl _)] at this
 simpa [useMap] using this
end Go.Proofs.YtpjdfcigadnhcaaGreatDoor
end

section
namespace Go.Proofs.YtpjdfcigadnhcaaGreatDoor
open Go.Eng
open Nat (reduceAdd reduceLT reduceLeDiff reduceMul reduceEqDiff reduceSub)
variable [Glob]
set_option maxHeartbeats 4000000
set_option maxRecDepth 100000
abbrev Ent := Value × Nat × V
theorem pull_out {l : List Ent} {e : Ent} (hn : (l.map fun e => e.2.1).Nodup) (he : e ∈ l) : l.Perm (e :: l.filter fun x => !(x.2.1 == e.2.1)) := by
 induction l with
 | nil => simp at he
 | cons a r ih =>
  simp only [List.map_cons,List.nodup_cons] at hn
  rcases List.mem_cons.1 he with rfl | he
  ·rw [List.filter_cons, if_neg (by simp)]
   have : r.filter (fun x => !(x.2.1 == e.2.1)) = r := List.filter_eq_self.2 fun x hx => by
    simp only [Bool.not_eq_true',beq_eq_false_iff_ne]
    exact fun h => hn.1 (List.mem_map.2 ⟨x, hx, h⟩)
   rw [this]
  ·have hne : ¬ a.2.1 = e.2.1 := fun h => hn.1 (List.mem_map.2 ⟨e, he, h.symm⟩)
   rw [List.filter_cons, if_pos (by simpa using hne)]
   exact ((ih hn.2 he).cons a).trans (List.Perm.swap ..)
theorem find_born {kvs : List Ent} {e : Ent} (hn : (kvs.map fun e => e.2.1).Nodup) (he : e ∈ kvs) : kvs.find? (fun x => x.2.1 == e.2.1) = some e := by
 induction kvs with
 | nil => simp at he
 | cons a r ih =>
  simp only [List.map_cons,List.nodup_cons] at hn
  rcases List.mem_cons.1 he with rfl | he
  ·simp
  ·have hne : ¬ a.2.1 = e.2.1 := fun h => hn.1 (List.mem_map.2 ⟨e, he, h.symm⟩)
   rw [List.find?_cons, show (a.2.1 == e.2.1) = false by simpa using hne]
   exact ih hn.2 he
theorem left_push (kvs : List Ent) (seen : List Nat) (b : Nat) : Go.Eng.leftOf kvs (seen ++ [b]) = (Go.Eng.leftOf kvs seen).filter fun x => !(x.2.1 == b) := by
 unfold Go.Eng.leftOf
 rw [List.filter_filter]
 congr 1
 funext x
 simp only [List.contains_eq_any_beq,List.any_append,List.any_cons,List.any_nil,Bool.or_false,Bool.not_or]
 rw [Bool.and_comm]
section
variable {σ : Type} {M : σ → List Blk} {n k kc kb : Nat} {kvs : List Ent} {clock : Nat}
theorem ukeys_it (hn : ∀ s, (M s).length = n) (hk : k < n) (hkc : kc < n) (hkb : kb < n) (h1 : ∀ s, (M s)[kc]? = some (.box [.mp kb])) (h2 : ∀ s, (M s)[kb]? = some (.map kvs clock)) (hb : ∀ s, (M s).all (belowB n) = true) (hg : UGood (kvs, clock))
  (step : σ → Us → σ) (G : Nat → σ → Prop) (hy : ∀ i s u, i < kvs.length → G i s → YOk Tryz.prog k [encU u] (M s) true (M (step s u)) ∧ G (i + 1) (step s u)) (s0 : σ) (h0 : G 0 s0) :
  FnOkR Tryz.prog 124 [.yld k, .ptr kc 0] (M s0) fun r m => r = .tup [] ∧ ∃ l : List Us, l.Perm (kvs.map keyU) ∧ m = M (l.foldl step s0) ∧ G kvs.length (l.foldl step s0) := by
 have g0 : ∀ s (l : List Blk), (M s ++ l)[n]? = l[0]? := fun s l => by rw [List.getElem?_append_right (by rw [hn]; exact Nat.le_refl _), hn, Nat.sub_self]
 have gk : ∀ s (l : List Blk), (M s ++ l)[kb]? = some (.map kvs clock) := fun s l => by rw [List.getElem?_append_left (by rw [hn]; exact hkb)]; exact h2 s
 have gs : ∀ s (l : List Blk) X, (M s ++ l).set n X = M s ++ l.set 0 X := fun s l X => by rw [List.set_append_right _ _ (by rw [hn]; omega), hn, Nat.sub_self]
 have g1 : ∀ s (l : List Blk), (M s ++ l)[n + 1]? = l[1]? := fun s l => by rw [List.getElem?_append_right (by rw [hn]; omega), hn, Nat.add_sub_cancel_left]
 have gs1 : ∀ s (l : List Blk) X, (M s ++ l).set (n + 1) X = M s ++ l.set 1 X := fun s l X => by rw [List.set_append_right _ _ (by rw [hn]; omega), hn, Nat.add_sub_cancel_left]
 have gt : ∀ s (l : List Blk), (M s ++ l).take n = M s := fun s l => by rw [← hn s, List.take_left]
 refine fnr_ok tt_ok (fn := Tryz.f124) Tryz.func124 rfl Tryz.call124 ?_
 rw [hn]
 simp only [ltb,startSt,Tryz.ntmps124,List.length_cons,List.length_nil,reduceAdd,reduceSub,List.replicate_succ,List.replicate_zero]
 refine tri_seq_region tt_ok fun K hK => ?_
 simp only [hn,h1,h2,map115,rangeBlk,go_sem,reduceIte,reduceAdd,reduceLT,reduceLeDiff,reduceMul,reduceEqDiff,reduceSub,reduceCtorEq]
 refine hK _ ?_
 have hcl : ∀ e ∈ kvs, e.2.1 < clock := fun e he => (hg.1 e he).2.2
 have hlast : ∀ seen : List Nat, stuckAt kvs seen clock = false := fun seen => by
  unfold stuckAt
  cases hk0 : kvs with
  | nil => simp
  | cons a r =>
   have : ¬ a.2.1 ≥ clock := by have := hcl a (by rw [hk0]; exact List.mem_cons_self ..); omega
   simp [this]
 have hold : ∀ seen : List Nat, oldOf kvs seen clock = Go.Eng.leftOf kvs seen := fun seen => by
  unfold oldOf
  refine List.filter_eq_self.2 fun e he => ?_
  have := hcl e (List.mem_filter.1 he).1
  simpa using this
 have hnew : ∀ seen : List Nat, newOf kvs seen clock = [] := fun seen => by
  unfold newOf
  refine List.filter_eq_nil_iff.2 fun e he => ?_
  have := hcl e (List.mem_filter.1 he).1
  simpa using this
 refine tri_block (tri_loop_inv (fun N st => ∃ (done : List Ent) (s : σ), N = (Go.Eng.leftOf kvs (done.map fun e => e.2.1)).length ∧ (done ++ Go.Eng.leftOf kvs (done.map fun e => e.2.1)).Perm kvs ∧ s = (done.map keyU).foldl step s0 ∧ G done.length s ∧
  st = { fr := [.yld k, .ptr kc 0, .undef, .undef, .undef, .ptr n 0] ++ List.replicate 8 .undef, mem := M s ++ [.miter kb clock (done.map fun e => e.2.1) clock] }) kvs.length ?_ ?_)
 ·have hl0 : Go.Eng.leftOf kvs [] = kvs := by unfold Go.Eng.leftOf; simp
  refine ⟨n + 1, [true,true,false,false,false,true], by omega, by simp [rp,maskFr, belowV]; omega, ?_, [], s0, by rw [List.map_nil, hl0], by rw [List.map_nil, hl0]; exact List.Perm.refl _, rfl, h0, ?_⟩
  ·dsimp only
   rw [List.take_of_length_le (by simp [hn]), List.all_append, Bool.and_eq_true]
   exact ⟨belowBs_mono (by omega) (hb s0), by simp [belowB]; omega⟩
  ·dsimp only
   rw [List.take_of_length_le (by simp [hn])]
   rfl
 ·rintro N st ⟨done, s, rfl, hperm, hs, hG, rfl⟩
  simp only [ltb,List.replicate_succ,List.replicate_zero]
  generalize hleft : Go.Eng.leftOf kvs (done.map fun e => e.2.1) = left at hperm
  have hnd : (left.map fun e => e.2.1).Nodup := by
   have := (hperm.map fun e => e.2.1).nodup_iff.2 hg.2.1
   rw [List.map_append, List.nodup_append] at this
   exact this.2.1
  refine tri_seq_region tt_ok fun K hK => ?_
  simp only [hn,g0,gk,gs,hlast,hold,hnew,hleft,nextQ,go_sem,reduceIte,reduceAdd,reduceLT,reduceLeDiff,reduceMul,reduceEqDiff,reduceSub,reduceCtorEq]
  simp only [overV,nextE,List.getElem?_cons_zero]
  refine ⟨fun hz => ?_, fun e he => ?_⟩
  ·subst hz
   rw [List.append_nil] at hperm
   refine hK _ ?_
   refine tri_seq (tri_cond rfl (tri_exit ?_))
   have hlen : done.length = kvs.length := hperm.length_eq
   refine ⟨.inr rfl, .tup [], n, Nat.le_refl _, rfl, rfl, ?_, rfl, done.map keyU, hperm.map _, ?_, ?_⟩
   ·dsimp only; rw [gt]; exact hb _
   ·dsimp only; rw [gt, hs]
   ·rw [← hs, ← hlen]; exact hG
  ·have hek : e ∈ kvs := (List.mem_filter.1 (hleft ▸ he : e ∈ Go.Eng.leftOf kvs (done.map fun e => e.2.1))).1
   obtain ⟨⟨u, hu⟩, -⟩ := hg.1 e hek
   have hku : keyU e = u := keyU_of hu
   have habs : absV e.1 = .agg [str u.1, str u.2] := by rw [hu]; rfl
   have hfind := find_born hg.2.1 hek
   have hcur : ∀ l, curV (M s ++ Blk.miter kb clock (done.map (fun e => e.2.1) ++ [e.2.1]) clock :: l) (.ptr n 0) = some (.tup [.agg [str u.1, str u.2], e.2.2]) := fun l => by
    simp only [curV,g0,List.getElem?_cons_zero,gk,if_true,List.getLast?_concat,hfind,habs]
   rw [habs]
   refine hK _ ?_
   refine tri_seq (tri_cond rfl (tri_skip ?_))
   refine tri_block ?_
   have hlt : done.length < kvs.length := by
    have := hperm.length_eq
    have h3 := List.length_pos_of_mem he
    rw [List.length_append] at this; omega
   obtain ⟨hyu, hG'⟩ := hy done.length s u hlt hG
   refine tri_seq_region tt_ok fun K hK => ?_
   simp only [hn,hcur,g1,gs1,List.length_append,List.append_assoc,go_sem,reduceIte,reduceAdd,reduceLT,reduceLeDiff,reduceMul,reduceEqDiff,reduceSub,reduceCtorEq]
   refine hK _ ?_
   have hyf := hyu.frame (by rw [hn]; exact hk) (by simp [encU, belowV, belowL]) (by rw [hn]; exact hb s) (by rw [hn, hn]) (by rw [hn]; exact hb _) [.miter kb clock (done.map (fun e => e.2.1) ++ [e.2.1]) clock, .box [str u.1, str u.2]]
   simp only [encU] at hyf
   refine tri_seq_region tt_ok fun K hK => ?_
   simp only [hn,g1,List.append_assoc,go_sem,reduceIte,reduceAdd,reduceLT,reduceLeDiff,reduceMul,reduceEqDiff,reduceSub,reduceCtorEq]
   refine .inl ⟨_, _, hyf, ?_⟩
   try simp only [go_sem,reduceIte,reduceAdd,reduceLT,reduceLeDiff,reduceMul,reduceEqDiff,reduceSub,reduceCtorEq]
   refine hK _ ?_
   refine tri_cond rfl (tri_skip ?_)
   have hsn : (done ++ [e]).map (fun e => e.2.1) = done.map (fun e => e.2.1) ++ [e.2.1] := by simp
   have hl2 : Go.Eng.leftOf kvs ((done ++ [e]).map fun e => e.2.1) = left.filter fun x => !(x.2.1 == e.2.1) := by rw [hsn, left_push, hleft]
   have hpo := pull_out hnd he
   refine ⟨_, ?_, n + 1, [true,true,false,false,false,true], by omega, by simp [rp,maskFr, belowV]; omega, ?_, done ++ [e], step s u, rfl, ?_, ?_, ?_, ?_⟩
   ·rw [hl2]
    have := hpo.length_eq
    rw [List.length_cons] at this
    exact Nat.lt_of_lt_of_eq (Nat.lt_succ_self _) this.symm
   ·dsimp only
    rw [show ∀ l : List Blk, (M (step s u) ++ l).take (n + 1) = M (step s u) ++ l.take 1 from fun l => by rw [List.take_append, hn, List.take_of_length_le (by rw [hn]; omega), Nat.add_sub_cancel_left]]
    rw [List.all_append, Bool.and_eq_true]
    exact ⟨belowBs_mono (by omega) (hb _), by simp [belowB]; omega⟩
   ·rw [hl2, List.append_assoc]
    exact ((List.Perm.append_left done hpo.symm)).trans hperm
   ·rw [hs, List.map_append, List.foldl_append, List.map_cons, List.map_nil, List.foldl_cons, List.foldl_nil, hku]
   ·rw [List.length_append]; exact hG'
   ·dsimp only
    rw [show ∀ l : List Blk, (M (step s u) ++ l).take (n + 1) = M (step s u) ++ l.take 1 from fun l => by rw [List.take_append, hn, List.take_of_length_le (by rw [hn]; omega), Nat.add_sub_cancel_left], hsn]
    rfl
end
section
variable {σ : Type}
theorem tri_ukeys {n0 : Nat} {st : St} {Q : Exit → St → Prop} {f : Operand} {params : Array Tmp} {assign body : Code} {kvs : List Ent} {clock : Nat} (pre : σ → List Blk) (s0 : σ) (n kc kb : Nat) (hmem : st.mem = pre s0) (hn : ∀ s, (pre s).length = n) (hkc : kc < n) (hkb : kb < n)
  (h1 : ∀ s, (pre s)[kc]? = some (.box [.mp kb])) (h2 : ∀ s, (pre s)[kb]? = some (.map kvs clock)) (hb : ∀ s, (pre s).all (belowB (n + 1)) = true) (hg : UGood (kvs, clock)) (hfr : st.fr.all (belowV (n + 1)) = true) (hf : st.eval f = .clo (.func 124) [] [.ptr kc 0]) (hp : params.size = 1)
  (step : σ → Us → σ) (G : Nat → σ → Prop)
  (hbody : ∀ i s u, i < kvs.length → G i s → G (i + 1) (step s u) ∧ ∀ (l : Nat) (LR LB : Blk), belowB (n + 1) LR = true → belowB (n + 1) LB = true → Tri Tryz.prog (some l) (n + 1) assign { fr := setPs params.toList [encU u] st.fr, mem := pre s ++ [LR] } fun ex st1 => ex = .normal ∧ st1.mem[n]? = some LR ∧
   Tri Tryz.prog (some l) (n + 1) body { st1 with mem := st1.mem.set n LB } fun ex st2 => jumpOf ex = some none ∧ st2.mem[n]? = some LB ∧ st2.mem.take n = pre (step s u))
  (h0 : G 0 s0) (hq : ∀ l : List Us, l.Perm (kvs.map keyU) → G kvs.length (l.foldl step s0) → Q .normal { st with mem := pre (l.foldl step s0) ++ [.dead] }) : Tri Tryz.prog none n0 (.rangeFunc f params assign body) st Q := by
 have hlen : st.mem.length = n := by rw [hmem, hn]
 have gn : ∀ s X, (pre s ++ [X])[n]? = some X := fun s X => by rw [List.getElem?_append_right (by rw [hn]; exact Nat.le_refl _), hn, Nat.sub_self]; rfl
 have gl : ∀ s X j, j < n → (pre s ++ [X])[j]? = (pre s)[j]? := fun s X j hj => List.getElem?_append_left (by rw [hn]; exact hj)
 have gset : ∀ s (X Y : Blk), (pre s ++ [X]).set n Y = pre s ++ [Y] := fun s X Y => by rw [List.set_append_right _ _ (by rw [hn]; exact Nat.le_refl _), hn, Nat.sub_self]; rfl
 have hball : ∀ (s : σ) (a : LoopState) (b : Option Code), (pre s ++ [Blk.loop a b st.fr params assign body]).all (belowB (n + 1)) = true := fun s a b => by
  rw [List.all_append, Bool.and_eq_true]
  exact ⟨hb s, by simp only [List.all_cons,List.all_nil,Bool.and_true,belowB]; exact hfr⟩
 have it := ukeys_it (M := fun s : σ => pre s ++ [.loop .ready none st.fr params assign body]) (n := n + 1) (k := n) (kc := kc) (kb := kb) (kvs := kvs) (clock := clock) (fun s => by simp [hn]) (by omega) (by omega) (by omega) (fun s => by rw [gl _ _ _ hkc]; exact h1 s) (fun s => by rw [gl _ _ _ hkb]; exact h2 s) (fun s => hball _ _ _) hg
  step G (fun i s u hi hG => by
   obtain ⟨hG', hbd⟩ := hbody i s u hi hG
   refine ⟨?_, hG'⟩
   refine yok_of_body (fr := st.fr) (params := params) (assign := assign) (body := body) (gn _ _) (by simp [hp]) fun l => ?_
   have hl : (pre s ++ [Blk.loop .ready none st.fr params assign body]).length = n + 1 := by simp [hn]
   simp only [hl]
   refine Tri.mono (hbd l (.loop .ready none st.fr params assign body) (.loop .busy none st.fr params assign body) hfr hfr) ?_
   rintro ex st1 ⟨h1, h2, h3⟩
   refine ⟨h1, h2, Tri.mono h3 ?_⟩
   rintro ex st2 ⟨h4, h5, h6⟩
   refine ⟨_, h4, rfl, h5, ?_, ?_⟩
   ·rw [take_set (hn _) h5 h6]; exact hball _ _ _
   ·rw [take_set (hn _) h5 h6]; rfl) s0 h0
 refine tri_rangeFuncR (g := 124) (vs := [.yld n, .ptr kc 0]) (by rw [hf, hlen]; rfl) (by rw [hmem]; exact it) ?_
 rintro r mem2 ⟨-, l, hl, rfl, hG⟩
 rw [hlen]
 refine ⟨.ready, none, _, _, _, _, gn _ _, by simp, ?_⟩
 dsimp only
 rw [gset]
 exact hq l hl hG
end
theorem foldl_push (l : List Us) : ∀ a : List Us, l.foldl (fun acc u => acc ++ [u]) a = a ++ l := by
 induction l with
 | nil => simp
 | cons u r ih => intro a; rw [List.foldl_cons, ih]; simp
theorem useq_ok (m : List Blk) (kc kb : Nat) {kvs : List Ent} {clock : Nat} (hkc : m[kc]? = some (.box [.mp kb])) (hkb : m[kb]? = some (.map kvs clock)) (hg : UGood (kvs, clock)) (hlen : kvs.length ≤ 1048576) (hb : m.all (belowB m.length) = true) :
  FnOkR Tryz.prog 171 [.sc (.slice none 0 0), .clo (.func 124) [] [.ptr kc 0]] m fun r m' => ∃ l : List Us, l.Perm (kvs.map keyU) ∧ r = .ms (m.length + 1) l.length 0 l.length ∧ m' = m ++ [.box [.ms (m.length + 1) l.length 0 l.length], .rows l.length 2 (l.map encU)] := by
 have hlc : kc < m.length := (List.getElem?_eq_some_iff.1 hkc).1
 have hlb : kb < m.length := (List.getElem?_eq_some_iff.1 hkb).1
 have a0 : ∀ l : List Blk, (m ++ l)[m.length]? = l[0]? := fun l => by rw [List.getElem?_append_right (Nat.le_refl _), Nat.sub_self]
 have a1 : ∀ l : List Blk, (m ++ l)[m.length + 1]? = l[1]? := fun l => by rw [List.getElem?_append_right (by omega), Nat.add_sub_cancel_left]
 have a2 : ∀ l : List Blk, (m ++ l)[m.length + 2]? = l[2]? := fun l => by rw [List.getElem?_append_right (by omega), Nat.add_sub_cancel_left]
 have a3 : ∀ l : List Blk, (m ++ l)[m.length + 3]? = l[3]? := fun l => by rw [List.getElem?_append_right (by omega), Nat.add_sub_cancel_left]
 have a4 : ∀ l : List Blk, (m ++ l)[m.length + 4]? = l[4]? := fun l => by rw [List.getElem?_append_right (by omega), Nat.add_sub_cancel_left]
 have s0 : ∀ (l : List Blk) X, (m ++ l).set m.length X = m ++ l.set 0 X := fun l X => by rw [List.set_append_right _ _ (Nat.le_refl _), Nat.sub_self]
 have s1 : ∀ (l : List Blk) X, (m ++ l).set (m.length + 1) X = m ++ l.set 1 X := fun l X => by rw [List.set_append_right _ _ (by omega), Nat.add_sub_cancel_left]
 have s2 : ∀ (l : List Blk) X, (m ++ l).set (m.length + 2) X = m ++ l.set 2 X := fun l X => by rw [List.set_append_right _ _ (by omega), Nat.add_sub_cancel_left]
 have s3 : ∀ (l : List Blk) X, (m ++ l).set (m.length + 3) X = m ++ l.set 3 X := fun l X => by rw [List.set_append_right _ _ (by omega), Nat.add_sub_cancel_left]
 refine fnr_ok tt_ok (fn := Tryz.f171) Tryz.func171 rfl Tryz.call171 ?_
 simp only [ltb,startSt,Tryz.ntmps171,List.length_cons,List.length_nil,reduceAdd,reduceSub,List.replicate_succ,List.replicate_zero]
 refine tri_seq_region tt_ok fun K hK => ?_
 simp only [go_sem,reduceIte,reduceAdd,reduceLT,reduceLeDiff,reduceMul,reduceEqDiff,reduceSub,reduceCtorEq]
 refine hK _ ?_
 refine tri_seq ?_
 refine tri_seq_region tt_ok fun K hK => ?_
 simp only [go_sem,reduceIte,reduceAdd,reduceLT,reduceLeDiff,reduceMul,reduceEqDiff,reduceSub,reduceCtorEq]
 refine hK _ ?_
 refine tri_nilBox m.length 0 0 2 (by dsimp only; rw [a0]; rfl) rfl ?_
 dsimp only
 simp only [ltb,s0,List.set_cons_zero,List.append_assoc,List.length_append,List.length_cons,List.length_nil,Nat.zero_add,reduceAdd]
 refine tri_block (tri_ukeys (fun l : List Us => m ++ [.box [.ms (m.length + 1) l.length 0 l.length], .rows l.length 2 (l.map encU)]) [] (m.length + 2) kc kb rfl (fun l => by simp) (by omega) (by omega) (fun l => by rw [List.getElem?_append_left hlc]; exact hkc) (fun l => by rw [List.getElem?_append_left hlb]; exact hkb) (fun l => ?_) hg ?_ rfl rfl (fun l u => l ++ [u]) (fun i l => l.length = i) ?_ rfl ?_)
 ·rw [List.all_append, Bool.and_eq_true]
  exact ⟨belowBs_mono (by omega) hb, by simp [belowB, belowV] <;> omega⟩
 ·simp [belowV, belowL] <;> omega
 ·intro i acc u hi hG
  refine ⟨by simp [hG], fun l LR LB hLR hLB => ?_⟩
  have hacc : acc.length + 1 ≤ 34359738368 := by omega
  have hf2 : firstOk [V.agg [V.sc (.string u.1), V.sc (.string u.2)]] 0 2 = true := rfl
  simp only [setPs,List.set_cons_succ,List.set_cons_zero,encU]
  refine tri_last_region tt_ok fun K hK => ?_
  simp only [a3,s3,List.length_append,List.append_assoc,go_sem,reduceIte,reduceAdd,reduceLT,reduceLeDiff,reduceMul,reduceEqDiff,reduceSub,reduceCtorEq]
  refine hK _ ?_
  refine ⟨rfl, by dsimp only; rw [a2]; rfl, tri_block ?_⟩
  simp only [s2,List.set_cons_succ,List.set_cons_zero]
  have hml : (acc.map encU).length = acc.length := List.length_map ..
  refine tri_last_region tt_ok fun K hK => ?_
  simp only [a0,a1,a3,a4,s0,s1,hf2,hml,hacc,List.length_append,List.append_assoc,go_sem,reduceIte,reduceAdd,reduceLT,reduceLeDiff,reduceMul,reduceEqDiff,reduceSub,reduceCtorEq]
  refine hK _ ?_
  refine ⟨rfl, by dsimp only; rw [a2]; rfl, ?_⟩
  dsimp only
  rw [List.take_append, List.take_of_length_le (by omega), Nat.add_sub_cancel_left]
  simp [encU]
 ·intro l hl hG
  rw [foldl_push, List.nil_append] at hG ⊢
  show Tri _ _ _ _ _ _
  refine tri_seq_region tt_ok fun K hK => ?_
  simp only [a0,List.append_assoc,go_sem,reduceIte,reduceAdd,reduceLT,reduceLeDiff,reduceMul,reduceEqDiff,reduceSub,reduceCtorEq]
  refine hK _ ?_
  have ht : ∀ l : List Blk, (m ++ l).take (m.length + 2) = m ++ l.take 2 := fun l => by rw [List.take_append, List.take_of_length_le (by omega), Nat.add_sub_cancel_left]
  refine tri_ret ⟨.inl rfl, .ms (m.length + 1) l.length 0 l.length, m.length + 2, by omega, rfl, by simp [belowV], ?_, l, hl, rfl, ?_⟩
  ·dsimp only
   rw [ht, List.all_append, Bool.and_eq_true]
   exact ⟨belowBs_mono (by omega) hb, by simp [belowB, belowV]⟩
  ·dsimp only
   rw [ht]; rfl
end Go.Proofs.YtpjdfcigadnhcaaGreatDoor
end
