/-
  CONTRACTS: slices.Compact at uses; equal neighbours left out.
  CONTRACTS: where a name leads, by the reference.
  CONTRACTS: InsertUse, by the reference.
  CONTRACTS: the values that a value uses, by the reference.
  CONTRACTS: the values that a value uses directly, by the program.
  CONTRACTS: Uses, by the program; equality of lists of uses.
  CONTRACTS: types and sizes of expressions, by the reference.
  CONTRACTS: equality of types, sizes of modules, by the reference: that they answer.
-/
import Derived.Test.YtefbaladomfccaaGreatDoorG6
set_option linter.all false
section
namespace Go.Proofs.YtefbaladomfccaaGreatDoor
open Go.Eng
open Nat renaming reduceAdd → zA, reduceLT → zB, reduceLeDiff → zC, reduceMul → zD, reduceEqDiff → zE, reduceSub → zF
section
variable {α : Type} [DecidableEq α]
def ddA (p : α) : List α → List α
 | [] => []
 | y :: r => if y = p then ddA p r else y :: ddA y r
def dd : List α → List α
 | [] => []
 | x :: r => x :: ddA x r
theorem ddA_snoc (z : α) : ∀ (r : List α) (p : α), ddA p (r ++ [z]) = ddA p r ++ (if z = r.getLast?.getD p then [] else [z])
 | [], p => by
  simp only [List.nil_append,ddA,List.getLast?_nil,Option.getD_none]
  rfl
 | y :: r, p => by
  have e1 : (y :: r).getLast?.getD p = r.getLast?.getD y := by rw [List.getLast?_cons]; rfl
  rw [e1, List.cons_append]
  unfold ddA
  by_cases h : y = p
  ·rw [if_pos h, if_pos h, ddA_snoc z r p, h]
  ·rw [if_neg h, if_neg h, ddA_snoc z r y]; rfl
theorem dd_snoc {l : List α} (z y : α) (h : l.getLast? = some y) : dd (l ++ [z]) = dd l ++ (if z = y then [] else [z]) := by
 cases l with
 | nil => simp at h
 | cons x r =>
  have e1 : r.getLast?.getD x = y := by rw [List.getLast?_cons] at h; exact Option.some.inj h
  show x :: ddA x (r ++ [z]) = (x :: ddA x r) ++ _
  rw [ddA_snoc, e1]; rfl
theorem getLast_take {l : List α} {i : Nat} {y : α} (h : l[i]? = some y) : (l.take (i + 1)).getLast? = some y := by
 rw [List.take_add_one, h]; simp
theorem dd_take {l : List α} {i : Nat} {x y : α} (hx : l[i + 1]? = some x) (hy : l[i]? = some y) : dd (l.take (i + 2)) = dd (l.take (i + 1)) ++ (if x = y then [] else [x]) := by
 rw [List.take_add_one (i := i + 1), hx]
 exact dd_snoc x y (getLast_take hy)
theorem ddA_mem (x : α) : ∀ (r : List α) (p : α), x = p ∨ x ∈ ddA p r ↔ x = p ∨ x ∈ r
 | [], p => by simp [ddA]
 | y :: r, p => by
  unfold ddA
  split
  ·rename_i h; subst h
   rw [ddA_mem x r y, List.mem_cons]
   constructor
   ·rintro (h | h)
    ·exact .inl h
    ·exact .inr (.inr h)
   ·rintro (h | h | h)
    ·exact .inl h
    ·exact .inl h
    ·exact .inr h
  ·rw [List.mem_cons, ddA_mem x r y, List.mem_cons]
theorem dd_mem (x : α) (l : List α) : x ∈ dd l ↔ x ∈ l := by
 cases l with
 | nil => exact Iff.rfl
 | cons y r => rw [dd, List.mem_cons, ddA_mem, List.mem_cons]
theorem ddA_asc {lt : α → α → Bool} (hl : Lin lt) : ∀ (r : List α) (p : α), (∀ x ∈ r, lt x p = false) → (r.Pairwise fun x y => lt y x = false) → Asc lt (p :: ddA p r)
 | [], p, _, _ => by simp [ddA, Asc]
 | y :: r, p, h1, h2 => by
  rw [List.pairwise_cons] at h2
  unfold ddA
  split
  ·rename_i h; subst h
   exact ddA_asc hl r y (fun x hx => h2.1 x hx) h2.2
  ·rename_i h
   have h3 := ddA_asc hl r y h2.1 h2.2
   have h4 : lt p y = true := by
    cases h5 : lt p y with
    | true => rfl
    | false => exact absurd (hl.tri _ _ (h1 y (List.mem_cons_self ..)) h5) h
   refine List.pairwise_cons.2 ⟨fun x hx => ?_, h3⟩
   rcases List.mem_cons.1 hx with rfl | hx
   ·exact h4
   ·exact hl.trans _ _ _ h4 ((List.pairwise_cons.1 h3).1 x hx)
theorem dd_asc {lt : α → α → Bool} (hl : Lin lt) {l : List α} (h : ∀ (i j : Nat) (x y : α), i < j → l[i]? = some x → l[j]? = some y → lt y x = false) : Asc lt (dd l) := by
 have h1 : l.Pairwise fun x y => lt y x = false := List.pairwise_iff_getElem.2 fun i j hi hj hij => h i j _ _ hij (List.getElem?_eq_getElem hi) (List.getElem?_eq_getElem hj)
 cases l with
 | nil => exact List.Pairwise.nil
 | cons x r => rw [List.pairwise_cons] at h1; exact ddA_asc hl r x h1.1 h1.2
end
end Go.Proofs.YtefbaladomfccaaGreatDoor
namespace Go.Proofs.YtefbaladomfccaaGreatDoor
open Go.Eng
open Nat renaming reduceAdd → zA, reduceLT → zB, reduceLeDiff → zC, reduceMul → zD, reduceEqDiff → zE, reduceSub → zF
variable [Glob]
set_option maxHeartbeats 4000000
set_option maxRecDepth 100000
attribute [local irreducible] runM stepM valD stepOp stepD callF callS
theorem cutMs_from {mem : List Blk} {b v s n size : Nat} (i : Nat) (h : sizeOfBlk mem b v = some size) (hi : i ≤ n) : cutAt mem size (i : Int) none (.ms b v s n) = some (.ms b v (s + i) (n - i)) := by
 unfold cutAt
 dsimp only
 rw [if_pos ⟨Int.natCast_nonneg _, by simpa using hi, by simp, h⟩]
 simp only [Option.getD_none,Int.toNat_natCast]
 congr 2
 omega
theorem cutMs_to {mem : List Blk} {b v s n size : Nat} (i : Nat) (h : sizeOfBlk mem b v = some size) (hi : i ≤ n) : cutAt mem size 0 (some (i : Int)) (.ms b v s n) = some (.ms b v s i) := by
 unfold cutAt
 dsimp only
 rw [if_pos ⟨Int.le_refl _, by simp, by simpa using hi, h⟩]
 simp
theorem compactU_ok (m : List Blk) (b v : Nat) (hb : b < m.length) (hbl : m.all (belowB m.length) = true) (l : List Us) (hl : l.length ≤ 1048576) :
  FnOkS Tryz.prog 128 [.ms b v 0 l.length] (m.set b (.rows v 2 (l.map encU))) (.ms b v 0 (dd l).length) (m.set b (.rows v 2 ((dd l).map encU))) := by
 have a1 : ∀ X, (m.set b X)[b]? = some X := fun X => by rw [List.getElem?_set]; simp [hb]
 have z1 : ∀ rs, sizeOfBlk (m.set b (.rows v 2 rs)) b v = some 2 := fun rs => by simp [sizeOfBlk, a1]
 have s1 : ∀ X Y, (m.set b X).set b Y = m.set b Y := fun X Y => List.set_set ..
 have ht : ∀ X, (m.set b X).take m.length = m.set b X := fun X => List.take_of_length_le (by simp)
 have fin : ∀ X, Blk.held X = true → belowB m.length X = true → (m.set b X).all (belowB m.length) = true := fun X _ hX => List.all_eq_true.2 fun y hy => by
  rcases List.mem_or_eq_of_mem_set hy with h | h
  ·exact List.all_eq_true.1 hbl y h
  ·rw [h]; exact hX
 refine fns_ok tt_ok (fn := Tryz.f128) m.length (by simp) Tryz.func128 rfl Tryz.call128 ?_
 simp only [ltb,startSt,Tryz.ntmps128,List.length_cons,List.length_nil,zA,zF,List.replicate_succ,List.replicate_zero]
 refine tri_seq_region tt_ok fun K hK => ?_
 simp only [go_sem,reduceIte,zA,zB,zC,zD,zE,zF,reduceCtorEq]
 refine hK _ ?_
 refine tri_seq ?_
 by_cases h2 : l.length < 2
 ·have hd : decide ((l.length : Int) < 2) = true := decide_eq_true (by omega)
  have e0 : dd l = l := by
   match l, h2 with
   | [], _ => rfl
   | [x], _ => rfl
   | x :: y :: r, h => simp at h; omega
  rw [e0]
  refine tri_seq_region tt_ok fun K hK => ?_
  simp only [hd,go_sem,reduceIte,zA,zB,zC,zD,zE,zF,reduceCtorEq]
  refine hK _ ?_
  refine tri_cond rfl ?_
  refine tri_seq_region tt_ok fun K hK => ?_
  simp only [go_sem,reduceIte,zA,zB,zC,zD,zE,zF,reduceCtorEq]
  refine hK _ ?_
  refine tri_ret ⟨.inl rfl, rfl, by simp [belowV, hb], ?_, ?_⟩
  ·dsimp only; rw [ht]; exact fin _ rfl rfl
  ·dsimp only; rw [ht]
 ·have hd : decide ((l.length : Int) < 2) = false := decide_eq_false (by omega)
  refine tri_seq_region tt_ok fun K hK => ?_
  simp only [hd,go_sem,reduceIte,zA,zB,zC,zD,zE,zF,reduceCtorEq]
  refine hK _ ?_
  refine tri_cond rfl (tri_skip ?_)
  show Tri _ _ _ _ _ _
  refine tri_seq ?_
  refine tri_seq_region tt_ok fun K hK => ?_
  simp only [go_sem,reduceIte,zA,zB,zC,zD,zE,zF,reduceCtorEq]
  refine hK _ ?_
  refine tri_block (tri_loop_inv (fun N st => ∃ (i : Nat), N = l.length - i ∧ 1 ≤ i ∧ i ≤ l.length ∧ dd (l.take i) = l.take i ∧
   st = { fr := [.ms b v 0 l.length, .undef, .undef, num i] ++ List.replicate 57 .undef, mem := m.set b (.rows v 2 (l.map encU)) }) (l.length - 1) ?_ ?_)
  ·refine ⟨m.length, [true,false,false,true], by simp, ?_, by dsimp only; rw [ht]; exact fin _ rfl rfl, 1, rfl, Nat.le_refl _, by omega, ?_, ?_⟩
   ·simp only [maskFr,belowV,belowL,belowB,zB,hb,mkb]
   ·match l, h2 with
    | [], h => simp at h
    | x :: r, _ => rfl
   ·dsimp only; rw [ht]; rfl
  ·rintro N' st ⟨i, rfl, hi1, hi, hdi, rfl⟩
   simp only [ltb,List.replicate_succ,List.replicate_zero]
   refine tri_seq ?_
   by_cases hlt : i < l.length
   ·have hd2 := lt_dec hlt
    refine tri_seq_region tt_ok fun K hK => ?_
    simp only [hd2,go_sem,reduceIte,zA,zB,zC,zD,zE,zF,reduceCtorEq]
    refine hK _ ?_
    refine tri_cond rfl (tri_skip ?_)
    refine tri_seq (tri_block ?_)
    obtain ⟨j, rfl⟩ : ∃ j, i = j + 1 := ⟨i - 1, by omega⟩
    obtain ⟨x, hx⟩ : ∃ x : Us, l[j + 1]? = some x := ⟨_, List.getElem?_eq_getElem hlt⟩
    obtain ⟨y, hy⟩ : ∃ y, l[j]? = some y := ⟨_, List.getElem?_eq_getElem (by omega)⟩
    have hI : ((j + 1 : Nat) : Int) < (l.length : Int) := by omega
    have hJ : ((j : Nat) : Int) < (l.length : Int) := by omega
    have hw : IntKind.i64.wrap (((j + 1 : Nat) : Int) - 1) = ((j : Nat) : Int) := i64_c _ j (by omega) (by omega)
    have hdt := dd_take hx hy
    refine tri_seq_mixed tt_ok mixed_ok [⟨.n, 0, [], [], []⟩, ⟨.n, 0, [], [], []⟩, ⟨.r, 0, [], [], []⟩, ⟨.r, 0, [], [], []⟩, ⟨.n, 0, [], [], []⟩, ⟨.n, 0, [], [], []⟩, ⟨.n, 0, [], [], []⟩, ⟨.r, 0, [], [], []⟩, ⟨.r, 0, [], [], []⟩, ⟨.n, 0, [], [], []⟩] 0 (by kernel_rfl) fun K hK => ?_
    simp only [a1,hI,hJ,hw,List.getElem?_map,hx,hy,encU,ev_useql,ev_usneq,go_sem,reduceIte,zA,zB,zC,zD,zE,zF,reduceCtorEq,List.replicate]
    refine hK _ ?_
    cases hq : decide (x = y) with
    | false =>
     have hne : ¬ x = y := of_decide_eq_false hq
     rw [if_neg hne, hdi] at hdt
     refine tri_cond rfl (tri_skip ?_)
     show Tri _ _ _ _ _ _
     have hw2 := i64_succ (j + 1) (by omega)
     refine tri_last_region tt_ok fun K hK => ?_
     simp only [hw2,go_sem,reduceIte,zA,zB,zC,zD,zE,zF,reduceCtorEq]
     refine hK _ ?_
     refine ⟨l.length - (j + 1 + 1), by omega, m.length, [true,false,false,true], by simp, ?_, by dsimp only; rw [ht]; exact fin _ rfl rfl, j + 1 + 1, rfl, by omega, hlt, ?_, ?_⟩
     ·simp only [maskFr,belowV,belowL,belowB,zB,hb,mkb]
     ·rw [hdt, List.take_add_one (i := j + 1), hx]; rfl
     ·dsimp only; rw [ht]; rfl
    | true =>
     have he : x = y := of_decide_eq_true hq
     rw [if_pos he, hdi, List.append_nil] at hdt
     refine tri_cond rfl ?_
     have hk1 := cutMs_from (s := 0) (j + 1) (z1 (l.map encU)) hi
     refine tri_seq_region tt_ok fun K hK => ?_
     simp only [hk1,go_sem,reduceIte,zA,zB,zC,zD,zE,zF,reduceCtorEq]
     refine hK _ ?_
     refine tri_seq ?_
     refine tri_seq_region tt_ok fun K hK => ?_
     simp only [go_sem,reduceIte,zA,zB,zC,zD,zE,zF,reduceCtorEq]
     refine hK _ ?_
     refine tri_block (tri_loop_inv (fun N st => ∃ (q k : Nat), N = l.length - (j + 1) - q ∧ 1 ≤ q ∧ j + 1 + q ≤ l.length ∧ k + 1 ≤ j + 1 + q ∧ (dd (l.take (j + 1 + q))).length = k ∧
      st = { fr := [.ms b v 0 l.length, .undef, .undef, num k, .ms b v (j + 1) (l.length - (j + 1)), num q] ++ List.replicate 55 .undef, mem := m.set b (.rows v 2 ((dd (l.take (j + 1 + q)) ++ l.drop k).map encU)) }) (l.length - (j + 1) - 1) ?_ ?_)
     ·refine ⟨m.length, [true,false,false,true,true,true], by simp, ?_, by dsimp only; rw [ht]; exact fin _ rfl rfl, 1, j + 1, rfl, Nat.le_refl _, by omega, by omega, ?_, ?_⟩
      ·simp only [maskFr,belowV,belowL,belowB,zB,hb,mkb]
      ·rw [hdt, List.length_take]; omega
      ·dsimp only; rw [ht, hdt, List.take_append_drop]; rfl
     ·rintro N' st ⟨q, k, rfl, hq1, hq2, hkq, hlk, rfl⟩
      simp only [ltb,List.replicate_succ,List.replicate_zero]
      refine tri_seq ?_
      by_cases hlt2 : q < l.length - (j + 1)
      ·have hd3 := lt_dec hlt2
       refine tri_seq_region tt_ok fun K hK => ?_
       simp only [hd3,go_sem,reduceIte,zA,zB,zC,zD,zE,zF,reduceCtorEq]
       refine hK _ ?_
       refine tri_cond rfl (tri_skip ?_)
       refine tri_seq (tri_block ?_)
       obtain ⟨p, rfl⟩ : ∃ p, q = p + 1 := ⟨q - 1, by omega⟩
       obtain ⟨x', hx'⟩ : ∃ x', l[j + 1 + p + 1]? = some x' := ⟨_, List.getElem?_eq_getElem (by omega)⟩
       obtain ⟨y', hy'⟩ : ∃ y', l[j + 1 + p]? = some y' := ⟨_, List.getElem?_eq_getElem (by omega)⟩
       obtain ⟨z', hz'⟩ : ∃ z', l[k]? = some z' := ⟨_, List.getElem?_eq_getElem (by omega)⟩
       have hdt' := dd_take hx' hy'
       have g : ∀ t, k ≤ t → (dd (l.take (j + 1 + (p + 1))) ++ l.drop k)[t]? = l[t]? := fun t ht => by
        rw [List.getElem?_append_right (by omega), hlk, List.getElem?_drop]
        congr 1; omega
       have gx := (g (j + 1 + (p + 1)) (by omega)).trans hx'
       have gy := (g (j + 1 + p) (by omega)).trans hy'
       have gz := (g k (by omega)).trans hz'
       have hI' : ((p + 1 : Nat) : Int) < ((l.length - (j + 1) : Nat) : Int) := by omega
       have hJ' : ((p : Nat) : Int) < ((l.length - (j + 1) : Nat) : Int) := by omega
       have hw' : IntKind.i64.wrap (((p + 1 : Nat) : Int) - 1) = ((p : Nat) : Int) := i64_c _ p (by omega) (by omega)
       have hw3 := i64_succ (p + 1) (by omega)
       refine tri_seq_mixed tt_ok mixed_ok [⟨.n, 0, [], [], []⟩, ⟨.n, 0, [], [], []⟩, ⟨.r, 0, [], [], []⟩, ⟨.r, 0, [], [], []⟩, ⟨.n, 0, [], [], []⟩, ⟨.n, 0, [], [], []⟩, ⟨.n, 0, [], [], []⟩, ⟨.r, 0, [], [], []⟩, ⟨.r, 0, [], [], []⟩, ⟨.n, 0, [], [], []⟩] 0 (by kernel_rfl) fun K hK => ?_
       simp only [a1,hI',hJ',hw',List.getElem?_map,gx,gy,encU,ev_useql,ev_usneq,go_sem,reduceIte,zA,zB,zC,zD,zE,zF,reduceCtorEq,List.replicate]
       refine hK _ ?_
       cases hq' : decide (x' = y') with
       | true =>
        have he' : x' = y' := of_decide_eq_true hq'
        rw [if_pos he', List.append_nil] at hdt'
        refine tri_cond rfl (tri_skip ?_)
        show Tri _ _ _ _ _ _
        refine tri_last_region tt_ok fun K hK => ?_
        simp only [hw3,go_sem,reduceIte,zA,zB,zC,zD,zE,zF,reduceCtorEq]
        refine hK _ ?_
        refine ⟨l.length - (j + 1) - (p + 1 + 1), by omega, m.length, [true,false,false,true,true,true], by simp, ?_, by dsimp only; rw [ht]; exact fin _ rfl rfl, p + 1 + 1, k, rfl, by omega, by omega, by omega, ?_, ?_⟩
        ·simp only [maskFr,belowV,belowL,belowB,zB,hb,mkb]
        ·exact (congrArg List.length hdt').trans hlk
        ·have e3 : dd (l.take (j + 1 + (p + 1 + 1))) = dd (l.take (j + 1 + (p + 1))) := hdt'
         dsimp only; rw [ht, e3]; rfl
       | false =>
        have hne' : ¬ x' = y' := of_decide_eq_false hq'
        rw [if_neg hne'] at hdt'
        refine tri_cond rfl ?_
        have hkl : ((k : Nat) : Int) < (l.length : Int) := by omega
        refine tri_seq_region tt_ok fun K hK => ?_
        simp only [a1,s1,hI',hkl,List.getElem?_map,gx,gz,encU,go_sem,reduceIte,zA,zB,zC,zD,zE,zF,reduceCtorEq]
        refine hK _ ?_
        have hw4 := i64_succ k (by omega)
        refine tri_last_region tt_ok fun K hK => ?_
        simp only [hw4,go_sem,reduceIte,zA,zB,zC,zD,zE,zF,reduceCtorEq]
        refine hK _ ?_
        show Tri _ _ _ _ _ _
        refine tri_last_region tt_ok fun K hK => ?_
        simp only [hw3,go_sem,reduceIte,zA,zB,zC,zD,zE,zF,reduceCtorEq]
        refine hK _ ?_
        refine ⟨l.length - (j + 1) - (p + 1 + 1), by omega, m.length, [true,false,false,true,true,true], by simp, ?_, by dsimp only; rw [ht]; exact fin _ rfl rfl, p + 1 + 1, k + 1, rfl, by omega, by omega, by omega, ?_, ?_⟩
        ·simp only [maskFr,belowV,belowL,belowB,zB,hb,mkb]
        ·refine (congrArg List.length hdt').trans ?_
         rw [List.length_append]
         exact congrArg (· + 1) hlk
        ·have e3 : dd (l.take (j + 1 + (p + 1 + 1))) = dd (l.take (j + 1 + (p + 1))) ++ [x'] := hdt'
         have e4 : ((dd (l.take (j + 1 + (p + 1))) ++ l.drop k).map encU).set k (encU x') = (dd (l.take (j + 1 + (p + 1))) ++ [x'] ++ l.drop (k + 1)).map encU := by
          rw [← List.map_set, List.set_append_right _ _ (by omega), hlk, Nat.sub_self, List.drop_eq_getElem_cons (by omega : k < l.length), List.set_cons_zero, List.append_assoc]; rfl
         dsimp only; rw [ht, e3, ← e4]; rfl
      ·have hd3 := ge_dec hlt2
       refine tri_seq_region tt_ok fun K hK => ?_
       simp only [hd3,go_sem,reduceIte,zA,zB,zC,zD,zE,zF,reduceCtorEq]
       refine hK _ ?_
       refine tri_cond rfl (tri_exit ?_)
       obtain rfl : q = l.length - (j + 1) := by omega
       have eq1 : j + 1 + (l.length - (j + 1)) = l.length := by omega
       rw [eq1, List.take_length] at hlk ⊢
       rw [eq1] at hkq
       show Tri _ _ _ _ _ _
       have hc1 := cutMs_from (s := 0) (n := l.length) k (z1 ((dd l ++ l.drop k).map encU)) (by omega)
       have hc2 := cutMs_to (s := 0) (n := l.length) k (z1 ((dd l).map encU)) (by omega)
       refine tri_seq_clear tt_ok [_, _, _] rfl ?_
       simp only [hc1,go_sem,reduceIte,zA,zB,zC,zD,zE,zF,reduceCtorEq]
       refine ⟨m.set b (.rows v 2 ((dd l).map encU)), ?_, ?_⟩
       ·have e5 : ((dd l ++ l.drop k).map encU).take k = (dd l).map encU := by rw [← List.map_take, List.take_append_of_le_length (by omega), List.take_of_length_le (by omega)]
        simp only [clearV,tt72,tt78,a1,s1,e5]
        rw [if_pos (by refine ⟨by trivial, by trivial, by trivial, by simp [Value.oneCell'], by omega, by simp; omega⟩)]
       ·refine tri_seq_region tt_ok fun K hK => ?_
        simp only [hc2,go_sem,reduceIte,zA,zB,zC,zD,zE,zF,reduceCtorEq]
        refine hK _ ?_
        rw [hlk]
        refine tri_ret ⟨.inl rfl, rfl, by simp [belowV, hb], ?_, ?_⟩
        ·dsimp only; rw [ht]; exact fin _ rfl rfl
        ·dsimp only; rw [ht]
   ·have hd2 := ge_dec hlt
    refine tri_seq_region tt_ok fun K hK => ?_
    simp only [hd2,go_sem,reduceIte,zA,zB,zC,zD,zE,zF,reduceCtorEq]
    refine hK _ ?_
    refine tri_cond rfl (tri_exit ?_)
    obtain rfl : i = l.length := by omega
    rw [List.take_length] at hdi
    rw [hdi]
    show Tri _ _ _ _ _ _
    refine tri_seq_region tt_ok fun K hK => ?_
    simp only [go_sem,reduceIte,zA,zB,zC,zD,zE,zF,reduceCtorEq]
    refine hK _ ?_
    refine tri_ret ⟨.inl rfl, rfl, by simp [belowV, hb], ?_, ?_⟩
    ·dsimp only; rw [ht]; exact fin _ rfl rfl
    ·dsimp only; rw [ht]
end Go.Proofs.YtefbaladomfccaaGreatDoor
end

section
namespace Go.Proofs.YtefbaladomfccaaGreatDoor
open Go.Eng
open Nat renaming reduceAdd → zA, reduceLT → zB, reduceLeDiff → zC, reduceMul → zD, reduceEqDiff → zE, reduceSub → zF
variable [Glob]
set_option maxHeartbeats 4000000
set_option maxRecDepth 100000
def declP : List Md → Us → Option Dc
 | [], _ => none
 | m :: r, u => if m.path = u.1 then m.decls.find? (fun d => decide (d.name = u.2)) else declP r u
def dz : Dc := ⟨0, ⟨#[]⟩, false, false, ⟨#[]⟩, [], .mk 0 ⟨#[]⟩ ⟨#[]⟩ [] [], .mk 0 ⟨#[]⟩ ⟨#[]⟩ [] [], .mk 0 ⟨#[]⟩ ⟨#[]⟩ [] [], .mk 0 ⟨#[]⟩ ⟨#[]⟩ ⟨#[]⟩ 0 [] [] [], ⟨#[]⟩, ⟨#[]⟩⟩
def declV (p : List Md) (u : Us) : V := match declP p u with | none => .tup [.agg [num 0, str ⟨#[]⟩, bl false, bl false, str ⟨#[]⟩, .slice [], num 0, str ⟨#[]⟩, str ⟨#[]⟩, .slice [], .slice [], num 0, str ⟨#[]⟩, str ⟨#[]⟩, .slice [], .slice [], num 0, str ⟨#[]⟩, str ⟨#[]⟩, .slice [], .slice [], num 0, str ⟨#[]⟩, str ⟨#[]⟩, str ⟨#[]⟩, num 0, .slice [], .slice [], .slice [], str ⟨#[]⟩, str ⟨#[]⟩], bl false] | some d => .tup [encDc d, bl true]
theorem decl_no {p : List Md} {u : Us} (h : declP p u = none) : declV p u = .tup [.agg [num 0, str ⟨#[]⟩, bl false, bl false, str ⟨#[]⟩, .slice [], num 0, str ⟨#[]⟩, str ⟨#[]⟩, .slice [], .slice [], num 0, str ⟨#[]⟩, str ⟨#[]⟩, .slice [], .slice [], num 0, str ⟨#[]⟩, str ⟨#[]⟩, .slice [], .slice [], num 0, str ⟨#[]⟩, str ⟨#[]⟩, str ⟨#[]⟩, num 0, .slice [], .slice [], .slice [], str ⟨#[]⟩, str ⟨#[]⟩], bl false] := by unfold declV; rw [h]
theorem decl_yes {p : List Md} {u : Us} {d : Dc} (h : declP p u = some d) : declV p u = .tup [encDc d, bl true] := by unfold declV; rw [h]
theorem declP_drop {p : List Md} {u : Us} {i : Nat} {m : Md} (h : p[i]? = some m) : declP (p.drop i) u = if m.path = u.1 then m.decls.find? (fun d => decide (d.name = u.2)) else declP (p.drop (i + 1)) u := by
 rw [List.drop_eq_getElem_cons (List.getElem?_eq_some_iff.1 h).1, (List.getElem?_eq_some_iff.1 h).2, declP]
theorem find_drop {l : List Dc} {n : ByteArray} {j : Nat} {d : Dc} (h : l[j]? = some d) : (l.drop j).find? (fun d => decide (d.name = n)) = if d.name = n then some d else (l.drop (j + 1)).find? (fun d => decide (d.name = n)) := by
 rw [List.drop_eq_getElem_cons (List.getElem?_eq_some_iff.1 h).1, (List.getElem?_eq_some_iff.1 h).2]
 by_cases hd : d.name = n
 ·rw [if_pos hd, List.find?_cons_of_pos (by simpa using hd)]
 ·rw [if_neg hd, List.find?_cons_of_neg (by simpa using hd)]
theorem decl_ok (p : List Md) (u : Us) (hl : p.length ≤ 1048576) (hw : ∀ m ∈ p, m.wt ≤ 1048576) : ∃ r_, (fun w => w = declV p u) r_ ∧ FnOk Tryz.prog 78 [.slice (p.map encMd), encU u] r_ := by
 refine vfn tt_ok [] 54 [.cell 4 109, .tmp 5] (fn := Tryz.f78) Tryz.func78 rfl Tryz.call78 ⟨rfl, rfl, by simp⟩ fun K hK => ?_
 simp only [encU]
 simp only [List.length_map,str_beq,go_sem,reduceIte,zA,zB,zC,zD,zE,zF,reduceCtorEq]
 refine xloopL tt_ok [] [6] 2 [0,3,4] (fun vs => ((p.length : Int) - Go.Eng.intOf (vs.headD .undef)).toNat) (fun vs => ∃ i : Nat, vs = [num i] ∧ i ≤ p.length ∧ declP p u = declP (p.drop i) u) (by omega) (by simp only [List.length_map,str_beq,go_sem,reduceIte,zA,zB,zC,zD,zE,zF,reduceCtorEq]) (⟨0, rfl, Nat.zero_le _, rfl⟩) fun vs hI Z1 hZ1 => ?_
 obtain ⟨i, rfl, hi, hst⟩ := hI
 simp only [List.length_map,str_beq,go_sem,reduceIte,zA,zB,zC,zD,zE,zF,reduceCtorEq]
 refine gif (fun hc11 => ?_) (fun hc11 => ?_)
 ·have hlti : i < p.length := by simpa using hc11
  have hwi := i64_succ i (by omega)
  obtain ⟨m, hx⟩ : ∃ m, p[i]? = some m := ⟨_, List.getElem?_eq_getElem hlti⟩
  have hmw := hw m (List.mem_of_getElem? hx)
  have hmd : m.wt = 1 + m.path.size + sumBy Im.wt m.imports + sumBy Dc.wt m.decls := rfl
  have hdl := length_le_sum Dc.wt Dc.wt_pos m.decls
  simp only [hwi,hx,List.getElem?_map,encMd_eq,mdCells,List.length_map,str_beq,go_sem,reduceIte,zA,zB,zC,zD,zE,zF,reduceCtorEq]
  refine xmixL tt_ok mixed_ok [⟨.n, 0, [], [], []⟩, ⟨.n, 0, [], [], []⟩, ⟨.r, 0, [], [], []⟩, ⟨.n, 0, [], [], []⟩, ⟨.r, 0, [], [], []⟩, ⟨.n, 0, [], [], []⟩, ⟨.r, 0, [], [], []⟩, ⟨.n, 0, [], [], []⟩] 0 (by kernel_rfl) ?_
  simp only [hwi,hx,List.getElem?_map,encMd_eq,mdCells,List.length_map,str_beq,go_sem,reduceIte,zA,zB,zC,zD,zE,zF,reduceCtorEq]
  refine gif (fun hc21 => ?_) (fun hc21 => ?_)
  ·have hne : ¬ m.path = u.1 := by simpa using hc21
   simp only [hwi,hx,List.getElem?_map,encMd_eq,mdCells,List.length_map,str_beq,go_sem,reduceIte,zA,zB,zC,zD,zE,zF,reduceCtorEq]
   refine hZ1 _ (endK (by omega) (by simp only [hwi,hx,List.getElem?_map,encMd_eq,mdCells,List.length_map,str_beq,go_sem,reduceIte,zA,zB,zC,zD,zE,zF,reduceCtorEq]) ?_ ?_) <;> simp only [lks,lk,reduceIte,zE]
   ·exact ⟨i + 1, rfl, hlti, by rw [hst, declP_drop hx, if_neg hne]⟩
   ·simp only [Go.Eng.intOf,List.headD_cons]; omega
  ·have heq : m.path = u.1 := by simpa using hc21
   have hsm : declP p u = (m.decls.drop 0).find? (fun d => decide (d.name = u.2)) := by rw [hst, declP_drop hx, if_pos heq]; rfl
   simp only [hwi,hx,List.getElem?_map,encMd_eq,mdCells,List.length_map,str_beq,go_sem,reduceIte,zA,zB,zC,zD,zE,zF,reduceCtorEq]
   refine xloopL tt_ok [] [7] 2 [0,3,4,6,8,9,10,11,14,15,16,17,18,19,20,21] (fun vs => ((m.decls.length : Int) - Go.Eng.intOf (vs.headD .undef)).toNat) (fun vs => ∃ j : Nat, vs = [num j] ∧ j ≤ m.decls.length ∧ declP p u = (m.decls.drop j).find? (fun d => decide (d.name = u.2))) (by omega) (by simp only [hwi,hx,List.getElem?_map,encMd_eq,mdCells,List.length_map,str_beq,go_sem,reduceIte,zA,zB,zC,zD,zE,zF,reduceCtorEq]) (⟨0, rfl, Nat.zero_le _, hsm⟩) fun vs hI Z2 hZ2 => ?_
   obtain ⟨j, rfl, hj, hsj⟩ := hI
   simp only [hwi,hx,List.getElem?_map,encMd_eq,mdCells,List.length_map,str_beq,go_sem,reduceIte,zA,zB,zC,zD,zE,zF,reduceCtorEq]
   refine gif (fun hc29 => ?_) (fun hc29 => ?_)
   ·have hltj : j < m.decls.length := by simpa using hc29
    have hwj := i64_succ j (by omega)
    obtain ⟨d, hd⟩ : ∃ d, m.decls[j]? = some d := ⟨_, List.getElem?_eq_getElem hltj⟩
    simp only [hwi,hx,List.getElem?_map,encMd_eq,mdCells,hwj,hd,encDc_eq,dcCells,tyCells,exCells,List.cons_append,List.nil_append,List.length_map,str_beq,go_sem,reduceIte,zA,zB,zC,zD,zE,zF,reduceCtorEq]
    refine xmixL tt_ok mixed_ok [⟨.n, 0, [], [], []⟩, ⟨.n, 0, [], [], []⟩, ⟨.r, 0, [], [], []⟩, ⟨.n, 0, [], [], []⟩, ⟨.r, 0, [], [], []⟩, ⟨.n, 0, [], [], []⟩, ⟨.r, 0, [], [], []⟩, ⟨.n, 0, [], [], []⟩, ⟨.r, 0, [], [], []⟩, ⟨.n, 0, [], [], []⟩, ⟨.r, 0, [], [], []⟩, ⟨.n, 0, [], [], []⟩] 0 (by kernel_rfl) ?_
    simp only [hwi,hx,List.getElem?_map,encMd_eq,mdCells,hwj,hd,encDc_eq,dcCells,tyCells,exCells,List.cons_append,List.nil_append,List.length_map,str_beq,go_sem,reduceIte,zA,zB,zC,zD,zE,zF,reduceCtorEq]
    refine gif (fun hc43 => ?_) (fun hc43 => ?_)
    ·have hnn : d.name = u.2 := by simpa using hc43
     have hres := decl_yes (p := p) (u := u) (d := d) (by rw [hsj, find_drop hd, if_pos hnn])
     rw [encDc_eq] at hres
     simp only [ltb,dcCells,tyCells,exCells] at hres
     simp only [hwi,hx,List.getElem?_map,encMd_eq,mdCells,hwj,hd,encDc_eq,dcCells,tyCells,exCells,List.cons_append,List.nil_append,List.length_map,str_beq,go_sem,reduceIte,zA,zB,zC,zD,zE,zF,reduceCtorEq]
     exact hK _ hres.symm
    ·have hnn : ¬ d.name = u.2 := by simpa using hc43
     simp only [hwi,hx,List.getElem?_map,encMd_eq,mdCells,hwj,hd,encDc_eq,dcCells,tyCells,exCells,List.cons_append,List.nil_append,List.length_map,str_beq,go_sem,reduceIte,zA,zB,zC,zD,zE,zF,reduceCtorEq]
     refine hZ2 _ (endK (by omega) (by simp only [hwi,hx,List.getElem?_map,encMd_eq,mdCells,hwj,hd,encDc_eq,dcCells,tyCells,exCells,List.cons_append,List.nil_append,List.length_map,str_beq,go_sem,reduceIte,zA,zB,zC,zD,zE,zF,reduceCtorEq]) ?_ ?_) <;> simp only [lks,lk,reduceIte,zE]
     ·exact ⟨j + 1, rfl, hltj, by rw [hsj, find_drop hd, if_neg hnn]⟩
     ·simp only [Go.Eng.intOf,List.headD_cons]; omega
   ·have hgej : j = m.decls.length := by have := of_decide_eq_false hc29; omega
    have hres := decl_no (p := p) (u := u) (by rw [hsj, hgej, List.drop_length]; rfl)
    simp only [hwi,hx,List.getElem?_map,encMd_eq,mdCells,List.length_map,str_beq,go_sem,reduceIte,zA,zB,zC,zD,zE,zF,reduceCtorEq]
    exact hK _ hres.symm
 ·have hgei : i = p.length := by have := of_decide_eq_false hc11; omega
  have hres := decl_no (p := p) (u := u) (by rw [hst, hgei, List.drop_length]; rfl)
  simp only [List.length_map,str_beq,go_sem,reduceIte,zA,zB,zC,zD,zE,zF,reduceCtorEq]
  exact hK _ hres.symm
theorem leads_ok (p : List Md) (u : Us) (hl : p.length ≤ 1048576) (hw : ∀ m ∈ p, m.wt ≤ 1048576) : ∃ r_, (fun w => w = leadV (declP p) u) r_ ∧ FnOk Tryz.prog 43 [.slice (p.map encMd), encU u] r_ := by
 refine vfn tt_ok [] 42 [.cell 4 78, .tmp 5] (fn := Tryz.f43) Tryz.func43 rfl Tryz.call43 ⟨rfl, rfl, by simp⟩ fun K hK => ?_
 simp only [encU]
 simp only [go_sem,reduceIte,zA,zB,zC,zD,zE,zF,reduceCtorEq]
 refine xloop tt_ok [] (fun a : Nat × Us => [(0, .slice (p.map encMd)), (3, .ptr 0 0), (4, .ptr 1 0), (6, num a.1)]) (fun a : Nat × Us => [.box [str a.2.1, str a.2.2], .box [str ⟨#[]⟩, str ⟨#[]⟩]]) (fun a => 4097 - a.1) (fun a => a.1 ≤ 4097 ∧ leads (declP p) u = leadF (declP p) (4097 - a.1) a.2) ((0, u)) 2 (lies (by omega) (by simp only [Int.cast_ofNat_Int,go_sem,reduceIte,zA,zB,zC,zD,zE,zF,reduceCtorEq] <;> rfl)) (⟨Nat.zero_le _, rfl⟩) ?_
 intro ⟨i, v⟩ ⟨hi, hld⟩
 try dsimp only at hi hld
 try dsimp only
 intro Z1 hZ1
 simp only [go_sem,reduceIte,zA,zB,zC,zD,zE,zF,reduceCtorEq]
 refine gif (fun hc10 => ?_) (fun hc10 => ?_)
 ·have hlt : i < 4097 := by have := of_decide_eq_true hc10; omega
  have hwi := i64_succ i (by omega)
  rcases hlu : declP p v with _ | d
  ·have hres := lead_no (u := u) (look := declP p) (by rw [lead_at hlt hld]; (try dsimp only); rw [hlu])
   simp only [go_sem,reduceIte,zA,zB,zC,zD,zE,zF,reduceCtorEq]
   refine cF (by have h := decl_ok p v hl hw; rw [decl_no hlu] at h; simp only [encU] at h; exact h) ?_
   rintro _ rfl
   simp only [go_sem,reduceIte,zA,zB,zC,zD,zE,zF,reduceCtorEq]
   exact hK _ hres.symm
  ·simp only [go_sem,reduceIte,zA,zB,zC,zD,zE,zF,reduceCtorEq]
   refine cF (by have h := decl_ok p v hl hw; rw [decl_yes hlu, encDc_eq] at h; simp only [ltb,encU,dcCells,tyCells,exCells] at h; exact h) ?_
   rintro _ rfl
   simp only [go_sem,reduceIte,zA,zB,zC,zD,zE,zF,reduceCtorEq]
   refine gif (fun hb5_6 => ?_) (fun hb5_6 => ?_)
   ·have hk1 : ¬ d.kind = 1 := by simpa using hb5_6
    simp only [go_sem,reduceIte,zA,zB,zC,zD,zE,zF,reduceCtorEq]
    refine gif (fun hc30 => ?_) (fun hc30 => ?_)
    ·have hk2 : ¬ d.kind = 2 := by simpa using hc30
     have hres := lead_no (u := u) (look := declP p) (by rw [lead_at hlt hld]; (try dsimp only); rw [hlu]; (try dsimp only); rw [if_neg hk1, if_neg hk2])
     simp only [go_sem,reduceIte,zA,zB,zC,zD,zE,zF,reduceCtorEq]
     exact hK _ hres.symm
    ·have hk2 : d.kind = 2 := by simpa using hc30
     simp only [go_sem,reduceIte,zA,zB,zC,zD,zE,zF,reduceCtorEq]
     refine gif (fun hc34 => ?_) (fun hc34 => ?_)
     ·have hk1 : d.kind = 1 := of_decide_eq_true hc34
      have hres := lead_yes (u := u) (look := declP p) (v := v) (by rw [lead_at hlt hld]; (try dsimp only); rw [hlu]; (try dsimp only); rw [if_pos hk1])
      simp only [go_sem,reduceIte,zA,zB,zC,zD,zE,zF,reduceCtorEq]
      exact hK _ hres.symm
     ·have hk1 : ¬ d.kind = 1 := of_decide_eq_false hc34
      have hk2 : d.kind = 2 := by first | exact hk2 | (exfalso; simp_all)
      simp only [go_sem,reduceIte,zA,zB,zC,zD,zE,zF,reduceCtorEq]
      refine hZ1 _ ⟨(i + 1, (d.mod, d.target)), ?_, ?_, lies (by omega) (by (simp only [hwi,go_sem,reduceIte,zA,zB,zC,zD,zE,zF,reduceCtorEq]))⟩
      ·exact ⟨hlt, by rw [lead_at hlt hld]; (try dsimp only); rw [hlu]; (try dsimp only); rw [if_neg hk1, if_pos hk2]⟩
      ·dsimp only; omega
   ·have hk1 : d.kind = 1 := by simpa using hb5_6
    simp only [go_sem,reduceIte,zA,zB,zC,zD,zE,zF,reduceCtorEq]
    refine gif (fun hc34 => ?_) (fun hc34 => ?_)
    ·have hk1 : d.kind = 1 := of_decide_eq_true hc34
     have hres := lead_yes (u := u) (look := declP p) (v := v) (by rw [lead_at hlt hld]; (try dsimp only); rw [hlu]; (try dsimp only); rw [if_pos hk1])
     simp only [go_sem,reduceIte,zA,zB,zC,zD,zE,zF,reduceCtorEq]
     exact hK _ hres.symm
    ·have hk1 : ¬ d.kind = 1 := of_decide_eq_false hc34
     have hk2 : d.kind = 2 := by first | exact hk2 | (exfalso; simp_all)
     simp only [go_sem,reduceIte,zA,zB,zC,zD,zE,zF,reduceCtorEq]
     refine hZ1 _ ⟨(i + 1, (d.mod, d.target)), ?_, ?_, lies (by omega) (by (simp only [hwi,go_sem,reduceIte,zA,zB,zC,zD,zE,zF,reduceCtorEq]))⟩
     ·exact ⟨hlt, by rw [lead_at hlt hld]; (try dsimp only); rw [hlu]; (try dsimp only); rw [if_neg hk1, if_pos hk2]⟩
     ·dsimp only; omega
 ·have hge : i = 4097 := by have := of_decide_eq_false hc10; omega
  have hres := lead_no (u := u) (look := declP p) (by rw [hld, hge]; rfl)
  simp only [go_sem,reduceIte,zA,zB,zC,zD,zE,zF,reduceCtorEq]
  exact hK _ hres.symm
end Go.Proofs.YtefbaladomfccaaGreatDoor
end

section
namespace Go.Proofs.YtefbaladomfccaaGreatDoor
open Go.Eng
open Nat renaming reduceAdd → zA, reduceLT → zB, reduceLeDiff → zC, reduceMul → zD, reduceEqDiff → zE, reduceSub → zF
variable [Glob]
set_option maxHeartbeats 4000000
set_option maxRecDepth 100000
theorem less_ok (a b : Us) : ∃ r_, (fun w => w = bl (ltU a b)) r_ ∧ FnOk Tryz.prog 132 [encU a, encU b] r_ := by
 refine vfn tt_ok [] 24 [.tmp 4] (fn := Tryz.f132) Tryz.func132 rfl Tryz.call132 ⟨rfl, rfl, by simp⟩ fun K hK => ?_
 simp only [encU]
 simp only [go_sem,reduceIte,zA,zB,zC,zD,zE,zF,reduceCtorEq]
 refine gif (fun hb1_5 => ?_) (fun hb1_5 => ?_)
 ·simp only [go_sem,reduceIte,zA,zB,zC,zD,zE,zF,reduceCtorEq]
  refine hK _ (congrArg bl ?_)
  simp_all [ltU, ltB, str_beq]
 ·simp only [go_sem,reduceIte,zA,zB,zC,zD,zE,zF,reduceCtorEq]
  refine gif (fun hb1_11 => ?_) (fun hb1_11 => ?_)
  ·simp only [go_sem,reduceIte,zA,zB,zC,zD,zE,zF,reduceCtorEq]
   refine hK _ (congrArg bl ?_)
   simp_all [ltU, ltB, str_beq]
  ·simp only [go_sem,reduceIte,zA,zB,zC,zD,zE,zF,reduceCtorEq]
   refine hK _ (congrArg bl ?_)
   simp_all [ltU, ltB, str_beq]
theorem iu_ok (l : List Us) (s : Us) (hl : l.length ≤ 1048576) : ∃ r_, (fun v => v = .slice ((insL ltU l s).map encU)) r_ ∧ FnOk Tryz.prog 89 [.slice (l.map encU), encU s] r_ := by
 refine vfn tt_ok [1,20000] 45 [.tmp 4] (fn := Tryz.f89) Tryz.func89 rfl Tryz.call89 ⟨rfl, rfl, by simp⟩ fun K hK => ?_
 simp only [encU]
 simp only [List.length_map,go_sem,reduceIte,zA,zB,zC,zD,zE,zF,reduceCtorEq]
 refine xfrzBox 3 (by decide) rfl rfl rfl ?_
 refine xgo tt_ok [1,20000] ?_
 simp only [List.length_map,go_sem,reduceIte,zA,zB,zC,zD,zE,zF,reduceCtorEq]
 refine xjoin tt_ok [1,20000] [5] 1 [0,3,4] (fun vs => ∃ i : Nat, vs = [num i] ∧ i ≤ l.length ∧ (∀ j < i, ∀ b, l[j]? = some b → ltU b s = true) ∧ ∀ b, l[i]? = some b → ltU b s = false) (fun Z1 hZ1 => ?_) ?_
 ·simp only [List.length_map,go_sem,reduceIte,zA,zB,zC,zD,zE,zF,reduceCtorEq]
  refine xloopL tt_ok [1,20000] [5] 1 [0,3,4] (fun vs => ((l.length : Int) - Go.Eng.intOf (vs.headD .undef)).toNat) (fun vs => ∃ i : Nat, vs = [num i] ∧ i ≤ l.length ∧ ∀ j < i, ∀ b, l[j]? = some b → ltU b s = true) (by omega) (by simp only [List.length_map,go_sem,reduceIte,zA,zB,zC,zD,zE,zF,reduceCtorEq]) (⟨0, rfl, Nat.zero_le _, fun j hj => absurd hj (Nat.not_lt_zero j)⟩) fun vs hI Z2 hZ2 => ?_
  obtain ⟨i, rfl, hi, hno⟩ := hI
  simp only [List.length_map,go_sem,reduceIte,zA,zB,zC,zD,zE,zF,reduceCtorEq]
  refine xmixL tt_ok mixed_ok [⟨.n, 0, [], [], []⟩, ⟨.n, 0, [], [], []⟩, ⟨.n, 0, [], [], []⟩, ⟨.n, 0, [], [], []⟩, ⟨.n, 0, [], [], []⟩, ⟨.n, 0, [], [], []⟩, ⟨.n, 0, [], [], []⟩, ⟨.r, 0, [], [], []⟩, ⟨.r, 0, [], [], []⟩, ⟨.r, 0, [], [], []⟩, ⟨.n, 0, [], [], []⟩, ⟨.n, 0, [], [], []⟩] 0 (by kernel_rfl) ?_
  simp only [List.length_map,go_sem,reduceIte,zA,zB,zC,zD,zE,zF,reduceCtorEq]
  refine gif (fun hb2_4 => ?_) (fun hb2_4 => ?_)
  ·have hlt : i < l.length := by have := of_decide_eq_true hb2_4; omega
   obtain ⟨x, hx⟩ : ∃ x, l[i]? = some x := ⟨_, List.getElem?_eq_getElem hlt⟩
   have hw := i64_succ i (by omega)
   simp only [List.getElem?_map,hx,hw,encU,ev_useql,List.length_map,go_sem,reduceIte,zA,zB,zC,zD,zE,zF,reduceCtorEq]
   refine cG (by have h := less_ok x s; simp only [encU] at h; exact h) ?_
   rintro _ rfl
   simp only [List.getElem?_map,hx,hw,encU,ev_useql,List.length_map,go_sem,reduceIte,zA,zB,zC,zD,zE,zF,reduceCtorEq]
   refine gif (fun hc17 => ?_) (fun hc17 => ?_)
   ·have hxs : ltU x s = true := by simpa using hc17
    simp only [List.getElem?_map,hx,hw,encU,ev_useql,List.length_map,go_sem,reduceIte,zA,zB,zC,zD,zE,zF,reduceCtorEq]
    refine hZ2 _ (endK (by omega) (by simp only [List.getElem?_map,hx,hw,encU,ev_useql,List.length_map,go_sem,reduceIte,zA,zB,zC,zD,zE,zF,reduceCtorEq]) ?_ ?_) <;> simp only [lks,lk,reduceIte,zE]
    ·refine ⟨i + 1, rfl, hlt, fun j hj b hb => ?_⟩
     rcases Nat.lt_or_ge j i with h | h
     ·exact hno j h b hb
     ·obtain rfl : j = i := by omega
      rw [hx] at hb; cases hb; exact hxs
    ·simp only [Go.Eng.intOf,List.headD_cons]; omega
   ·have hge : ∀ b, l[i]? = some b → ltU b s = false := fun b hb => by rw [hx] at hb; cases hb; simpa using hc17
    simp only [List.getElem?_map,hx,hw,encU,ev_useql,List.length_map,go_sem,reduceIte,zA,zB,zC,zD,zE,zF,reduceCtorEq]
    refine hZ1 _ (endJ (by omega) (by simp only [List.getElem?_map,hx,hw,encU,ev_useql,List.length_map,go_sem,reduceIte,zA,zB,zC,zD,zE,zF,reduceCtorEq]) ?_)
    simp only [lks,lk,reduceIte,zE]
    exact ⟨i, rfl, hi, hno, hge⟩
  ·have hge : ∀ b, l[i]? = some b → ltU b s = false := fun b hb => by have := (List.getElem?_eq_some_iff.1 hb).1; have := of_decide_eq_false hb2_4; omega
   simp only [List.length_map,go_sem,reduceIte,zA,zB,zC,zD,zE,zF,reduceCtorEq]
   refine hZ1 _ (endJ (by omega) (by simp only [List.length_map,go_sem,reduceIte,zA,zB,zC,zD,zE,zF,reduceCtorEq]) ?_)
   simp only [lks,lk,reduceIte,zE]
   exact ⟨i, rfl, hi, hno, hge⟩
 ·intro vs hJ
  obtain ⟨i, rfl, hi, hno, hge⟩ := hJ
  have hins := insL_at hno hi hge
  simp only [List.length_map,go_sem,reduceIte,zA,zB,zC,zD,zE,zF,reduceCtorEq]
  refine xmixL tt_ok mixed_ok [⟨.n, 0, [], [], []⟩, ⟨.n, 0, [], [], []⟩, ⟨.n, 0, [], [], []⟩, ⟨.n, 0, [], [], []⟩, ⟨.n, 0, [], [], []⟩, ⟨.n, 0, [], [], []⟩, ⟨.n, 0, [], [], []⟩, ⟨.r, 0, [], [], []⟩, ⟨.r, 0, [], [], []⟩, ⟨.r, 0, [], [], []⟩, ⟨.n, 0, [], [], []⟩, ⟨.n, 0, [], [], []⟩] 0 (by kernel_rfl) ?_
  simp only [List.length_map,go_sem,reduceIte,zA,zB,zC,zD,zE,zF,reduceCtorEq]
  refine gif (fun hb4_4 => ?_) (fun hb4_4 => ?_)
  ·have hlt : i < l.length := by have := of_decide_eq_true hb4_4; omega
   obtain ⟨x, hx⟩ : ∃ x, l[i]? = some x := ⟨_, List.getElem?_eq_getElem hlt⟩
   simp only [List.getElem?_map,hx,encU,ev_useql,List.length_map,go_sem,reduceIte,zA,zB,zC,zD,zE,zF,reduceCtorEq]
   refine gif (fun hc31 => ?_) (fun hc31 => ?_)
   ·have hxs : x = s := by simpa using hc31
    have hres : V.slice (l.map encU) = .slice ((insL ltU l s).map encU) := by rw [hins, if_pos (by rw [hx, hxs])]
    simp only [List.getElem?_map,hx,encU,ev_useql,List.length_map,go_sem,reduceIte,zA,zB,zC,zD,zE,zF,reduceCtorEq]
    first
     | exact hK _ hres
     | (refine hK _ ?_; rw [← hres, List.take_of_length_le (by simp; omega)]; simp [encU])
   ·have hxs : ¬ x = s := by simpa using hc31
    have hns : ¬ l[i]? = some s := by rw [hx]; exact fun e => hxs (Option.some.inj e)
    have hres : (V.slice (((l.take i) ++ [s] ++ (l.drop i)).map encU)) = .slice ((insL ltU l s).map encU) := by rw [hins, if_neg hns]
    have hc1 := fun mem => cutTo2 l encU 2 (fun _ => rfl) i hi mem
    have hc2 := fun mem => cutFrom2 l encU 2 (fun _ => rfl) i hi mem
    have hf1 := fun (k : List Us) => firstMap k encU 2 (fun _ => rfl)
    have hf2 : firstOk [V.agg [V.sc (.string s.1), V.sc (.string s.2)]] 0 2 = true := rfl
    have hle1 : (l.take i).length ≤ 34359738368 := by rw [List.length_take]; omega
    have hle2 : (l.take i).length + 1 ≤ 34359738368 := by rw [List.length_take]; omega
    have hle3 : (l.take i).length + 1 + (l.drop i).length ≤ 34359738368 := by rw [List.length_take, List.length_drop]; omega
    simp only [List.getElem?_map,hx,encU,ev_useql,hc1,hc2,hf1,hf2,List.length_append,List.length_cons,List.length_nil,Nat.zero_add,hle1,hle2,hle3,hle1,List.length_map,go_sem,reduceIte,zA,zB,zC,zD,zE,zF,reduceCtorEq]
    refine xmixL tt_ok mixed_ok [⟨.a, 0, [], [], []⟩, ⟨.n, 0, [], [], []⟩, ⟨.n, 0, [], [], []⟩, ⟨.r, 0, [0], [1,2], []⟩, ⟨.w, 1, [], [0,1,2,3], []⟩, ⟨.b, 0, [], [], []⟩, ⟨.n, 0, [], [5], []⟩, ⟨.w, 2, [], [0,1,2,3,4,5,6], []⟩, ⟨.n, 0, [], [], []⟩, ⟨.n, 0, [], [], []⟩, ⟨.n, 0, [], [8,9], []⟩, ⟨.w, 3, [], [0,1,2,3,4,5,6,7,8,9,10], []⟩, ⟨.n, 0, [], [0,1,2,3,4,5,6,7,8,9,10,11], []⟩] 4 (by kernel_rfl) ?_
    simp only [List.getElem?_map,hx,encU,ev_useql,hc1,hc2,hf1,hf2,List.length_append,List.length_cons,List.length_nil,Nat.zero_add,hle1,hle2,hle3,hle1,List.length_map,go_sem,reduceIte,zA,zB,zC,zD,zE,zF,reduceCtorEq]
    first
     | exact hK _ hres
     | (refine hK _ ?_; rw [← hres, List.take_of_length_le (by simp; omega)]; simp [encU])
  ·have hns : ¬ l[i]? = some s := fun h => by have := (List.getElem?_eq_some_iff.1 h).1; have := of_decide_eq_false hb4_4; omega
   have hres : (V.slice (((l.take i) ++ [s] ++ (l.drop i)).map encU)) = .slice ((insL ltU l s).map encU) := by rw [hins, if_neg hns]
   have hc1 := fun mem => cutTo2 l encU 2 (fun _ => rfl) i hi mem
   have hc2 := fun mem => cutFrom2 l encU 2 (fun _ => rfl) i hi mem
   have hf1 := fun (k : List Us) => firstMap k encU 2 (fun _ => rfl)
   have hf2 : firstOk [V.agg [V.sc (.string s.1), V.sc (.string s.2)]] 0 2 = true := rfl
   have hle1 : (l.take i).length ≤ 34359738368 := by rw [List.length_take]; omega
   have hle2 : (l.take i).length + 1 ≤ 34359738368 := by rw [List.length_take]; omega
   have hle3 : (l.take i).length + 1 + (l.drop i).length ≤ 34359738368 := by rw [List.length_take, List.length_drop]; omega
   simp only [hc1,hc2,hf1,hf2,List.length_append,List.length_cons,List.length_nil,Nat.zero_add,hle1,hle2,hle3,hle1,List.length_map,go_sem,reduceIte,zA,zB,zC,zD,zE,zF,reduceCtorEq]
   refine xmixL tt_ok mixed_ok [⟨.a, 0, [], [], []⟩, ⟨.n, 0, [], [], []⟩, ⟨.n, 0, [], [], []⟩, ⟨.r, 0, [0], [1,2], []⟩, ⟨.w, 1, [], [0,1,2,3], []⟩, ⟨.b, 0, [], [], []⟩, ⟨.n, 0, [], [5], []⟩, ⟨.w, 2, [], [0,1,2,3,4,5,6], []⟩, ⟨.n, 0, [], [], []⟩, ⟨.n, 0, [], [], []⟩, ⟨.n, 0, [], [8,9], []⟩, ⟨.w, 3, [], [0,1,2,3,4,5,6,7,8,9,10], []⟩, ⟨.n, 0, [], [0,1,2,3,4,5,6,7,8,9,10,11], []⟩] 4 (by kernel_rfl) ?_
   simp only [hc1,hc2,hf1,hf2,List.length_append,List.length_cons,List.length_nil,Nat.zero_add,hle1,hle2,hle3,hle1,List.length_map,go_sem,reduceIte,zA,zB,zC,zD,zE,zF,reduceCtorEq]
   first
    | exact hK _ hres
    | (refine hK _ ?_; rw [← hres, List.take_of_length_le (by simp; omega)]; simp [encU])
end Go.Proofs.YtefbaladomfccaaGreatDoor
end

section
namespace Go.Proofs.YtefbaladomfccaaGreatDoor
open Go.Eng
open Nat renaming reduceAdd → zA, reduceLT → zB, reduceLeDiff → zC, reduceMul → zD, reduceEqDiff → zE, reduceSub → zF
variable [Glob]
set_option maxHeartbeats 4000000
set_option maxRecDepth 100000
theorem insAll_app {α : Type} [DecidableEq α] (lt : α → α → Bool) (l a b : List α) : insAll lt l (a ++ b) = insAll lt (insAll lt l a) b := by unfold insAll; rw [List.foldl_append]
theorem insL_len {α : Type} [DecidableEq α] (lt : α → α → Bool) : ∀ (l : List α) (s : α), (insL lt l s).length ≤ l.length + 1
 | [], s => by simp [insL]
 | a :: r, s => by
  unfold insL
  split
  ·have := insL_len lt r s; simp only [List.length_cons]; omega
  ·split <;> simp
theorem insAll_len {α : Type} [DecidableEq α] (lt : α → α → Bool) : ∀ (m l : List α), (insAll lt l m).length ≤ l.length + m.length
 | [], l => Nat.le_refl _
 | s :: m, l => by
  have h1 := insAll_len lt m (insL lt l s)
  have h2 := insL_len lt l s
  show (insAll lt (insL lt l s) m).length ≤ _
  rw [List.length_cons]; omega
theorem kids_wt (look : Us → Option Dc) (e : Ex) (i : Nat) : ((e.kids.take i).flatMap (usedE look)).length + (ownU look e).length ≤ e.wt := by
 have h := usedE_len look e
 rw [usedE_eq, List.length_append] at h
 have h2 : ((e.kids.take i).flatMap (usedE look)).length ≤ (e.kids.flatMap (usedE look)).length := by
  conv => rhs; rw [← List.take_append_drop i e.kids]
  rw [List.flatMap_append, List.length_append]; omega
 omega
theorem usedE_bound (look : Us → Option Dc) (e : Ex) (i : Nat) {y : Ex} (hy : e.kids[i]? = some y) : (ownU look e).length + ((e.kids.take i).flatMap (usedE look)).length + y.wt ≤ e.wt := by
 have key : ∀ (ks : List Ex) (i : Nat), ks[i]? = some y → ((ks.take i).flatMap (usedE look)).length + y.wt ≤ wtExs ks := by
  intro ks
  induction ks with
  | nil => intro i h; simp at h
  | cons a r ih =>
   intro i h
   cases i with
   | zero => simp at h; subst h; simp [wtExs]
   | succ i =>
    have := ih i (by simpa using h)
    have h2 := usedE_len look a
    rw [List.take_succ_cons, List.flatMap_cons, List.length_append]
    simp only [wtExs]; omega
 have h1 := key e.kids i hy
 have h2 := ownU_len look e
 obtain ⟨k, m, n, t, z, ts, ls, ks⟩ := e
 simp only [Ex.wt] at h1 ⊢
 simp only [Ex.kids] at h1 ⊢
 omega
theorem rcol_step (p : List Md) (hl : p.length ≤ 1048576) (hw : ∀ m ∈ p, m.wt ≤ 1048576) (N : Nat) (ih : ∀ (e : Ex) (out : List Us), e.wt ≤ N → out.length + e.wt ≤ 1048576 → ∃ r_, (fun w => w = V.slice ((insAll ltU out (usedE (declP p) e)).map encU)) r_ ∧ FnOk Tryz.prog 79 [.slice (p.map encMd), encEx e, .slice (out.map encU)] r_) (e : Ex) (out : List Us) (hN : e.wt ≤ N + 1) (hb : out.length + e.wt ≤ 1048576) : ∃ r_, (fun w => w = .slice ((insAll ltU out (usedE (declP p) e)).map encU)) r_ ∧ FnOk Tryz.prog 79 [.slice (p.map encMd), encEx e, .slice (out.map encU)] r_ := by
 refine vfn tt_ok [30000] 43 [.tmp 6] (fn := Tryz.f79) Tryz.func79 rfl Tryz.call79 ⟨rfl, rfl, by simp⟩ fun K hK => ?_
 have hln := e.wt_lens
 have hpos := e.wt_pos
 rw [encEx_eq]
 simp only [exCells]
 simp only [List.length_map,length_encExs,go_sem,reduceIte,zA,zB,zC,zD,zE,zF,reduceCtorEq]
 refine xjoin tt_ok [30000] [2] 1 [0,1,4,6] (fun vs => vs = [.slice ((insAll ltU out (ownU (declP p) e)).map encU)]) (fun Z1 hZ1 => ?_) ?_
 ·simp only [List.length_map,length_encExs,go_sem,reduceIte,zA,zB,zC,zD,zE,zF,reduceCtorEq]
  refine gif (fun hc12 => ?_) (fun hc12 => ?_)
  ·rcases hld : leads (declP p) (e.mod, e.name) with _ | v
   ·have hO : insAll ltU out (ownU (declP p) e) = out := by unfold ownU; rw [hc12, hld]; rfl
    simp only [List.length_map,length_encExs,go_sem,reduceIte,zA,zB,zC,zD,zE,zF,reduceCtorEq]
    refine cF (by have h := leads_ok p (e.mod, e.name) hl hw; rw [lead_no hld] at h; simp only [encU] at h; exact h) ?_
    rintro _ rfl
    simp only [List.length_map,length_encExs,go_sem,reduceIte,zA,zB,zC,zD,zE,zF,reduceCtorEq]
    refine hZ1 _ (endJ (by omega) (by simp only [List.length_map,length_encExs,go_sem,reduceIte,zA,zB,zC,zD,zE,zF,reduceCtorEq]) ?_)
    simp only [lks,lk,reduceIte,zE]
    simp only [hO]
   ·have hO : insAll ltU out (ownU (declP p) e) = insL ltU out v := by unfold ownU; rw [hc12, hld]; rfl
    simp only [List.length_map,length_encExs,go_sem,reduceIte,zA,zB,zC,zD,zE,zF,reduceCtorEq]
    refine cF (by have h := leads_ok p (e.mod, e.name) hl hw; rw [lead_yes hld] at h; simp only [encU] at h; exact h) ?_
    rintro _ rfl
    simp only [List.length_map,length_encExs,go_sem,reduceIte,zA,zB,zC,zD,zE,zF,reduceCtorEq]
    refine cF (by have h := iu_ok out v (by omega); simp only [encU] at h; exact h) ?_
    rintro _ rfl
    simp only [List.length_map,length_encExs,go_sem,reduceIte,zA,zB,zC,zD,zE,zF,reduceCtorEq]
    refine hZ1 _ (endJ (by omega) (by simp only [List.length_map,length_encExs,go_sem,reduceIte,zA,zB,zC,zD,zE,zF,reduceCtorEq]) ?_)
    simp only [lks,lk,reduceIte,zE]
    simp only [hO]
  ·have hO : insAll ltU out (ownU (declP p) e) = out := by unfold ownU; rw [hc12]; rfl
   simp only [List.length_map,length_encExs,go_sem,reduceIte,zA,zB,zC,zD,zE,zF,reduceCtorEq]
   refine hZ1 _ (endJ (by omega) (by simp only [List.length_map,length_encExs,go_sem,reduceIte,zA,zB,zC,zD,zE,zF,reduceCtorEq]) ?_)
   simp only [lks,lk,reduceIte,zE]
   simp only [hO]
 ·intro vs hJ
  subst hJ
  simp only [List.length_map,length_encExs,go_sem,reduceIte,zA,zB,zC,zD,zE,zF,reduceCtorEq]
  refine sq tt_ok [30000] ?_
  simp only [List.length_map,length_encExs,go_sem,reduceIte,zA,zB,zC,zD,zE,zF,reduceCtorEq]
  refine xloopL tt_ok [30000] [9,2] 1 [0,4,6,12,23] (fun vs => ((e.kids.length : Int) - Go.Eng.intOf (vs.headD .undef)).toNat) (fun vs => ∃ i : Nat, vs = [num i, .slice ((insAll ltU (insAll ltU out (ownU (declP p) e)) ((e.kids.take i).flatMap (usedE (declP p)))).map encU)] ∧ i ≤ e.kids.length) (by omega) (by simp only [List.length_map,length_encExs,go_sem,reduceIte,zA,zB,zC,zD,zE,zF,reduceCtorEq]) (⟨0, rfl, Nat.zero_le _⟩) fun vs hI Z2 hZ2 => ?_
  obtain ⟨i, rfl, hi⟩ := hI
  simp only [List.length_map,length_encExs,go_sem,reduceIte,zA,zB,zC,zD,zE,zF,reduceCtorEq]
  refine sq tt_ok [30000] ?_
  simp only [List.length_map,length_encExs,go_sem,reduceIte,zA,zB,zC,zD,zE,zF,reduceCtorEq]
  refine gif (fun hc31 => ?_) (fun hc31 => ?_)
  ·have hlti : i < e.kids.length := by simpa using hc31
   have hwi := i64_succ i (by omega)
   obtain ⟨y, hy⟩ : ∃ y, e.kids[i]? = some y := ⟨_, List.getElem?_eq_getElem hlti⟩
   have hnx : insAll ltU (insAll ltU out (ownU (declP p) e)) ((e.kids.take (i + 1)).flatMap (usedE (declP p))) = insAll ltU (insAll ltU (insAll ltU out (ownU (declP p) e)) ((e.kids.take i).flatMap (usedE (declP p)))) (usedE (declP p) y) := by rw [List.take_add_one, hy]; simp only [Option.toList_some,List.flatMap_append,insAll_app,List.flatMap_cons,List.flatMap_nil,List.append_nil]
   have hbk : (insAll ltU (insAll ltU out (ownU (declP p) e)) ((e.kids.take i).flatMap (usedE (declP p)))).length + y.wt ≤ 1048576 := by have h1 := kids_wt (declP p) e i; have h2 := insAll_len ltU (ownU (declP p) e) out; have h3 := insAll_len ltU ((e.kids.take i).flatMap (usedE (declP p))) (insAll ltU out (ownU (declP p) e)); have h4 := usedE_bound (declP p) e i hy; omega
   simp only [hwi,hy,get_encExs,encEx_eq,exCells,List.length_map,length_encExs,go_sem,reduceIte,zA,zB,zC,zD,zE,zF,reduceCtorEq]
   refine cF (by have h := ih y (insAll ltU (insAll ltU out (ownU (declP p) e)) ((e.kids.take i).flatMap (usedE (declP p)))) (by have h1 := Ex.wt_kid (List.mem_of_getElem? hy); omega) hbk; rw [encEx_eq] at h; simp only [exCells] at h; exact h) ?_
   rintro _ rfl
   simp only [hwi,hy,get_encExs,encEx_eq,exCells,List.length_map,length_encExs,go_sem,reduceIte,zA,zB,zC,zD,zE,zF,reduceCtorEq]
   refine hZ2 _ (endK (by omega) (by simp only [hwi,hy,get_encExs,encEx_eq,exCells,List.length_map,length_encExs,go_sem,reduceIte,zA,zB,zC,zD,zE,zF,reduceCtorEq]) ?_ ?_) <;> simp only [lks,lk,reduceIte,zE]
   ·exact ⟨i + 1, by rw [hnx], hlti⟩
   ·simp only [Go.Eng.intOf,List.headD_cons]; omega
  ·have hgei : i = e.kids.length := by have := of_decide_eq_false hc31; omega
   have hres : insAll ltU (insAll ltU out (ownU (declP p) e)) ((e.kids.take i).flatMap (usedE (declP p))) = insAll ltU out (usedE (declP p) e) := by rw [hgei, List.take_length, ← insAll_app, ← usedE_eq]
   simp only [List.length_map,length_encExs,go_sem,reduceIte,zA,zB,zC,zD,zE,zF,reduceCtorEq]
   exact hK _ (by rw [hres])
theorem rcol_ok (p : List Md) (hl : p.length ≤ 1048576) (hw : ∀ m ∈ p, m.wt ≤ 1048576) : ∀ (N : Nat) (e : Ex) (out : List Us), e.wt ≤ N → out.length + e.wt ≤ 1048576 → ∃ r_, (fun w => w = V.slice ((insAll ltU out (usedE (declP p) e)).map encU)) r_ ∧ FnOk Tryz.prog 79 [.slice (p.map encMd), encEx e, .slice (out.map encU)] r_ := by
 intro N
 induction N with
 | zero => intro e out h; have := e.wt_pos; omega
 | succ N ih => intro e out h hb; exact rcol_step p hl hw N ih e out h hb
def dirU (look : Us → Option Dc) (u : Us) : List Us := insAll ltU [] (usedE look ((look u).getD dz).expr)
def usesL (look : Us → Option Dc) (u : Us) : List Us := match leads look u with | none => [] | some v => dirU look v
def usesV (look : Us → Option Dc) (u : Us) : V := .slice ((usesL look u).map encU)
theorem usesL_no {look : Us → Option Dc} {u : Us} (h : leads look u = none) : V.slice [] = usesV look u := by unfold usesV usesL; rw [h]; rfl
theorem usesL_yes {look : Us → Option Dc} {u v : Us} (h : leads look u = some v) : V.slice ((dirU look v).map encU) = usesV look u := by unfold usesV usesL; rw [h]
theorem leadF_some {look : Us → Option Dc} : ∀ {n : Nat} {u v : Us}, leadF look n u = some v → ∃ d, look v = some d ∧ d.kind = 1
 | 0, u, v, h => by cases h
 | n + 1, u, v, h => by
  unfold leadF at h
  split at h
  ·cases h
  ·rename_i d hd
   split at h
   ·rename_i hk; cases h; exact ⟨d, hd, hk⟩
   ·split at h
    ·exact leadF_some h
    ·cases h
theorem leads_some {look : Us → Option Dc} {u v : Us} (h : leads look u = some v) : ∃ d, look v = some d ∧ d.kind = 1 := leadF_some h
theorem declP_wt {p : List Md} (hw : ∀ m ∈ p, m.wt ≤ 1048576) {u : Us} {d : Dc} (h : declP p u = some d) : d.wt ≤ 1048576 := by
 induction p with
 | nil => cases h
 | cons m r ih =>
  unfold declP at h
  split at h
  ·have hm := hw m (List.mem_cons_self ..)
   have h1 := mem_sum Dc.wt (List.mem_of_find?_eq_some h)
   have h2 : m.wt = 1 + m.path.size + sumBy Im.wt m.imports + sumBy Dc.wt m.decls := rfl
   omega
  ·exact ih (fun m hm => hw m (List.mem_cons_of_mem _ hm)) h
theorem ruses_ok (p : List Md) (u : Us) (hl : p.length ≤ 1048576) (hw : ∀ m ∈ p, m.wt ≤ 1048576) : ∃ r_, (fun w => w = usesV (declP p) u) r_ ∧ FnOk Tryz.prog 33 [.slice (p.map encMd), str u.1, str u.2] r_ := by
 refine vfn tt_ok [] 32 [.tmp 6] (fn := Tryz.f33) Tryz.func33 rfl Tryz.call33 ⟨rfl, rfl, by simp⟩ fun K hK => ?_
 rcases hld : leads (declP p) u with _ | v
 ·have hres := usesL_no hld
  simp only [List.length_map,go_sem,reduceIte,zA,zB,zC,zD,zE,zF,reduceCtorEq]
  refine cF (by have h := leads_ok p u hl hw; rw [lead_no hld] at h; simp only [encU] at h; exact h) ?_
  rintro _ rfl
  simp only [List.length_map,go_sem,reduceIte,zA,zB,zC,zD,zE,zF,reduceCtorEq]
  exact hK _ hres
 ·obtain ⟨d, hlu, hdk⟩ := leads_some hld
  have hdw := declP_wt hw hlu
  have hde : ([] : List Us).length + d.expr.wt ≤ 1048576 := by have h := hdw; unfold Dc.wt at h; rw [List.length_nil]; omega
  have hres := usesL_yes hld
  have hdir : dirU (declP p) v = insAll ltU [] (usedE (declP p) d.expr) := by unfold dirU; rw [hlu]; rfl
  rw [hdir] at hres
  simp only [List.length_map,go_sem,reduceIte,zA,zB,zC,zD,zE,zF,reduceCtorEq]
  refine cF (by have h := leads_ok p u hl hw; rw [lead_yes hld] at h; simp only [encU] at h; exact h) ?_
  rintro _ rfl
  simp only [List.length_map,go_sem,reduceIte,zA,zB,zC,zD,zE,zF,reduceCtorEq]
  refine cF (by have h := decl_ok p v hl hw; rw [decl_yes hlu, encDc_eq] at h; simp only [ltb,encU,dcCells,tyCells,exCells] at h; exact h) ?_
  rintro _ rfl
  simp only [List.length_map,go_sem,reduceIte,zA,zB,zC,zD,zE,zF,reduceCtorEq]
  refine cF (by have h := rcol_ok p hl hw d.expr.wt d.expr [] (Nat.le_refl _) hde; rw [encEx_eq] at h; simp only [exCells] at h; exact h) ?_
  rintro _ rfl
  simp only [List.length_map,go_sem,reduceIte,zA,zB,zC,zD,zE,zF,reduceCtorEq]
  exact hK _ hres
end Go.Proofs.YtefbaladomfccaaGreatDoor
end

section
namespace Go.Proofs.YtefbaladomfccaaGreatDoor
open Go.Eng
open Nat renaming reduceAdd → zA, reduceLT → zB, reduceLeDiff → zC, reduceMul → zD, reduceEqDiff → zE, reduceSub → zF
variable [Glob]
set_option maxHeartbeats 4000000
set_option maxRecDepth 100000
theorem asc_dd {l l' : List Us} (hp : l'.Perm l) (hs : ∀ (i j : Nat) (x y : Us), i < j → l'[i]? = some x → l'[j]? = some y → ltU y x = false) : dd l' = insAll ltU [] l :=
  Asc.ext lin_us (dd_asc lin_us hs) (insAll_asc lin_us List.Pairwise.nil) fun x => by rw [dd_mem, insAll_mem, hp.mem_iff]; simp
theorem direct_ok (g : GD) (u : Us) (d : Dc) (hlu : lookU u g = some d) (m : List Blk) (k : Nat) (hk : m[k]? = some (.map (mkM usV 0 (encG g)) (encG g).length)) (hb : m.all (belowB m.length) = true) (hw : d.wt ≤ 1048576) :
    FnOkS Tryz.prog 77 [.mp k, encU u] m (.slice ((insAll ltU [] (usedG g d.expr)).map encU)) m := by
  have hlk : k < m.length := (List.getElem?_eq_some_iff.1 hk).1
  have hul : (usedG g d.expr).length ≤ d.expr.wt := usedE_len (fun v => lookU v g) d.expr
  have hwe : d.expr.wt ≤ 1048576 := by have h : 1 + d.expr.wt ≤ d.wt := by { unfold Dc.wt; omega }
                                       omega
  have hlook : ∀ B : Blk, lookupV Tryz.prog (m ++ [B]) 94 (.mp k) (.agg [str u.1, str u.2]) false = some (encDc d) := fun B => by
    rw [lookD u g (mem := m ++ [B]) (b := k) (by rw [List.getElem?_append_left hlk]; exact hk) false, hlu]; rfl
  have hus := used_ok d.expr (m ++ [.box [str u.1, str u.2]]) k (by simp; omega) (by rw [List.all_append, Bool.and_eq_true]; exact ⟨belowBs_mono (by simp) hb, by simp [belowB, belowV]⟩)
  have hco := acoll_ok g d.expr (m ++ [.box [str u.1, str u.2]] ++ [.box [.mp k], .box (exCells d.expr)]) (m.length + 1) (m.length + 2) k (by rw [List.append_assoc, List.getElem?_append_right (by omega), Nat.add_sub_cancel_left]; rfl) (by rw [List.append_assoc, List.getElem?_append_left hlk]; exact hk) (by rw [List.append_assoc, List.getElem?_append_right (by omega), Nat.add_sub_cancel_left]; rfl) hwe (by
    rw [List.all_append, List.all_append, Bool.and_eq_true, Bool.and_eq_true]
    exact ⟨⟨belowBs_mono (by simp) hb, by simp [belowB, belowV]⟩, by simp [belowB, belowV, belowL, exCells]; omega⟩)
  rw [encDc_eq] at hlook
  simp only [ltb,dcCells,tyCells,exCells] at hlook
  rw [encEx_eq] at hus
  simp only [ltb,exCells,List.length_append,List.length_cons,List.length_nil,List.append_assoc,Nat.zero_add,zA,Nat.add_assoc] at hus hco
  have a0 : ∀ l : List Blk, (m ++ l)[m.length]? = l[0]? := fun l => by rw [List.getElem?_append_right (by omega), Nat.sub_self]
  have a4 : ∀ l : List Blk, (m ++ l)[m.length + 4]? = l[4]? := fun l => by rw [List.getElem?_append_right (by omega), Nat.add_sub_cancel_left]
  have s0 : ∀ (l : List Blk) X, (m ++ l).set (m.length) X = m ++ l.set 0 X := fun l X => by rw [List.set_append_right _ _ (by omega), Nat.sub_self]
  have s4 : ∀ (l : List Blk) X, (m ++ l).set (m.length + 4) X = m ++ l.set 4 X := fun l X => by rw [List.set_append_right _ _ (by omega), Nat.add_sub_cancel_left]
  refine fns_ok tt_ok (fn := Tryz.f77) m.length (Nat.le_refl _) Tryz.func77 rfl Tryz.call77 ?_
  simp only [ltb,startSt,Tryz.ntmps77,List.length_cons,List.length_nil,zA,zF,List.replicate_succ,List.replicate_zero]
  simp only [encU]
  refine tri_seq_region tt_ok fun K hK => ?_
  simp only [a0,go_sem,reduceIte,zA,zB,zC,zD,zE,zF,reduceCtorEq]
  refine hK _ ?_
  obtain ⟨L, hL⟩ : ∃ L, L = usedG g d.expr := ⟨_, rfl⟩
  rw [← hL] at hul hco ⊢
  refine tri_seq_region tt_ok fun K hK => ?_
  simp only [a0,hlook,List.length_append,List.append_assoc,go_sem,reduceIte,zA,zB,zC,zD,zE,zF,reduceCtorEq]
  refine .inr <| .inl ⟨_, _, hus, ?_⟩
  try simp only [go_sem,reduceIte,zA,zB,zC,zD,zE,zF,reduceCtorEq]
  refine .inr <| .inl ⟨_, _, hco, ?_⟩
  try simp only [go_sem,reduceIte,zA,zB,zC,zD,zE,zF,reduceCtorEq]
  refine hK _ ?_
  refine tri_seq_region tt_ok fun K hK => ?_
  simp only [go_sem,reduceIte,zA,zB,zC,zD,zE,zF,reduceCtorEq]
  refine .inr <| .inr <| .inl ⟨_, sortC_ok _ (m.length + 4) L.length L (by rw [a4]; rfl) (by omega), ?_⟩
  rintro r m' ⟨rfl, l', hp, hs, rfl⟩
  try simp only [go_sem,reduceIte,zA,zB,zC,zD,zE,zF,reduceCtorEq]
  refine hK _ ?_
  have hll : l'.length = L.length := hp.length_eq
  have hcp := compactU_ok (m ++ [.box [str u.1, str u.2], .box [.mp k], .box (exCells d.expr), .box [.ms (m.length + 4) L.length 0 L.length], .rows L.length 2 (L.map encU)]) (m.length + 4) L.length (by simp) (by
    rw [List.all_append, Bool.and_eq_true]
    exact ⟨belowBs_mono (by simp) hb, by simp [belowB, belowV, belowL, exCells]; omega⟩) l' (by omega)
  rw [hll, asc_dd hp hs] at hcp
  simp only [exCells] at hcp
  refine tri_seq_region tt_ok fun K hK => ?_
  simp only [go_sem,reduceIte,zA,zB,zC,zD,zE,zF,reduceCtorEq]
  refine .inr <| .inl ⟨_, _, hcp, ?_⟩
  try simp only [go_sem,reduceIte,zA,zB,zC,zD,zE,zF,reduceCtorEq]
  refine hK _ ?_
  simp only [s4,List.set_cons_succ,List.set_cons_zero]
  have hfz : ∀ rows v, (frzAll (m ++ [.box [str u.1, str u.2], .box [.mp k], .box [num d.expr.kind, str d.expr.mod, str d.expr.name, str d.expr.text, num d.expr.num, .slice (encTys d.expr.types), .slice (d.expr.labels.map encLb), .slice (encExs d.expr.kids)], .box [.ms (m.length + 4) L.length 0 L.length], .rows L.length 2 rows]) (ref1 (V.ms (m.length + 4) L.length 0 v))).take m.length = m := fun rows v => by
    simp [frzAll, frz1, ref1, refCell, a4, s4]
  refine tri_frz (v' := .slice ((insAll ltU [] L).map encU)) 4 rfl (by simp only [pur1,purCell,a4]; simp; exact List.take_of_length_le (by simp)) ?_
  refine tri_ret ⟨.inl rfl, rfl, by simp [belowV, belowL], ?_, ?_⟩
  · dsimp only; rw [hfz]; exact hb
  · dsimp only; rw [hfz]
end Go.Proofs.YtefbaladomfccaaGreatDoor
end

section
namespace Go.Proofs.YtefbaladomfccaaGreatDoor
open Go.Eng
open Nat renaming reduceAdd → zA, reduceLT → zB, reduceLeDiff → zC, reduceMul → zD, reduceEqDiff → zE, reduceSub → zF
variable [Glob]
set_option maxHeartbeats 4000000
set_option maxRecDepth 100000
section
variable {u : Us}
theorem lookU_snoc (g : GD) (e : Us × Dc) : lookU u (g ++ [e]) = match lookU u g with | some d => some d | none => if e.1 = u then some e.2 else none := by
 unfold lookU
 rw [List.find?_append]
 cases hf : g.find? (fun e => decide (e.1 = u)) with
 | some x => rfl
 | none =>
  simp only [Option.none_or,Option.map_none]
  by_cases h : e.1 = u
  ·rw [List.find?_cons_of_pos (by simpa using h), if_pos h]; rfl
  ·rw [List.find?_cons_of_neg (by simpa using h), if_neg h]; rfl
theorem look_decls (path : ByteArray) : ∀ (l : List Dc) (g : GD), lookU u (l.foldl (stepD path) g) = match lookU u g with | some d => some d | none => if path = u.1 then l.find? (fun d => decide (d.name = u.2)) else none
 | [], g => by
  cases h : lookU u g with
  | some d => simp [h]
  | none => simp [h]
 | d :: l, g => by
  rw [List.foldl_cons, look_decls path l]
  unfold stepD
  cases hs : (lookU (path, d.name) g).isSome with
  | true =>
   rw [if_pos rfl]
   cases h : lookU u g with
   | some x => rfl
   | none =>
    dsimp only
    by_cases hp : path = u.1
    ·rw [if_pos hp, if_pos hp]
     have hn : ¬ d.name = u.2 := fun e => by rw [hp, e] at hs; rw [show (u.1, u.2) = u from rfl, h] at hs; cases hs
     rw [List.find?_cons_of_neg (by simpa using hn)]
    ·rw [if_neg hp, if_neg hp]
  | false =>
   rw [if_neg (by decide), lookU_snoc]
   cases h : lookU u g with
   | some x => rfl
   | none =>
    dsimp only
    by_cases hp : path = u.1
    ·rw [if_pos hp, if_pos hp]
     by_cases hn : d.name = u.2
     ·rw [if_pos (by rw [hp, hn]), List.find?_cons_of_pos (by simpa using hn)]
     ·rw [if_neg (fun e => hn (by rw [← e])), List.find?_cons_of_neg (by simpa using hn)]
    ·rw [if_neg (fun e => hp (by rw [← e])), if_neg hp]
     dsimp only
     rw [if_neg hp]
theorem hasS_snoc (l : List ByteArray) (s t : ByteArray) : hasS (l ++ [t]) s = (hasS l s || decide (t = s)) := by unfold hasS; rw [List.any_append]; simp
theorem look_mds : ∀ (p : List Md) (S : List ByteArray) (g : GD), ((lookU u g).isSome = true → hasS S u.1 = true) → lookU u (p.foldl stepMd (S, g)).2 = match lookU u g with | some d => some d | none => if hasS S u.1 = true then none else declP p u
 | [], S, g, h => by
  cases hl : lookU u g with
  | some d => simp [hl]
  | none => simp only [List.foldl_nil,hl,declP]; split <;> rfl
 | m :: p, S, g, h => by
  rw [List.foldl_cons]
  unfold stepMd
  dsimp only
  cases hs : hasS S m.path with
  | true =>
   rw [if_pos rfl]
   have ih := look_mds p S g h
   refine ih.trans ?_
   cases hl : lookU u g with
   | some d => rfl
   | none =>
    dsimp only
    by_cases hu : hasS S u.1 = true
    ·rw [if_pos hu, if_pos hu]
    ·rw [if_neg hu, if_neg hu, declP, if_neg (fun e => hu (by rw [← e]; exact hs))]
  | false =>
   rw [if_neg (by decide)]
   have hd := look_decls (u := u) m.path m.decls g
   have ih := look_mds p (S ++ [m.path]) (m.decls.foldl (stepD m.path) g) (fun hi => by
    rw [hasS_snoc]
    cases hl : lookU u g with
    | some d => rw [h (by rw [hl]; rfl)]; rfl
    | none =>
     rw [hd, hl] at hi
     dsimp only at hi
     by_cases hp : m.path = u.1
     ·rw [decide_eq_true hp, Bool.or_true]
     ·rw [if_neg hp] at hi; cases hi)
   refine ih.trans ?_
   rw [hd]
   cases hl : lookU u g with
   | some d => rfl
   | none =>
    dsimp only
    rw [hasS_snoc]
    by_cases hp : m.path = u.1
    ·rw [if_pos hp, decide_eq_true hp, Bool.or_true, if_pos rfl, ← hp, hs, if_neg (by decide), declP, if_pos hp]
     cases m.decls.find? (fun d => decide (d.name = u.2)) <;> rfl
    ·rw [if_neg hp, decide_eq_false hp, Bool.or_false, declP, if_neg hp]
end
theorem look_eq (p : List Md) : (fun v => lookU v (decG p)) = declP p := by
 funext u
 have h := look_mds (u := u) p [] [] (fun h => by cases h)
 unfold decG mdsO
 rw [List.take_length, h]
 rfl
theorem dirU_len {p : List Md} (hw : ∀ m ∈ p, m.wt ≤ 1048576) {v : Us} {d : Dc} (h : declP p v = some d) : (dirU (declP p) v).length ≤ 1048576 := by
 unfold dirU
 have h1 := insAll_len ltU (usedE (declP p) ((declP p v).getD dz).expr) []
 rw [h] at h1 ⊢
 rw [Option.getD_some] at h1 ⊢
 have h2 := usedE_len (declP p) d.expr
 have h3 := declP_wt hw h
 have h4 : 1 + d.expr.wt ≤ d.wt := by unfold Dc.wt; omega
 rw [List.length_nil] at h1
 omega
theorem usesL_len {p : List Md} (hw : ∀ m ∈ p, m.wt ≤ 1048576) (u : Us) : (usesL (declP p) u).length ≤ 1048576 := by
 unfold usesL
 cases h : leads (declP p) u with
 | none => exact Nat.zero_le _
 | some v =>
  obtain ⟨d, hd, -⟩ := leads_some h
  exact dirU_len hw hd
theorem uses_ok (p : List Md) (u : Us) (hl : p.length ≤ 1048576) (hw : ∀ m ∈ p, m.wt ≤ 1048576) : ∃ r_, (fun w => w = usesV (declP p) u) r_ ∧ FnOk Tryz.prog 32 [.slice (p.map encMd), str u.1, str u.2] r_ := by
 refine vfn tt_ok [] 25 [.tmp 6] (fn := Tryz.f32) Tryz.func32 rfl Tryz.call32 ⟨rfl, rfl, by simp⟩ fun K hK => ?_
 simp only [List.length_map,go_sem,reduceIte,zA,zB,zC,zD,zE,zF,reduceCtorEq]
 refine cW (newDecls_ok p hl hw) ?_
 rintro _ _ ⟨rfl, rfl⟩
 rcases hld : leads (declP p) u with _ | v
 ·have hres := usesL_no hld
  simp only [List.length_map,go_sem,reduceIte,zA,zB,zC,zD,zE,zF,reduceCtorEq]
  refine cS (by have h := end_at (decG p) u [.map (mkM usV 0 (encG (decG p))) (encG (decG p)).length] 0 rfl; rw [look_eq, lead_no hld] at h; exact ⟨_, rfl, h⟩) ?_
  rintro _ rfl
  simp only [List.length_map,go_sem,reduceIte,zA,zB,zC,zD,zE,zF,reduceCtorEq]
  exact hK _ hres
 ·obtain ⟨d, hlu, hdk⟩ := leads_some hld
  have hdw := declP_wt hw hlu
  have hdir : insAll ltU [] (usedG (decG p) d.expr) = dirU (declP p) v := by unfold usedG dirU; rw [look_eq, hlu]; rfl
  have hres := usesL_yes hld
  simp only [List.length_map,go_sem,reduceIte,zA,zB,zC,zD,zE,zF,reduceCtorEq]
  refine cS (by have h := end_at (decG p) u [.map (mkM usV 0 (encG (decG p))) (encG (decG p)).length] 0 rfl; rw [look_eq, lead_yes hld] at h; exact ⟨_, rfl, h⟩) ?_
  rintro _ rfl
  simp only [List.length_map,go_sem,reduceIte,zA,zB,zC,zD,zE,zF,reduceCtorEq]
  refine cS (⟨_, rfl, by have h := direct_ok (decG p) v d (by have h2 := congrFun (look_eq p) v; exact h2.trans hlu) [.map (mkM usV 0 (encG (decG p))) (encG (decG p)).length, .box [str v.1, str v.2]] 0 rfl (by simp [belowB, belowV, encG_below]) hdw; rw [hdir] at h; simp only [encU] at h; exact h⟩) ?_
  rintro _ rfl
  simp only [List.length_map,go_sem,reduceIte,zA,zB,zC,zD,zE,zF,reduceCtorEq]
  exact hK _ hres
theorem sameUs_ok (a b : List Us) (hl : a.length ≤ 1048576) : ∃ r_, (fun w => w = bl (decide (a = b))) r_ ∧ FnOk Tryz.prog 31 [.slice (a.map encU), .slice (b.map encU)] r_ := by
 refine vfn tt_ok [] 26 [.tmp 4] (fn := Tryz.f31) Tryz.func31 rfl Tryz.call31 ⟨rfl, rfl, by simp⟩ fun K hK => ?_
 simp only [List.length_map,go_sem,reduceIte,zA,zB,zC,zD,zE,zF,reduceCtorEq]
 refine gif (fun hc10 => ?_) (fun hc10 => ?_)
 ·have hne : ¬ a = b := fun e => by subst e; simp at hc10
  have hres := decide_eq_false hne
  simp only [List.length_map,go_sem,reduceIte,zA,zB,zC,zD,zE,zF,reduceCtorEq]
  exact hK _ (by rw [hres])
 ·have hlen : a.length = b.length := by have h9 : (a.length : Int) = b.length := (by simpa using hc10); omega
  simp only [List.length_map,go_sem,reduceIte,zA,zB,zC,zD,zE,zF,reduceCtorEq]
  refine xloopL tt_ok [] [5] 0 [0,1,10] (fun vs => ((a.length : Int) - Go.Eng.intOf (vs.headD .undef)).toNat) (fun vs => ∃ i : Nat, vs = [num i] ∧ i ≤ a.length ∧ a.take i = b.take i) (by omega) (by simp only [List.length_map,go_sem,reduceIte,zA,zB,zC,zD,zE,zF,reduceCtorEq]) (⟨0, rfl, Nat.zero_le _, rfl⟩) fun vs hI Z1 hZ1 => ?_
  obtain ⟨i, rfl, hi, hst⟩ := hI
  simp only [List.length_map,go_sem,reduceIte,zA,zB,zC,zD,zE,zF,reduceCtorEq]
  refine gif (fun hc14 => ?_) (fun hc14 => ?_)
  ·have hlti : i < a.length := by simpa using hc14
   have hwi := i64_succ i (by omega)
   obtain ⟨x, hx⟩ : ∃ x, a[i]? = some x := ⟨_, List.getElem?_eq_getElem hlti⟩
   obtain ⟨y, hy⟩ : ∃ y, b[i]? = some y := ⟨_, List.getElem?_eq_getElem (by omega)⟩
   have hib : (i : Int) < (b.length : Int) := by omega
   simp only [hwi,hx,hy,hib,List.getElem?_map,encU,ev_usneq,List.length_map,go_sem,reduceIte,zA,zB,zC,zD,zE,zF,reduceCtorEq]
   refine xmixL tt_ok mixed_ok [⟨.n, 0, [], [], []⟩, ⟨.n, 0, [], [], []⟩, ⟨.r, 0, [], [], []⟩, ⟨.r, 0, [], [], []⟩, ⟨.n, 0, [], [], []⟩, ⟨.n, 0, [], [], []⟩, ⟨.r, 0, [], [], []⟩, ⟨.r, 0, [], [], []⟩, ⟨.n, 0, [], [], []⟩] 0 (by kernel_rfl) ?_
   simp only [hwi,hx,hy,hib,List.getElem?_map,encU,ev_usneq,List.length_map,go_sem,reduceIte,zA,zB,zC,zD,zE,zF,reduceCtorEq]
   refine gif (fun hc25 => ?_) (fun hc25 => ?_)
   ·have hxy : ¬ x = y := by simpa using hc25
    have hne : ¬ a = b := fun e => by subst e; rw [hx] at hy; exact hxy (Option.some.inj hy)
    have hres := decide_eq_false hne
    simp only [hwi,hx,hy,hib,List.getElem?_map,encU,ev_usneq,List.length_map,go_sem,reduceIte,zA,zB,zC,zD,zE,zF,reduceCtorEq]
    exact hK _ (by rw [hres])
   ·have hxy : x = y := by simpa using hc25
    simp only [hwi,hx,hy,hib,List.getElem?_map,encU,ev_usneq,List.length_map,go_sem,reduceIte,zA,zB,zC,zD,zE,zF,reduceCtorEq]
    refine hZ1 _ (endK (by omega) (by simp only [hwi,hx,hy,hib,List.getElem?_map,encU,ev_usneq,List.length_map,go_sem,reduceIte,zA,zB,zC,zD,zE,zF,reduceCtorEq]) ?_ ?_) <;> simp only [lks,lk,reduceIte,zE]
    ·exact ⟨i + 1, rfl, hlti, by rw [List.take_add_one, List.take_add_one, hst, hx, hy, hxy]⟩
    ·simp only [Go.Eng.intOf,List.headD_cons]; omega
  ·have hgei : i = a.length := by have := of_decide_eq_false hc14; omega
   have heq : a = b := by rw [hgei, List.take_length] at hst; rw [hst, hlen, List.take_length]
   have hres := decide_eq_true heq
   simp only [List.length_map,go_sem,reduceIte,zA,zB,zC,zD,zE,zF,reduceCtorEq]
   exact hK _ (by rw [hres])
end Go.Proofs.YtefbaladomfccaaGreatDoor
end

section
namespace Go.Proofs.YtefbaladomfccaaGreatDoor
open Go.Eng
open Nat renaming reduceAdd → zA, reduceLT → zB, reduceLeDiff → zC, reduceMul → zD, reduceEqDiff → zE, reduceSub → zF
variable [Glob]
set_option maxHeartbeats 4000000
set_option maxRecDepth 100000
theorem tys_snoc (ts : List Ty) (k : Int) (m n : ByteArray) (a : List Ty) (b : List Fd) : encTys ts ++ [V.agg [num k, str m, str n, .slice (encTys a), .slice (encFds b)]] = encTys (ts ++ [.mk k m n a b]) := by simp [encTys_map, encTy]
theorem first5 (a b c d e : V) (r : List V) : firstOk (.agg [a, b, c, d, e] :: r) 0 5 = true := rfl
theorem first_tyM (ts : List Ty) (n : Nat) : firstOk (ts.map encTy) n 5 = true := by rw [← encTys_map]; exact first_ty ts n
theorem map1 {α β : Type} (f : α → β) (l : List α) (a : α) : (l ++ [a]).map f = l.map f ++ [f a] := by simp
theorem len1 {α : Type} (l : List α) (a : α) : (l ++ [a]).length = l.length + 1 := by simp
def ownT (e : Ex) (j : Nat) : List Ty := e.types ++ (e.labels.take j).map Lb.ty
def Ex.own (e : Ex) : List Ty := if e.kind = 8 then ownT e e.labels.length else e.types
theorem ownT_zero (e : Ex) : ownT e 0 = e.types := by simp [ownT]
theorem ownT_succ {e : Ex} {j : Nat} {l : Lb} (h : e.labels[j]? = some l) : ownT e (j + 1) = ownT e j ++ [l.ty] := by unfold ownT; rw [List.take_add_one, h]; simp
theorem ownT_le (e : Ex) (j : Nat) : (ownT e j).length ≤ e.types.length + e.labels.length := by unfold ownT; rw [List.length_append, List.length_map, List.length_take]; omega
theorem own_le (e : Ex) : e.own.length ≤ e.types.length + e.labels.length := by
 unfold Ex.own; split
 ·exact ownT_le e _
 ·omega
theorem own_wt {e : Ex} {t : Ty} (h : t ∈ e.own) : t.wt ≤ e.wt := by
 unfold Ex.own ownT at h
 have key : ∀ {t : Ty}, t ∈ e.types ++ (e.labels.take e.labels.length).map Lb.ty → t.wt ≤ e.wt := fun {t} h => by
  rcases List.mem_append.1 h with h | h
  ·exact Nat.le_of_lt (Ex.wt_type h)
  ·obtain ⟨l, hl, rfl⟩ := List.mem_map.1 h
   have := Ex.wt_label (List.mem_of_mem_take hl)
   unfold Lb.wt at this; omega
 split at h
 ·exact key h
 ·exact Nat.le_of_lt (Ex.wt_type h)
theorem tparts_ok (t : Ty) (hl : t.args.length ≤ 1048576) (hl2 : t.flds.length ≤ 1048576) : ∃ r_, (fun w => w = .slice (encTys t.parts)) r_ ∧ FnOk Tryz.prog 129 [encTy t] r_ := by
 refine vfn tt_ok [] 26 [.tmp 2] (fn := Tryz.f129) Tryz.func129 rfl Tryz.call129 ⟨rfl, rfl, by simp⟩ fun K hK => ?_
 obtain ⟨k, m, n, ts, fs⟩ := t
 simp only [Ty.args,Ty.flds] at hl hl2
 simp only [encTy]
 have hb1 : ts.length ≤ 34359738368 := by omega
 simp only [length_encTys,length_encFds,first_ty,hb1,go_sem,reduceIte,zA,zB,zC,zD,zE,zF,reduceCtorEq]
 refine xloop tt_ok [] (fun i : Nat => [(1, .ptr 0 0), (3, .ms 1 (i + 1) 0 (ts.length + i)), (4, num i)]) (fun i : Nat => [.box [num k, str m, str n, .slice (encTys ts), .slice (encFds fs)], .rows (i + 1) 5 (encTys (ts ++ (fs.take i).map Fd.ty))]) (fun i => fs.length - i) (fun i => i ≤ fs.length) (0) 2 (lies (by omega) (by simp only [length_encTys,length_encFds,first_ty,hb1,List.take_zero,List.map_nil,List.append_nil,Int.cast_ofNat_Int,go_sem,reduceIte,zA,zB,zC,zD,zE,zF,reduceCtorEq] <;> rfl)) (Nat.zero_le _) ?_
 intro i hi
 try dsimp only at hi
 try dsimp only
 have hw := i64_succ i (by omega)
 intro Z1 hZ1
 simp only [hw,length_encTys,length_encFds,first_ty,hb1,go_sem,reduceIte,zA,zB,zC,zD,zE,zF,reduceCtorEq]
 refine gif (fun hc13 => ?_) (fun hc13 => ?_)
 ·have hlt : i < fs.length := by simpa using hc13
  obtain ⟨g, hg⟩ : ∃ g, fs[i]? = some g := ⟨_, List.getElem?_eq_getElem hlt⟩
  have hft : (fs.take (i + 1)).map Fd.ty = (fs.take i).map Fd.ty ++ [g.ty] := by rw [List.take_add_one, hg]; simp
  obtain ⟨gn, ⟨gk, gm, gn2, gts, gfs⟩, go⟩ := g
  dsimp only [Fd.ty] at hft
  have hb2 : ts.length + i + 1 ≤ 34359738368 := by omega
  have hlen : (encTys (ts ++ (fs.take i).map Fd.ty)).length = ts.length + i := by rw [length_encTys, List.length_append, List.length_map, List.length_take]; omega
  have hlen2 : (encTys (ts ++ (fs.take i).map Fd.ty ++ [.mk gk gm gn2 gts gfs])).length = ts.length + (i + 1) := by rw [length_encTys, List.length_append, List.length_append, List.length_map, List.length_take, List.length_singleton]; omega
  simp only [hw,get_encFds,hg,encFd,hb2,hlen,length_encTys,length_encFds,first_ty,hb1,go_sem,reduceIte,zA,zB,zC,zD,zE,zF,reduceCtorEq]
  refine hZ1 _ ⟨i + 1, ?_, ?_, lies (by omega) (by (simp only [hw,hft,← List.append_assoc,tys_snoc,hlen2,Nat.add_assoc,go_sem,reduceIte,zA,zB,zC,zD,zE,zF,reduceCtorEq]))⟩
  ·exact hlt
  ·omega
 ·have hge : ¬ i < fs.length := by simpa using hc13
  obtain rfl : i = fs.length := by omega
  rw [List.take_length]
  have htl : (ts ++ fs.map Fd.ty).length = ts.length + fs.length := by rw [List.length_append, List.length_map]
  have htk : List.take (ts.length + fs.length) (encTys (ts ++ List.map Fd.ty fs)) = encTys (ts ++ List.map Fd.ty fs) := List.take_of_length_le (by rw [length_encTys, htl]; exact Nat.le_refl _)
  simp only [hw,htl,htk,Nat.le_refl,length_encTys,length_encFds,first_ty,hb1,go_sem,reduceIte,zA,zB,zC,zD,zE,zF,reduceCtorEq]
  exact hK _ rfl
theorem tsize_step (N : Nat) (ih : ∀ t : Ty, t.size ≤ N → ∃ r_, (fun w => w = num (t.size)) r_ ∧ FnOk Tryz.prog 85 [encTy t] r_) (t : Ty) (hN : t.size ≤ N + 1) (hb : N + 1 ≤ 1048576) : ∃ r_, (fun w => w = num (t.size)) r_ ∧ FnOk Tryz.prog 85 [encTy t] r_ := by
 refine vfn tt_ok [] 22 [.tmp 2] (fn := Tryz.f85) Tryz.func85 rfl Tryz.call85 ⟨rfl, rfl, by simp⟩ fun K hK => ?_
 have hsz := t.size_parts
 obtain ⟨ps, hps⟩ : ∃ x, x = t.parts := ⟨_, rfl⟩
 rw [← hps] at hsz
 have hlen := length_le_sum Ty.size (fun t => t.size_pos) ps
 have hpl : ps.length = t.args.length + t.flds.length := by rw [hps]; unfold Ty.parts; rw [List.length_append, List.length_map]
 have hpc := tparts_ok t (by omega) (by omega)
 rw [encTy_eq, ← hps] at hpc
 rw [encTy_eq]
 simp only [tyCells] at hpc ⊢
 simp only [length_encTys,go_sem,reduceIte,zA,zB,zC,zD,zE,zF,reduceCtorEq]
 refine cF (hpc) ?_
 rintro _ rfl
 simp only [length_encTys,go_sem,reduceIte,zA,zB,zC,zD,zE,zF,reduceCtorEq]
 refine xloopL tt_ok [] [5,3] 1 [2,4] (fun vs => ((ps.length : Int) - Go.Eng.intOf (vs.headD .undef)).toNat) (fun vs => ∃ i : Nat, vs = [num i, num ((1 + sumBy Ty.size (ps.take i) : Nat) : Int)] ∧ i ≤ ps.length) (by omega) (by simp only [length_encTys,go_sem,reduceIte,zA,zB,zC,zD,zE,zF,reduceCtorEq]) (⟨0, by first | rfl | simp [sumBy, lks, lk], Nat.zero_le _⟩) fun vs hI Z1 hZ1 => ?_
 obtain ⟨i, rfl, hi⟩ := hI
 simp only [length_encTys,go_sem,reduceIte,zA,zB,zC,zD,zE,zF,reduceCtorEq]
 refine gif (fun hc11 => ?_) (fun hc11 => ?_)
 ·have hlt : i < ps.length := by simpa using hc11
  obtain ⟨x, hx⟩ : ∃ x, ps[i]? = some x := ⟨_, List.getElem?_eq_getElem hlt⟩
  have hst := sumBy_take_succ Ty.size hx
  have hsl := sumBy_take_le Ty.size ps (i + 1)
  have hsp := x.size_pos
  have hw := i64_succ i (by omega)
  have hwa := i64_add (1 + sumBy Ty.size (ps.take i)) x.size (by omega)
  obtain ⟨k2, m2, n2, a2, f2⟩ := x
  simp only [get_encTys,hx,encTy,hw,hwa,length_encTys,go_sem,reduceIte,zA,zB,zC,zD,zE,zF,reduceCtorEq]
  refine cF (by have h := ih (.mk k2 m2 n2 a2 f2) (by omega); simp only [encTy] at h; exact h) ?_
  rintro _ rfl
  simp only [get_encTys,hx,encTy,hw,hwa,length_encTys,go_sem,reduceIte,zA,zB,zC,zD,zE,zF,reduceCtorEq]
  refine hZ1 _ (endK (by omega) (by simp only [get_encTys,hx,encTy,hw,hwa,length_encTys,go_sem,reduceIte,zA,zB,zC,zD,zE,zF,reduceCtorEq]) ?_ ?_) <;> simp only [lks,lk,reduceIte,zE]
  ·exact ⟨i + 1, by rw [hst, ← Nat.add_assoc], hlt⟩
  ·simp only [Go.Eng.intOf,List.headD_cons]; omega
 ·have hge : ¬ i < ps.length := by simpa using hc11
  obtain rfl : i = ps.length := by omega
  rw [List.take_length, ← hsz]
  simp only [length_encTys,go_sem,reduceIte,zA,zB,zC,zD,zE,zF,reduceCtorEq]
  exact hK _ rfl
theorem tsize_ok : ∀ (N : Nat) (t : Ty), t.size ≤ N → N ≤ 1048576 → ∃ r_, (fun w => w = num (t.size)) r_ ∧ FnOk Tryz.prog 85 [encTy t] r_ := by
 intro N
 induction N with
 | zero => intro t h; have := t.size_pos; omega
 | succ N ih => intro t h hb; exact tsize_step N (fun t ht => ih t ht (by omega)) t h hb
theorem etys_ok (e : Ex) (hw : e.wt ≤ 1048576) : ∃ r_, (fun w => w = .slice (e.own.map encTy)) r_ ∧ FnOk Tryz.prog 130 [encEx e] r_ := by
 refine vfn tt_ok [] 29 [.tmp 2] (fn := Tryz.f130) Tryz.func130 rfl Tryz.call130 ⟨rfl, rfl, by simp⟩ fun K hK => ?_
 have hln := e.wt_lens
 rw [encEx_eq]
 simp only [exCells,encTys_map]
 have hl0 : e.types.length ≤ 34359738368 := by omega
 simp only [hl0,List.length_map,first_tyM,first5,go_sem,reduceIte,zA,zB,zC,zD,zE,zF,reduceCtorEq]
 refine gif (fun hc11 => ?_) (fun hc11 => ?_)
 ·have h8 : e.kind = 8 := of_decide_eq_true hc11
  simp only [hl0,List.length_map,first_tyM,first5,go_sem,reduceIte,zA,zB,zC,zD,zE,zF,reduceCtorEq]
  refine xloop tt_ok [] (fun a : Nat × Nat => [(1, .ptr 0 0), (3, .ms 1 a.2 0 (ownT e a.1).length), (4, num a.1)]) (fun a : Nat × Nat => [.box [num e.kind, str e.mod, str e.name, str e.text, num e.num, .slice (e.types.map encTy), .slice (e.labels.map encLb), .slice (encExs e.kids)], .rows a.2 5 ((ownT e a.1).map encTy)]) (fun a => e.labels.length - a.1) (fun a => a.1 ≤ e.labels.length) ((0, 1)) 2 (lies (by omega) (by simp only [hl0,List.length_map,first_tyM,first5,ownT_zero,List.length_map,Int.cast_ofNat_Int,go_sem,reduceIte,zA,zB,zC,zD,zE,zF,reduceCtorEq] <;> rfl)) (Nat.zero_le _) ?_
  intro ⟨j, w⟩ hj
  try dsimp only at hj
  try dsimp only
  intro Z1 hZ1
  simp only [hl0,List.length_map,first_tyM,first5,go_sem,reduceIte,zA,zB,zC,zD,zE,zF,reduceCtorEq]
  refine gif (fun hc16 => ?_) (fun hc16 => ?_)
  ·have hltj : j < e.labels.length := by simpa using hc16
   have hwj := i64_succ j (by omega)
   obtain ⟨p, hp⟩ : ∃ p, e.labels[j]? = some p := ⟨_, List.getElem?_eq_getElem hltj⟩
   have hle := ownT_le e j
   have hbl : (ownT e j).length + 1 ≤ 34359738368 := by omega
   simp only [hl0,hp,hbl,List.getElem?_map,encLb,tyCells,List.cons_append,List.nil_append,List.length_map,first_tyM,first5,go_sem,reduceIte,zA,zB,zC,zD,zE,zF,reduceCtorEq]
   refine hZ1 _ ⟨(j + 1, w + 1), ?_, ?_, lies (by omega) (by (simp only [List.length_map,hwj,ownT_succ hp,len1,map1,encTy_eq,tyCells,go_sem,reduceIte,zA,zB,zC,zD,zE,zF,reduceCtorEq]))⟩
   ·exact hltj
   ·dsimp only; omega
  ·have hgej : j = e.labels.length := by have := of_decide_eq_false hc16; omega
   have hres : ownT e j = e.own := by rw [hgej]; unfold Ex.own; rw [if_pos h8]
   rw [hres]
   simp only [hl0,List.length_map,first_tyM,first5,go_sem,reduceIte,zA,zB,zC,zD,zE,zF,reduceCtorEq]
   try rw [List.take_of_length_le (by simp)]
   exact hK _ rfl
 ·have h8 : ¬ e.kind = 8 := of_decide_eq_false hc11
  have hres : e.types = e.own := by unfold Ex.own; rw [if_neg h8]
  rw [hres]
  simp only [hl0,List.length_map,first_tyM,first5,go_sem,reduceIte,zA,zB,zC,zD,zE,zF,reduceCtorEq]
  try rw [List.take_of_length_le (by simp)]
  exact hK _ rfl
theorem esize_step (N : Nat) (ih : ∀ e : Ex, e.wt ≤ N → ∃ r_, (fun w => ∃ n : Int, w = num n) r_ ∧ FnOk Tryz.prog 86 [encEx e] r_) (e : Ex) (hN : e.wt ≤ N + 1) (hb : N + 1 ≤ 1048576) : ∃ r_, (fun w => ∃ n : Int, w = num n) r_ ∧ FnOk Tryz.prog 86 [encEx e] r_ := by
 refine vfn tt_ok [] 38 [.tmp 2] (fn := Tryz.f86) Tryz.func86 rfl Tryz.call86 ⟨rfl, rfl, by simp⟩ fun K hK => ?_
 have hln := e.wt_lens
 have hol := own_le e
 rw [encEx_eq]
 simp only [exCells]
 simp only [List.length_map,length_encExs,go_sem,reduceIte,zA,zB,zC,zD,zE,zF,reduceCtorEq]
 refine cF (by have h := etys_ok e (by omega); rw [encEx_eq] at h; simp only [exCells] at h; exact h) ?_
 rintro _ rfl
 simp only [List.length_map,length_encExs,go_sem,reduceIte,zA,zB,zC,zD,zE,zF,reduceCtorEq]
 refine xloopL tt_ok [] [5,3] 1 [1,2,4] (fun vs => ((e.own.length : Int) - Go.Eng.intOf (vs.headD .undef)).toNat) (fun vs => ∃ (i : Nat) (n : Int), vs = [num i, num n] ∧ i ≤ e.own.length) (by omega) (by simp only [List.length_map,length_encExs,go_sem,reduceIte,zA,zB,zC,zD,zE,zF,reduceCtorEq]) (⟨0, _, rfl, Nat.zero_le _⟩) fun vs hI Z1 hZ1 => ?_
 obtain ⟨i, n, rfl, hi⟩ := hI
 simp only [List.length_map,length_encExs,go_sem,reduceIte,zA,zB,zC,zD,zE,zF,reduceCtorEq]
 refine gif (fun hc12 => ?_) (fun hc12 => ?_)
 ·have hlti : i < e.own.length := by simpa using hc12
  have hwi := i64_succ i (by omega)
  obtain ⟨t, ht⟩ : ∃ t, e.own[i]? = some t := ⟨_, List.getElem?_eq_getElem hlti⟩
  simp only [hwi,ht,List.getElem?_map,encTy_eq,tyCells,List.length_map,length_encExs,go_sem,reduceIte,zA,zB,zC,zD,zE,zF,reduceCtorEq]
  refine cF (by have h := tsize_ok 1048576 t (by have h1 := t.size_le_wt; have h2 := own_wt (List.mem_of_getElem? ht); omega) (Nat.le_refl _); simp only [encTy_eq,tyCells] at h; exact h) ?_
  rintro _ rfl
  simp only [hwi,ht,List.getElem?_map,encTy_eq,tyCells,List.length_map,length_encExs,go_sem,reduceIte,zA,zB,zC,zD,zE,zF,reduceCtorEq]
  refine hZ1 _ (endK (by omega) (by simp only [hwi,ht,List.getElem?_map,encTy_eq,tyCells,List.length_map,length_encExs,go_sem,reduceIte,zA,zB,zC,zD,zE,zF,reduceCtorEq]) ?_ ?_) <;> simp only [lks,lk,reduceIte,zE]
  ·exact ⟨i + 1, _, rfl, hlti⟩
  ·simp only [Go.Eng.intOf,List.headD_cons]; omega
 ·have hgei : i = e.own.length := by have := of_decide_eq_false hc12; omega
  simp only [List.length_map,length_encExs,go_sem,reduceIte,zA,zB,zC,zD,zE,zF,reduceCtorEq]
  refine xloopL tt_ok [] [6,3] 1 [1,2,12] (fun vs => ((e.kids.length : Int) - Go.Eng.intOf (vs.headD .undef)).toNat) (fun vs => ∃ (i : Nat) (n : Int), vs = [num i, num n] ∧ i ≤ e.kids.length) (by omega) (by simp only [List.length_map,length_encExs,go_sem,reduceIte,zA,zB,zC,zD,zE,zF,reduceCtorEq]) (⟨0, _, rfl, Nat.zero_le _⟩) fun vs hI Z2 hZ2 => ?_
  obtain ⟨i, n, rfl, hi⟩ := hI
  simp only [List.length_map,length_encExs,go_sem,reduceIte,zA,zB,zC,zD,zE,zF,reduceCtorEq]
  refine gif (fun hc26 => ?_) (fun hc26 => ?_)
  ·have hlti : i < e.kids.length := by simpa using hc26
   have hwi := i64_succ i (by omega)
   obtain ⟨y, hy⟩ : ∃ y, e.kids[i]? = some y := ⟨_, List.getElem?_eq_getElem hlti⟩
   simp only [hwi,hy,get_encExs,encEx_eq,exCells,List.length_map,length_encExs,go_sem,reduceIte,zA,zB,zC,zD,zE,zF,reduceCtorEq]
   refine cF (by have h := ih y (by have h1 := Ex.wt_kid (List.mem_of_getElem? hy); omega); rw [encEx_eq] at h; simp only [exCells] at h; exact h) ?_
   rintro _ ⟨m, rfl⟩
   simp only [hwi,hy,get_encExs,encEx_eq,exCells,List.length_map,length_encExs,go_sem,reduceIte,zA,zB,zC,zD,zE,zF,reduceCtorEq]
   refine hZ2 _ (endK (by omega) (by simp only [hwi,hy,get_encExs,encEx_eq,exCells,List.length_map,length_encExs,go_sem,reduceIte,zA,zB,zC,zD,zE,zF,reduceCtorEq]) ?_ ?_) <;> simp only [lks,lk,reduceIte,zE]
   ·exact ⟨i + 1, _, rfl, hlti⟩
   ·simp only [Go.Eng.intOf,List.headD_cons]; omega
  ·have hgei : i = e.kids.length := by have := of_decide_eq_false hc26; omega
   simp only [List.length_map,length_encExs,go_sem,reduceIte,zA,zB,zC,zD,zE,zF,reduceCtorEq]
   exact hK _ ⟨_, rfl⟩
theorem esize_ok : ∀ (N : Nat) (e : Ex), e.wt ≤ N → N ≤ 1048576 → ∃ r_, (fun w => ∃ n : Int, w = num n) r_ ∧ FnOk Tryz.prog 86 [encEx e] r_ := by
 intro N
 induction N with
 | zero => intro e h; have := e.wt_pos; omega
 | succ N ih => intro e h hb; exact esize_step N (fun e he => ih e he (by omega)) e h hb
end Go.Proofs.YtefbaladomfccaaGreatDoor
end

section
namespace Go.Proofs.YtefbaladomfccaaGreatDoor
open Go.Eng
open Nat renaming reduceAdd → zA, reduceLT → zB, reduceLeDiff → zC, reduceMul → zD, reduceEqDiff → zE, reduceSub → zF
variable [Glob]
set_option maxHeartbeats 4000000
set_option maxRecDepth 100000
theorem pm_le {d : Dc} {j : Nat} {p : Pm} (h : d.params[j]? = some p) : p.bound.wt ≤ sumBy Pm.wt d.params := by
 have := mem_sum Pm.wt (List.mem_of_getElem? h)
 unfold Pm.wt at this ⊢; omega
theorem eqts_ok (l m : List Ty) (hl : l.length ≤ 1048576) (hh : ∀ t ∈ l, ∀ u ∈ m, ∃ r_, isB r_ ∧ FnOk Tryz.prog 131 [encTy t, encTy u] r_) : ∃ r_, isB r_ ∧ FnOk Tryz.prog 181 [.slice (l.map encTy), .slice (m.map encTy)] r_ := by
 refine vfn tt_ok [] 27 [.tmp 4] (fn := Tryz.f181) Tryz.func181 rfl Tryz.call181 ⟨rfl, rfl, by simp⟩ fun K hK => ?_
 simp only [List.length_map,go_sem,reduceIte,zA,zB,zC,zD,zE,zF,reduceCtorEq]
 refine gif (fun hc10 => ?_) (fun hc10 => ?_)
 ·simp only [List.length_map,go_sem,reduceIte,zA,zB,zC,zD,zE,zF,reduceCtorEq]
  exact hK _ ⟨_, rfl⟩
 ·have hlen : l.length = m.length := by have h9 : (l.length : Int) = m.length := (by simpa using hc10); omega
  simp only [List.length_map,go_sem,reduceIte,zA,zB,zC,zD,zE,zF,reduceCtorEq]
  refine xloopL tt_ok [] [5] 0 [0,1,10] (fun vs => ((l.length : Int) - Go.Eng.intOf (vs.headD .undef)).toNat) (fun vs => ∃ i : Nat, vs = [num i] ∧ i ≤ l.length) (by omega) (by simp only [List.length_map,go_sem,reduceIte,zA,zB,zC,zD,zE,zF,reduceCtorEq]) (⟨0, rfl, Nat.zero_le _⟩) fun vs hI Z1 hZ1 => ?_
  obtain ⟨i, rfl, hi⟩ := hI
  simp only [List.length_map,go_sem,reduceIte,zA,zB,zC,zD,zE,zF,reduceCtorEq]
  refine gif (fun hc14 => ?_) (fun hc14 => ?_)
  ·have hlti : i < l.length := by simpa using hc14
   have hwi := i64_succ i (by omega)
   obtain ⟨x, hx⟩ : ∃ x, l[i]? = some x := ⟨_, List.getElem?_eq_getElem hlti⟩
   obtain ⟨y, hy⟩ : ∃ y, m[i]? = some y := ⟨_, List.getElem?_eq_getElem (by omega)⟩
   simp only [hwi,hx,hy,List.getElem?_map,encTy_eq,tyCells,List.length_map,go_sem,reduceIte,zA,zB,zC,zD,zE,zF,reduceCtorEq]
   refine xmixL tt_ok mixed_ok [⟨.n, 0, [], [], []⟩, ⟨.n, 0, [], [], []⟩, ⟨.r, 0, [], [], []⟩, ⟨.r, 0, [], [], []⟩, ⟨.n, 0, [], [], []⟩, ⟨.n, 0, [], [], []⟩, ⟨.r, 0, [], [], []⟩, ⟨.r, 0, [], [], []⟩, ⟨.n, 0, [], [], []⟩, ⟨.n, 0, [], [], []⟩] 0 (by kernel_rfl) ?_
   simp only [hwi,hx,hy,List.getElem?_map,encTy_eq,tyCells,List.length_map,go_sem,reduceIte,zA,zB,zC,zD,zE,zF,reduceCtorEq]
   refine cG (by have h := hh x (List.mem_of_getElem? hx) y (List.mem_of_getElem? hy); simp only [encTy_eq,tyCells] at h; exact h) ?_
   rintro _ ⟨b, rfl⟩
   simp only [hwi,hx,hy,List.getElem?_map,encTy_eq,tyCells,List.length_map,go_sem,reduceIte,zA,zB,zC,zD,zE,zF,reduceCtorEq]
   refine gif (fun hc26 => ?_) (fun hc26 => ?_)
   ·simp only [hwi,hx,hy,List.getElem?_map,encTy_eq,tyCells,List.length_map,go_sem,reduceIte,zA,zB,zC,zD,zE,zF,reduceCtorEq]
    exact hK _ ⟨_, rfl⟩
   ·simp only [hwi,hx,hy,List.getElem?_map,encTy_eq,tyCells,List.length_map,go_sem,reduceIte,zA,zB,zC,zD,zE,zF,reduceCtorEq]
    refine hZ1 _ (endK (by omega) (by simp only [hwi,hx,hy,List.getElem?_map,encTy_eq,tyCells,List.length_map,go_sem,reduceIte,zA,zB,zC,zD,zE,zF,reduceCtorEq]) ?_ ?_) <;> simp only [lks,lk,reduceIte,zE]
    ·exact ⟨i + 1, rfl, hlti⟩
    ·simp only [Go.Eng.intOf,List.headD_cons]; omega
  ·have hgei : i = l.length := by have := of_decide_eq_false hc14; omega
   simp only [List.length_map,go_sem,reduceIte,zA,zB,zC,zD,zE,zF,reduceCtorEq]
   exact hK _ ⟨_, rfl⟩
theorem eqty_step (N : Nat) (ih : ∀ t u : Ty, t.wt ≤ N → ∃ r_, isB r_ ∧ FnOk Tryz.prog 131 [encTy t, encTy u] r_) (t u : Ty) (hN : t.wt ≤ N + 1) (hb : N + 1 ≤ 1048576) : ∃ r_, isB r_ ∧ FnOk Tryz.prog 131 [encTy t, encTy u] r_ := by
 refine vfn tt_ok [] 90 [.tmp 4] (fn := Tryz.f131) Tryz.func131 rfl Tryz.call131 ⟨rfl, rfl, by simp⟩ fun K hK => ?_
 have hln := t.wt_lens
 simp only [encTy_eq,tyCells,encTys_map]
 simp only [List.length_map,length_encFds,go_sem,reduceIte,zA,zB,zC,zD,zE,zF,reduceCtorEq]
 refine gif (fun hb1_5 => ?_) (fun hb1_5 => ?_)
 ·simp only [List.length_map,length_encFds,go_sem,reduceIte,zA,zB,zC,zD,zE,zF,reduceCtorEq]
  exact hK _ ⟨_, rfl⟩
 ·simp only [List.length_map,length_encFds,go_sem,reduceIte,zA,zB,zC,zD,zE,zF,reduceCtorEq]
  refine gif (fun hb1_12 => ?_) (fun hb1_12 => ?_)
  ·simp only [List.length_map,length_encFds,go_sem,reduceIte,zA,zB,zC,zD,zE,zF,reduceCtorEq]
   exact hK _ ⟨_, rfl⟩
  ·simp only [List.length_map,length_encFds,go_sem,reduceIte,zA,zB,zC,zD,zE,zF,reduceCtorEq]
   refine gif (fun hb1_19 => ?_) (fun hb1_19 => ?_)
   ·simp only [List.length_map,length_encFds,go_sem,reduceIte,zA,zB,zC,zD,zE,zF,reduceCtorEq]
    exact hK _ ⟨_, rfl⟩
   ·simp only [List.length_map,length_encFds,go_sem,reduceIte,zA,zB,zC,zD,zE,zF,reduceCtorEq]
    refine gif (fun hc33 => ?_) (fun hc33 => ?_)
    ·simp only [List.length_map,length_encFds,go_sem,reduceIte,zA,zB,zC,zD,zE,zF,reduceCtorEq]
     exact hK _ ⟨_, rfl⟩
    ·have hlen : t.flds.length = u.flds.length := by have h9 : (t.flds.length : Int) = u.flds.length := (by simpa using hc33); omega
     simp only [List.length_map,length_encFds,go_sem,reduceIte,zA,zB,zC,zD,zE,zF,reduceCtorEq]
     refine xloopL tt_ok [] [5] 2 [2,3,33] (fun vs => ((t.flds.length : Int) - Go.Eng.intOf (vs.headD .undef)).toNat) (fun vs => ∃ i : Nat, vs = [num i] ∧ i ≤ t.flds.length) (by omega) (by simp only [List.length_map,length_encFds,go_sem,reduceIte,zA,zB,zC,zD,zE,zF,reduceCtorEq]) (⟨0, rfl, Nat.zero_le _⟩) fun vs hI Z1 hZ1 => ?_
     obtain ⟨i, rfl, hi⟩ := hI
     simp only [List.length_map,length_encFds,go_sem,reduceIte,zA,zB,zC,zD,zE,zF,reduceCtorEq]
     refine gif (fun hc38 => ?_) (fun hc38 => ?_)
     ·have hlti : i < t.flds.length := by simpa using hc38
      have hwi := i64_succ i (by omega)
      obtain ⟨x, hx⟩ : ∃ x, t.flds[i]? = some x := ⟨_, List.getElem?_eq_getElem hlti⟩
      obtain ⟨y, hy⟩ : ∃ y, u.flds[i]? = some y := ⟨_, List.getElem?_eq_getElem (by omega)⟩
      simp only [ltb,hwi,hx,hy,get_encFds,encFd_eq,tyCells,encTys_map,List.length_map,length_encFds,go_sem,reduceIte,zA,zB,zC,zD,zE,zF,reduceCtorEq]
      refine xmixL tt_ok mixed_ok [⟨.n, 0, [], [], []⟩, ⟨.r, 0, [], [], []⟩, ⟨.n, 0, [], [], []⟩, ⟨.r, 0, [], [], []⟩, ⟨.n, 0, [], [], []⟩, ⟨.r, 0, [], [], []⟩, ⟨.n, 0, [], [], []⟩, ⟨.r, 0, [], [], []⟩, ⟨.n, 0, [], [], []⟩, ⟨.r, 0, [], [], []⟩, ⟨.n, 0, [], [], []⟩, ⟨.r, 0, [], [], []⟩, ⟨.n, 0, [], [], []⟩, ⟨.n, 0, [], [], []⟩, ⟨.n, 0, [], [], []⟩, ⟨.r, 0, [], [], []⟩, ⟨.n, 0, [], [], []⟩, ⟨.r, 0, [], [], []⟩, ⟨.n, 0, [], [], []⟩, ⟨.r, 0, [], [], []⟩, ⟨.n, 0, [], [], []⟩, ⟨.r, 0, [], [], []⟩, ⟨.n, 0, [], [], []⟩, ⟨.r, 0, [], [], []⟩, ⟨.n, 0, [], [], []⟩, ⟨.r, 0, [], [], []⟩, ⟨.n, 0, [], [], []⟩, ⟨.n, 0, [], [], []⟩, ⟨.n, 0, [], [], []⟩, ⟨.n, 0, [], [], []⟩, ⟨.r, 0, [], [], []⟩, ⟨.n, 0, [], [], []⟩, ⟨.r, 0, [], [], []⟩, ⟨.n, 0, [], [], []⟩, ⟨.r, 0, [], [], []⟩, ⟨.n, 0, [], [], []⟩, ⟨.r, 0, [], [], []⟩, ⟨.n, 0, [], [], []⟩, ⟨.r, 0, [], [], []⟩, ⟨.n, 0, [], [], []⟩, ⟨.r, 0, [], [], []⟩, ⟨.n, 0, [], [], []⟩, ⟨.n, 0, [], [], []⟩, ⟨.n, 0, [], [], []⟩] 0 (by kernel_rfl) ?_
      simp only [ltb,hwi,hx,hy,get_encFds,encFd_eq,tyCells,encTys_map,List.length_map,length_encFds,go_sem,reduceIte,zA,zB,zC,zD,zE,zF,reduceCtorEq]
      refine gif (fun hb6_13 => ?_) (fun hb6_13 => ?_)
      ·simp only [ltb,hwi,hx,hy,get_encFds,encFd_eq,tyCells,encTys_map,List.length_map,length_encFds,go_sem,reduceIte,zA,zB,zC,zD,zE,zF,reduceCtorEq]
       exact hK _ ⟨_, rfl⟩
      ·simp only [ltb,hwi,hx,hy,get_encFds,encFd_eq,tyCells,encTys_map,List.length_map,length_encFds,go_sem,reduceIte,zA,zB,zC,zD,zE,zF,reduceCtorEq]
       refine gif (fun hb6_28 => ?_) (fun hb6_28 => ?_)
       ·simp only [ltb,hwi,hx,hy,get_encFds,encFd_eq,tyCells,encTys_map,List.length_map,length_encFds,go_sem,reduceIte,zA,zB,zC,zD,zE,zF,reduceCtorEq]
        exact hK _ ⟨_, rfl⟩
       ·simp only [ltb,hwi,hx,hy,get_encFds,encFd_eq,tyCells,encTys_map,List.length_map,length_encFds,go_sem,reduceIte,zA,zB,zC,zD,zE,zF,reduceCtorEq]
        refine cG (by have h := ih x.ty y.ty (by have h1 := Ty.wt_fld (List.mem_of_getElem? hx); omega); simp only [encTy_eq,tyCells,encTys_map] at h; exact h) ?_
        rintro _ ⟨b, rfl⟩
        simp only [ltb,hwi,hx,hy,get_encFds,encFd_eq,tyCells,encTys_map,List.length_map,length_encFds,go_sem,reduceIte,zA,zB,zC,zD,zE,zF,reduceCtorEq]
        refine gif (fun hc84 => ?_) (fun hc84 => ?_)
        ·simp only [ltb,hwi,hx,hy,get_encFds,encFd_eq,tyCells,encTys_map,List.length_map,length_encFds,go_sem,reduceIte,zA,zB,zC,zD,zE,zF,reduceCtorEq]
         exact hK _ ⟨_, rfl⟩
        ·simp only [ltb,hwi,hx,hy,get_encFds,encFd_eq,tyCells,encTys_map,List.length_map,length_encFds,go_sem,reduceIte,zA,zB,zC,zD,zE,zF,reduceCtorEq]
         refine hZ1 _ (endK (by omega) (by simp only [ltb,hwi,hx,hy,get_encFds,encFd_eq,tyCells,encTys_map,List.length_map,length_encFds,go_sem,reduceIte,zA,zB,zC,zD,zE,zF,reduceCtorEq]) ?_ ?_) <;> simp only [lks,lk,reduceIte,zE]
         ·exact ⟨i + 1, rfl, hlti⟩
         ·simp only [Go.Eng.intOf,List.headD_cons]; omega
     ·have hgei : i = t.flds.length := by have := of_decide_eq_false hc38; omega
      simp only [List.length_map,length_encFds,go_sem,reduceIte,zA,zB,zC,zD,zE,zF,reduceCtorEq]
      refine cF (eqts_ok t.args u.args (by omega) (fun a ha b _ => ih a b (by have h1 := Ty.wt_arg ha; omega))) ?_
      rintro _ ⟨b, rfl⟩
      simp only [List.length_map,length_encFds,go_sem,reduceIte,zA,zB,zC,zD,zE,zF,reduceCtorEq]
      exact hK _ ⟨_, rfl⟩
theorem eqty_ok : ∀ (N : Nat) (t u : Ty), t.wt ≤ N → N ≤ 1048576 → ∃ r_, isB r_ ∧ FnOk Tryz.prog 131 [encTy t, encTy u] r_ := by
 intro N
 induction N with
 | zero => intro t u h; have := t.wt_pos; omega
 | succ N ih => intro t u h hb; exact eqty_step N (fun t u ht => ih t u ht (by omega)) t u h hb
theorem transp_ok (d : Dc) (hw : d.wt ≤ 1048576) : ∃ r_, isB r_ ∧ FnOk Tryz.prog 87 [encDc d] r_ := by
 refine vfn tt_ok [] 15 [.tmp 2] (fn := Tryz.f87) Tryz.func87 rfl Tryz.call87 ⟨rfl, rfl, by simp⟩ fun K hK => ?_
 have hd : 1 + d.lower.wt + d.upper.wt ≤ d.wt := by unfold Dc.wt; omega
 rw [encDc_eq]
 simp only [ltb,dcCells,tyCells,exCells]
 simp only [go_sem,reduceIte,zA,zB,zC,zD,zE,zF,reduceCtorEq]
 refine cF (by have h := eqty_ok 1048576 d.lower d.type (by omega) (Nat.le_refl _); simp only [encTy_eq,tyCells] at h; exact h) ?_
 rintro _ ⟨b, rfl⟩
 simp only [go_sem,reduceIte,zA,zB,zC,zD,zE,zF,reduceCtorEq]
 refine gif (fun hb1_5 => ?_) (fun hb1_5 => ?_)
 ·simp only [go_sem,reduceIte,zA,zB,zC,zD,zE,zF,reduceCtorEq]
  refine cF (by have h := eqty_ok 1048576 d.upper d.type (by omega) (Nat.le_refl _); simp only [encTy_eq,tyCells] at h; exact h) ?_
  rintro _ ⟨b2, rfl⟩
  simp only [go_sem,reduceIte,zA,zB,zC,zD,zE,zF,reduceCtorEq]
  exact hK _ ⟨_, rfl⟩
 ·simp only [go_sem,reduceIte,zA,zB,zC,zD,zE,zF,reduceCtorEq]
  exact hK _ ⟨_, rfl⟩
theorem msize_ok (m : Md) (hw : m.wt ≤ 1048576) : ∃ r_, (fun w => ∃ n : Int, w = num n) r_ ∧ FnOk Tryz.prog 37 [encMd m] r_ := by
 refine vfn tt_ok [] 78 [.tmp 2] (fn := Tryz.f37) Tryz.func37 rfl Tryz.call37 ⟨rfl, rfl, by simp⟩ fun K hK => ?_
 have hi1 := length_le_sum Im.wt Im.wt_pos m.imports
 have hd1 := length_le_sum Dc.wt Dc.wt_pos m.decls
 have hmw : m.wt = 1 + m.path.size + sumBy Im.wt m.imports + sumBy Dc.wt m.decls := rfl
 rw [encMd_eq]
 simp only [mdCells]
 simp only [List.length_map,go_sem,reduceIte,zA,zB,zC,zD,zE,zF,reduceCtorEq]
 refine xloopL tt_ok [] [4,3] 1 [1,2] (fun vs => ((m.decls.length : Int) - Go.Eng.intOf (vs.headD .undef)).toNat) (fun vs => ∃ (i : Nat) (n : Int), vs = [num i, num n] ∧ i ≤ m.decls.length) (by omega) (by simp only [List.length_map,go_sem,reduceIte,zA,zB,zC,zD,zE,zF,reduceCtorEq]) (⟨0, _, rfl, Nat.zero_le _⟩) fun vs hI Z1 hZ1 => ?_
 obtain ⟨i, n, rfl, hi⟩ := hI
 simp only [List.length_map,go_sem,reduceIte,zA,zB,zC,zD,zE,zF,reduceCtorEq]
 refine gif (fun hc15 => ?_) (fun hc15 => ?_)
 ·have hlti : i < m.decls.length := by simpa using hc15
  have hwi := i64_succ i (by omega)
  obtain ⟨d, hx⟩ : ∃ d, m.decls[i]? = some d := ⟨_, List.getElem?_eq_getElem hlti⟩
  have hdm := mem_sum Dc.wt (List.mem_of_getElem? hx)
  have hd : 1 + d.lower.wt + d.upper.wt + d.type.wt + d.expr.wt + sumBy Pm.wt d.params ≤ d.wt := by unfold Dc.wt; omega
  have hpl := length_le_sum Pm.wt Pm.wt_pos d.params
  simp only [hwi,hx,List.getElem?_map,encDc_eq,dcCells,tyCells,exCells,List.cons_append,List.nil_append,List.length_map,go_sem,reduceIte,zA,zB,zC,zD,zE,zF,reduceCtorEq]
  refine gif (fun hc31 => ?_) (fun hc31 => ?_)
  ·simp only [hwi,hx,List.getElem?_map,encDc_eq,dcCells,tyCells,exCells,List.cons_append,List.nil_append,List.length_map,go_sem,reduceIte,zA,zB,zC,zD,zE,zF,reduceCtorEq]
   refine xloopL tt_ok [] [6,3] 2 [1,2,4,5,11,12,13,14,15,18,19,20,21,22,23,24,25,26,27,28,29,30,31] (fun vs => ((d.params.length : Int) - Go.Eng.intOf (vs.headD .undef)).toNat) (fun vs => ∃ (j : Nat) (n : Int), vs = [num j, num n] ∧ j ≤ d.params.length) (by omega) (by simp only [hwi,hx,List.getElem?_map,encDc_eq,dcCells,tyCells,exCells,List.cons_append,List.nil_append,List.length_map,go_sem,reduceIte,zA,zB,zC,zD,zE,zF,reduceCtorEq]) (⟨0, _, rfl, Nat.zero_le _⟩) fun vs hI Z2 hZ2 => ?_
   obtain ⟨j, n2, rfl, hj⟩ := hI
   simp only [hwi,hx,List.getElem?_map,encDc_eq,dcCells,tyCells,exCells,List.cons_append,List.nil_append,List.length_map,go_sem,reduceIte,zA,zB,zC,zD,zE,zF,reduceCtorEq]
   refine gif (fun hc36 => ?_) (fun hc36 => ?_)
   ·have hltj : j < d.params.length := by simpa using hc36
    have hwj := i64_succ j (by omega)
    obtain ⟨p, hp⟩ : ∃ p, d.params[j]? = some p := ⟨_, List.getElem?_eq_getElem hltj⟩
    simp only [hwi,hx,List.getElem?_map,encDc_eq,dcCells,tyCells,exCells,List.cons_append,List.nil_append,hwj,hp,encPm,List.length_map,go_sem,reduceIte,zA,zB,zC,zD,zE,zF,reduceCtorEq]
    refine cF (by have h := tsize_ok 1048576 p.bound (by have h1 := (p.bound).size_le_wt; have h2 := pm_le hp; omega) (Nat.le_refl _); simp only [encTy_eq,tyCells] at h; exact h) ?_
    rintro _ rfl
    simp only [hwi,hx,List.getElem?_map,encDc_eq,dcCells,tyCells,exCells,List.cons_append,List.nil_append,hwj,hp,encPm,List.length_map,go_sem,reduceIte,zA,zB,zC,zD,zE,zF,reduceCtorEq]
    refine hZ2 _ (endK (by omega) (by simp only [hwi,hx,List.getElem?_map,encDc_eq,dcCells,tyCells,exCells,List.cons_append,List.nil_append,hwj,hp,encPm,List.length_map,go_sem,reduceIte,zA,zB,zC,zD,zE,zF,reduceCtorEq]) ?_ ?_) <;> simp only [lks,lk,reduceIte,zE]
    ·exact ⟨j + 1, _, rfl, hltj⟩
    ·simp only [Go.Eng.intOf,List.headD_cons]; omega
   ·have hgej : j = d.params.length := by have := of_decide_eq_false hc36; omega
    simp only [hwi,hx,List.getElem?_map,encDc_eq,dcCells,tyCells,exCells,List.cons_append,List.nil_append,List.length_map,go_sem,reduceIte,zA,zB,zC,zD,zE,zF,reduceCtorEq]
    refine xmixL tt_ok mixed_ok [⟨.n, 0, [], [], []⟩, ⟨.n, 0, [], [], []⟩, ⟨.r, 0, [], [], []⟩, ⟨.n, 0, [], [], []⟩, ⟨.n, 0, [], [], []⟩, ⟨.n, 0, [], [], []⟩, ⟨.r, 0, [], [], []⟩, ⟨.n, 0, [], [], []⟩, ⟨.n, 0, [], [], []⟩, ⟨.n, 0, [], [], []⟩] 0 (by kernel_rfl) ?_
    simp only [hwi,hx,List.getElem?_map,encDc_eq,dcCells,tyCells,exCells,List.cons_append,List.nil_append,List.length_map,go_sem,reduceIte,zA,zB,zC,zD,zE,zF,reduceCtorEq]
    refine cG (by have h := tsize_ok 1048576 d.type (by have h1 := (d.type).size_le_wt; have h2 := hd; omega) (Nat.le_refl _); simp only [encTy_eq,tyCells] at h; exact h) ?_
    rintro _ rfl
    simp only [hwi,hx,List.getElem?_map,encDc_eq,dcCells,tyCells,exCells,List.cons_append,List.nil_append,List.length_map,go_sem,reduceIte,zA,zB,zC,zD,zE,zF,reduceCtorEq]
    refine cG (by have h := esize_ok 1048576 d.expr (by omega) (Nat.le_refl _); rw [encEx_eq] at h; simp only [exCells] at h; exact h) ?_
    rintro _ ⟨m2, rfl⟩
    simp only [hwi,hx,List.getElem?_map,encDc_eq,dcCells,tyCells,exCells,List.cons_append,List.nil_append,List.length_map,go_sem,reduceIte,zA,zB,zC,zD,zE,zF,reduceCtorEq]
    refine gif (fun hc59 => ?_) (fun hc59 => ?_)
    ·simp only [hwi,hx,List.getElem?_map,encDc_eq,dcCells,tyCells,exCells,List.cons_append,List.nil_append,List.length_map,go_sem,reduceIte,zA,zB,zC,zD,zE,zF,reduceCtorEq]
     refine cF (by have h := tsize_ok 1048576 d.type (by have h1 := (d.type).size_le_wt; have h2 := hd; omega) (Nat.le_refl _); simp only [encTy_eq,tyCells] at h; exact h) ?_
     rintro _ rfl
     simp only [hwi,hx,List.getElem?_map,encDc_eq,dcCells,tyCells,exCells,List.cons_append,List.nil_append,List.length_map,go_sem,reduceIte,zA,zB,zC,zD,zE,zF,reduceCtorEq]
     refine cF (by have h := transp_ok d (by omega); rw [encDc_eq] at h; simp only [ltb,dcCells,tyCells,exCells] at h; exact h) ?_
     rintro _ ⟨b, rfl⟩
     simp only [hwi,hx,List.getElem?_map,encDc_eq,dcCells,tyCells,exCells,List.cons_append,List.nil_append,List.length_map,go_sem,reduceIte,zA,zB,zC,zD,zE,zF,reduceCtorEq]
     refine gif (fun hc67 => ?_) (fun hc67 => ?_)
     ·simp only [hwi,hx,List.getElem?_map,encDc_eq,dcCells,tyCells,exCells,List.cons_append,List.nil_append,List.length_map,go_sem,reduceIte,zA,zB,zC,zD,zE,zF,reduceCtorEq]
      refine xmixL tt_ok mixed_ok [⟨.n, 0, [], [], []⟩, ⟨.n, 0, [], [], []⟩, ⟨.r, 0, [], [], []⟩, ⟨.n, 0, [], [], []⟩, ⟨.n, 0, [], [], []⟩, ⟨.n, 0, [], [], []⟩, ⟨.r, 0, [], [], []⟩, ⟨.n, 0, [], [], []⟩, ⟨.n, 0, [], [], []⟩, ⟨.n, 0, [], [], []⟩] 0 (by kernel_rfl) ?_
      simp only [hwi,hx,List.getElem?_map,encDc_eq,dcCells,tyCells,exCells,List.cons_append,List.nil_append,List.length_map,go_sem,reduceIte,zA,zB,zC,zD,zE,zF,reduceCtorEq]
      refine cG (by have h := tsize_ok 1048576 d.lower (by have h1 := (d.lower).size_le_wt; have h2 := hd; omega) (Nat.le_refl _); simp only [encTy_eq,tyCells] at h; exact h) ?_
      rintro _ rfl
      simp only [hwi,hx,List.getElem?_map,encDc_eq,dcCells,tyCells,exCells,List.cons_append,List.nil_append,List.length_map,go_sem,reduceIte,zA,zB,zC,zD,zE,zF,reduceCtorEq]
      refine cG (by have h := tsize_ok 1048576 d.upper (by have h1 := (d.upper).size_le_wt; have h2 := hd; omega) (Nat.le_refl _); simp only [encTy_eq,tyCells] at h; exact h) ?_
      rintro _ rfl
      simp only [hwi,hx,List.getElem?_map,encDc_eq,dcCells,tyCells,exCells,List.cons_append,List.nil_append,List.length_map,go_sem,reduceIte,zA,zB,zC,zD,zE,zF,reduceCtorEq]
      refine hZ1 _ (endK (by omega) (by simp only [hwi,hx,List.getElem?_map,encDc_eq,dcCells,tyCells,exCells,List.cons_append,List.nil_append,List.length_map,go_sem,reduceIte,zA,zB,zC,zD,zE,zF,reduceCtorEq]) ?_ ?_) <;> simp only [lks,lk,reduceIte,zE]
      ·exact ⟨i + 1, _, rfl, hlti⟩
      ·simp only [Go.Eng.intOf,List.headD_cons]; omega
     ·simp only [hwi,hx,List.getElem?_map,encDc_eq,dcCells,tyCells,exCells,List.cons_append,List.nil_append,List.length_map,go_sem,reduceIte,zA,zB,zC,zD,zE,zF,reduceCtorEq]
      refine hZ1 _ (endK (by omega) (by simp only [hwi,hx,List.getElem?_map,encDc_eq,dcCells,tyCells,exCells,List.cons_append,List.nil_append,List.length_map,go_sem,reduceIte,zA,zB,zC,zD,zE,zF,reduceCtorEq]) ?_ ?_) <;> simp only [lks,lk,reduceIte,zE]
      ·exact ⟨i + 1, _, rfl, hlti⟩
      ·simp only [Go.Eng.intOf,List.headD_cons]; omega
    ·simp only [hwi,hx,List.getElem?_map,encDc_eq,dcCells,tyCells,exCells,List.cons_append,List.nil_append,List.length_map,go_sem,reduceIte,zA,zB,zC,zD,zE,zF,reduceCtorEq]
     refine hZ1 _ (endK (by omega) (by simp only [hwi,hx,List.getElem?_map,encDc_eq,dcCells,tyCells,exCells,List.cons_append,List.nil_append,List.length_map,go_sem,reduceIte,zA,zB,zC,zD,zE,zF,reduceCtorEq]) ?_ ?_) <;> simp only [lks,lk,reduceIte,zE]
     ·exact ⟨i + 1, _, rfl, hlti⟩
     ·simp only [Go.Eng.intOf,List.headD_cons]; omega
  ·simp only [hwi,hx,List.getElem?_map,encDc_eq,dcCells,tyCells,exCells,List.cons_append,List.nil_append,List.length_map,go_sem,reduceIte,zA,zB,zC,zD,zE,zF,reduceCtorEq]
   refine gif (fun hc59 => ?_) (fun hc59 => ?_)
   ·simp only [hwi,hx,List.getElem?_map,encDc_eq,dcCells,tyCells,exCells,List.cons_append,List.nil_append,List.length_map,go_sem,reduceIte,zA,zB,zC,zD,zE,zF,reduceCtorEq]
    refine cF (by have h := tsize_ok 1048576 d.type (by have h1 := (d.type).size_le_wt; have h2 := hd; omega) (Nat.le_refl _); simp only [encTy_eq,tyCells] at h; exact h) ?_
    rintro _ rfl
    simp only [hwi,hx,List.getElem?_map,encDc_eq,dcCells,tyCells,exCells,List.cons_append,List.nil_append,List.length_map,go_sem,reduceIte,zA,zB,zC,zD,zE,zF,reduceCtorEq]
    refine cF (by have h := transp_ok d (by omega); rw [encDc_eq] at h; simp only [ltb,dcCells,tyCells,exCells] at h; exact h) ?_
    rintro _ ⟨b, rfl⟩
    simp only [hwi,hx,List.getElem?_map,encDc_eq,dcCells,tyCells,exCells,List.cons_append,List.nil_append,List.length_map,go_sem,reduceIte,zA,zB,zC,zD,zE,zF,reduceCtorEq]
    refine gif (fun hc67 => ?_) (fun hc67 => ?_)
    ·simp only [hwi,hx,List.getElem?_map,encDc_eq,dcCells,tyCells,exCells,List.cons_append,List.nil_append,List.length_map,go_sem,reduceIte,zA,zB,zC,zD,zE,zF,reduceCtorEq]
     refine xmixL tt_ok mixed_ok [⟨.n, 0, [], [], []⟩, ⟨.n, 0, [], [], []⟩, ⟨.r, 0, [], [], []⟩, ⟨.n, 0, [], [], []⟩, ⟨.n, 0, [], [], []⟩, ⟨.n, 0, [], [], []⟩, ⟨.r, 0, [], [], []⟩, ⟨.n, 0, [], [], []⟩, ⟨.n, 0, [], [], []⟩, ⟨.n, 0, [], [], []⟩] 0 (by kernel_rfl) ?_
     simp only [hwi,hx,List.getElem?_map,encDc_eq,dcCells,tyCells,exCells,List.cons_append,List.nil_append,List.length_map,go_sem,reduceIte,zA,zB,zC,zD,zE,zF,reduceCtorEq]
     refine cG (by have h := tsize_ok 1048576 d.lower (by have h1 := (d.lower).size_le_wt; have h2 := hd; omega) (Nat.le_refl _); simp only [encTy_eq,tyCells] at h; exact h) ?_
     rintro _ rfl
     simp only [hwi,hx,List.getElem?_map,encDc_eq,dcCells,tyCells,exCells,List.cons_append,List.nil_append,List.length_map,go_sem,reduceIte,zA,zB,zC,zD,zE,zF,reduceCtorEq]
     refine cG (by have h := tsize_ok 1048576 d.upper (by have h1 := (d.upper).size_le_wt; have h2 := hd; omega) (Nat.le_refl _); simp only [encTy_eq,tyCells] at h; exact h) ?_
     rintro _ rfl
     simp only [hwi,hx,List.getElem?_map,encDc_eq,dcCells,tyCells,exCells,List.cons_append,List.nil_append,List.length_map,go_sem,reduceIte,zA,zB,zC,zD,zE,zF,reduceCtorEq]
     refine hZ1 _ (endK (by omega) (by simp only [hwi,hx,List.getElem?_map,encDc_eq,dcCells,tyCells,exCells,List.cons_append,List.nil_append,List.length_map,go_sem,reduceIte,zA,zB,zC,zD,zE,zF,reduceCtorEq]) ?_ ?_) <;> simp only [lks,lk,reduceIte,zE]
     ·exact ⟨i + 1, _, rfl, hlti⟩
     ·simp only [Go.Eng.intOf,List.headD_cons]; omega
    ·simp only [hwi,hx,List.getElem?_map,encDc_eq,dcCells,tyCells,exCells,List.cons_append,List.nil_append,List.length_map,go_sem,reduceIte,zA,zB,zC,zD,zE,zF,reduceCtorEq]
     refine hZ1 _ (endK (by omega) (by simp only [hwi,hx,List.getElem?_map,encDc_eq,dcCells,tyCells,exCells,List.cons_append,List.nil_append,List.length_map,go_sem,reduceIte,zA,zB,zC,zD,zE,zF,reduceCtorEq]) ?_ ?_) <;> simp only [lks,lk,reduceIte,zE]
     ·exact ⟨i + 1, _, rfl, hlti⟩
     ·simp only [Go.Eng.intOf,List.headD_cons]; omega
   ·simp only [hwi,hx,List.getElem?_map,encDc_eq,dcCells,tyCells,exCells,List.cons_append,List.nil_append,List.length_map,go_sem,reduceIte,zA,zB,zC,zD,zE,zF,reduceCtorEq]
    refine hZ1 _ (endK (by omega) (by simp only [hwi,hx,List.getElem?_map,encDc_eq,dcCells,tyCells,exCells,List.cons_append,List.nil_append,List.length_map,go_sem,reduceIte,zA,zB,zC,zD,zE,zF,reduceCtorEq]) ?_ ?_) <;> simp only [lks,lk,reduceIte,zE]
    ·exact ⟨i + 1, _, rfl, hlti⟩
    ·simp only [Go.Eng.intOf,List.headD_cons]; omega
 ·have hgei : i = m.decls.length := by have := of_decide_eq_false hc15; omega
  simp only [List.length_map,go_sem,reduceIte,zA,zB,zC,zD,zE,zF,reduceCtorEq]
  exact hK _ ⟨_, rfl⟩
theorem small_ok (p : List Md) (hl : p.length ≤ 1048576) (hw : ∀ m ∈ p, m.wt ≤ 1048576) : ∃ r_, isB r_ ∧ FnOk Tryz.prog 9 [.slice (p.map encMd)] r_ := by
 refine vfn tt_ok [] 25 [.tmp 2] (fn := Tryz.f9) Tryz.func9 rfl Tryz.call9 ⟨rfl, rfl, by simp⟩ fun K hK => ?_
 simp only [List.length_map,go_sem,reduceIte,zA,zB,zC,zD,zE,zF,reduceCtorEq]
 refine xloopL tt_ok [] [4,3] 0 [0,2] (fun vs => ((p.length : Int) - Go.Eng.intOf (vs.headD .undef)).toNat) (fun vs => ∃ (i : Nat) (n : Int), vs = [num i, num n] ∧ i ≤ p.length) (by omega) (by simp only [List.length_map,go_sem,reduceIte,zA,zB,zC,zD,zE,zF,reduceCtorEq]) (⟨0, _, rfl, Nat.zero_le _⟩) fun vs hI Z1 hZ1 => ?_
 obtain ⟨i, n, rfl, hi⟩ := hI
 simp only [List.length_map,go_sem,reduceIte,zA,zB,zC,zD,zE,zF,reduceCtorEq]
 refine gif (fun hc8 => ?_) (fun hc8 => ?_)
 ·have hlti : i < p.length := by simpa using hc8
  have hwi := i64_succ i (by omega)
  obtain ⟨m, hx⟩ : ∃ m, p[i]? = some m := ⟨_, List.getElem?_eq_getElem hlti⟩
  simp only [hwi,hx,List.getElem?_map,encMd_eq,mdCells,List.length_map,go_sem,reduceIte,zA,zB,zC,zD,zE,zF,reduceCtorEq]
  refine cF (by have h := msize_ok m (hw m (List.mem_of_getElem? hx)); rw [encMd_eq] at h; simp only [mdCells] at h; exact h) ?_
  rintro _ ⟨n2, rfl⟩
  simp only [hwi,hx,List.getElem?_map,encMd_eq,mdCells,List.length_map,go_sem,reduceIte,zA,zB,zC,zD,zE,zF,reduceCtorEq]
  refine hZ1 _ (endK (by omega) (by simp only [hwi,hx,List.getElem?_map,encMd_eq,mdCells,List.length_map,go_sem,reduceIte,zA,zB,zC,zD,zE,zF,reduceCtorEq]) ?_ ?_) <;> simp only [lks,lk,reduceIte,zE]
  ·exact ⟨i + 1, _, rfl, hlti⟩
  ·simp only [Go.Eng.intOf,List.headD_cons]; omega
 ·have hgei : i = p.length := by have := of_decide_eq_false hc8; omega
  simp only [List.length_map,go_sem,reduceIte,zA,zB,zC,zD,zE,zF,reduceCtorEq]
  refine gif (fun hb6_3 => ?_) (fun hb6_3 => ?_)
  ·simp only [List.length_map,go_sem,reduceIte,zA,zB,zC,zD,zE,zF,reduceCtorEq]
   exact hK _ ⟨_, rfl⟩
  ·simp only [List.length_map,go_sem,reduceIte,zA,zB,zC,zD,zE,zF,reduceCtorEq]
   exact hK _ ⟨_, rfl⟩
end Go.Proofs.YtefbaladomfccaaGreatDoor
end
