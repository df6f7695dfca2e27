/-
  CONTRACTS: slices.Compact at uses; equal neighbours left out.
  CONTRACTS: slices.Reverse at uses, on live rows.
  CONTRACTS: the declarations of a program, by their modules and names.
  CONTRACTS: where a name leads, by the program.
  CONTRACTS: the values that an expression uses, by the program: the iterator with its recursive closure, and Collect.
  CONTRACTS: a range over the values that an expression uses; AppendSeq, Collect.
  CONTRACTS: where a name leads, by the reference.
  CONTRACTS: InsertUse, by the reference.
  CONTRACTS: the values that a value uses, by the reference.
  CONTRACTS: the values that a value uses directly, by the program.
  CONTRACTS: the shortest chain, by the program.
  CONTRACTS: Uses, by the program; equality of lists of uses.
  CONTRACTS: Findings, by the program.
  CONTRACTS: types and sizes of expressions, by the reference.
  CONTRACTS: equality of types, sizes of modules, by the reference: that they answer.
  CONTRACTS: lines with their names.
-/
import Derived.Test.YtefbaladomfccaaGreatDoorH10
set_option linter.all false
section
namespace Go.Proofs.YtefbaladomfccaaGreatDoor
open Go.Eng
open Nat renaming reduceAdd → zA, reduceLT → zB, reduceLeDiff → zC, reduceMul → zD, reduceEqDiff → zE, reduceSub → zF
section
variable {α : Type} [DecidableEq α]
def ddA (p : α) : List α → List α
 | [] => []
 | y :: r => if y = p then ddA p r else y :: ddA y r
def dd : List α → List α
 | [] => []
 | x :: r => x :: ddA x r
theorem ddA_snoc (z : α) : ∀ (r : List α) (p : α), ddA p (r ++ [z]) = ddA p r ++ (if z = r.getLast?.getD p then [] else [z])
 | [], p => by
  simp only [List.nil_append,ddA,List.getLast?_nil,Option.getD_none]
  rfl
 | y :: r, p => by
  have e1 : (y :: r).getLast?.getD p = r.getLast?.getD y := by rw [List.getLast?_cons]; rfl
  rw [e1, List.cons_append]
  unfold ddA
  by_cases h : y = p
  ·rw [if_pos h, if_pos h, ddA_snoc z r p, h]
  ·rw [if_neg h, if_neg h, ddA_snoc z r y]; rfl
theorem dd_snoc {l : List α} (z y : α) (h : l.getLast? = some y) : dd (l ++ [z]) = dd l ++ (if z = y then [] else [z]) := by
 cases l with
 | nil => simp at h
 | cons x r =>
  have e1 : r.getLast?.getD x = y := by rw [List.getLast?_cons] at h; exact Option.some.inj h
  show x :: ddA x (r ++ [z]) = (x :: ddA x r) ++ _
  rw [ddA_snoc, e1]; rfl
theorem getLast_take {l : List α} {i : Nat} {y : α} (h : l[i]? = some y) : (l.take (i + 1)).getLast? = some y := by
 rw [List.take_add_one, h]; simp
theorem dd_take {l : List α} {i : Nat} {x y : α} (hx : l[i + 1]? = some x) (hy : l[i]? = some y) : dd (l.take (i + 2)) = dd (l.take (i + 1)) ++ (if x = y then [] else [x]) := by
 rw [List.take_add_one (i := i + 1), hx]
 exact dd_snoc x y (getLast_take hy)
theorem ddA_mem (x : α) : ∀ (r : List α) (p : α), x = p ∨ x ∈ ddA p r ↔ x = p ∨ x ∈ r
 | [], p => by simp [ddA]
 | y :: r, p => by
  unfold ddA
  split
  ·rename_i h; subst h
   rw [ddA_mem x r y, List.mem_cons]
   constructor
   ·rintro (h | h)
    ·exact .inl h
    ·exact .inr (.inr h)
   ·rintro (h | h | h)
    ·exact .inl h
    ·exact .inl h
    ·exact .inr h
  ·rw [List.mem_cons, ddA_mem x r y, List.mem_cons]
theorem dd_mem (x : α) (l : List α) : x ∈ dd l ↔ x ∈ l := by
 cases l with
 | nil => exact Iff.rfl
 | cons y r => rw [dd, List.mem_cons, ddA_mem, List.mem_cons]
theorem ddA_asc {lt : α → α → Bool} (hl : Lin lt) : ∀ (r : List α) (p : α), (∀ x ∈ r, lt x p = false) → (r.Pairwise fun x y => lt y x = false) → Asc lt (p :: ddA p r)
 | [], p, _, _ => by simp [ddA, Asc]
 | y :: r, p, h1, h2 => by
  rw [List.pairwise_cons] at h2
  unfold ddA
  split
  ·rename_i h; subst h
   exact ddA_asc hl r y (fun x hx => h2.1 x hx) h2.2
  ·rename_i h
   have h3 := ddA_asc hl r y h2.1 h2.2
   have h4 : lt p y = true := by
    cases h5 : lt p y with
    | true => rfl
    | false => exact absurd (hl.tri _ _ (h1 y (List.mem_cons_self ..)) h5) h
   refine List.pairwise_cons.2 ⟨fun x hx => ?_, h3⟩
   rcases List.mem_cons.1 hx with rfl | hx
   ·exact h4
   ·exact hl.trans _ _ _ h4 ((List.pairwise_cons.1 h3).1 x hx)
theorem dd_asc {lt : α → α → Bool} (hl : Lin lt) {l : List α} (h : ∀ (i j : Nat) (x y : α), i < j → l[i]? = some x → l[j]? = some y → lt y x = false) : Asc lt (dd l) := by
 have h1 : l.Pairwise fun x y => lt y x = false := List.pairwise_iff_getElem.2 fun i j hi hj hij => h i j _ _ hij (List.getElem?_eq_getElem hi) (List.getElem?_eq_getElem hj)
 cases l with
 | nil => exact List.Pairwise.nil
 | cons x r => rw [List.pairwise_cons] at h1; exact ddA_asc hl r x h1.1 h1.2
end
end Go.Proofs.YtefbaladomfccaaGreatDoor
namespace Go.Proofs.YtefbaladomfccaaGreatDoor
open Go.Eng
open Nat renaming reduceAdd → zA, reduceLT → zB, reduceLeDiff → zC, reduceMul → zD, reduceEqDiff → zE, reduceSub → zF
variable [Glob]
set_option maxHeartbeats 4000000
set_option maxRecDepth 100000
attribute [local irreducible] runM stepM valD stepOp stepD callF callS
theorem cutMs_from {mem : List Blk} {b v s n size : Nat} (i : Nat) (h : sizeOfBlk mem b v = some size) (hi : i ≤ n) : cutAt mem size (i : Int) none (.ms b v s n) = some (.ms b v (s + i) (n - i)) := by
 unfold cutAt
 dsimp only
 rw [if_pos ⟨Int.natCast_nonneg _, by simpa using hi, by simp, h⟩]
 simp only [Option.getD_none,Int.toNat_natCast]
 congr 2
 omega
theorem cutMs_to {mem : List Blk} {b v s n size : Nat} (i : Nat) (h : sizeOfBlk mem b v = some size) (hi : i ≤ n) : cutAt mem size 0 (some (i : Int)) (.ms b v s n) = some (.ms b v s i) := by
 unfold cutAt
 dsimp only
 rw [if_pos ⟨Int.le_refl _, by simp, by simpa using hi, h⟩]
 simp
theorem compactU_ok (m : List Blk) (b v : Nat) (hb : b < m.length) (hbl : m.all (belowB m.length) = true) (l : List Us) (hl : l.length ≤ 1048576) :
  FnOkS Tryz.prog 128 [.ms b v 0 l.length] (m.set b (.rows v 2 (l.map encU))) (.ms b v 0 (dd l).length) (m.set b (.rows v 2 ((dd l).map encU))) := by
 have a1 : ∀ X, (m.set b X)[b]? = some X := fun X => by rw [List.getElem?_set]; simp [hb]
 have z1 : ∀ rs, sizeOfBlk (m.set b (.rows v 2 rs)) b v = some 2 := fun rs => by simp [sizeOfBlk, a1]
 have s1 : ∀ X Y, (m.set b X).set b Y = m.set b Y := fun X Y => List.set_set ..
 have ht : ∀ X, (m.set b X).take m.length = m.set b X := fun X => List.take_of_length_le (by simp)
 have fin : ∀ X, Blk.held X = true → belowB m.length X = true → (m.set b X).all (belowB m.length) = true := fun X _ hX => List.all_eq_true.2 fun y hy => by
  rcases List.mem_or_eq_of_mem_set hy with h | h
  ·exact List.all_eq_true.1 hbl y h
  ·rw [h]; exact hX
 refine fns_ok tt_ok (fn := Tryz.f128) m.length (by simp) Tryz.func128 rfl Tryz.call128 ?_
 simp only [ltb,startSt,Tryz.ntmps128,List.length_cons,List.length_nil,zA,zF,List.replicate_succ,List.replicate_zero]
 refine tri_seq_region tt_ok fun K hK => ?_
 simp only [go_sem,reduceIte,zA,zB,zC,zD,zE,zF,reduceCtorEq]
 refine hK _ ?_
 refine tri_seq ?_
 by_cases h2 : l.length < 2
 ·have hd : decide ((l.length : Int) < 2) = true := decide_eq_true (by omega)
  have e0 : dd l = l := by
   match l, h2 with
   | [], _ => rfl
   | [x], _ => rfl
   | x :: y :: r, h => simp at h; omega
  rw [e0]
  refine tri_seq_region tt_ok fun K hK => ?_
  simp only [hd,go_sem,reduceIte,zA,zB,zC,zD,zE,zF,reduceCtorEq]
  refine hK _ ?_
  refine tri_cond rfl ?_
  refine tri_seq_region tt_ok fun K hK => ?_
  simp only [go_sem,reduceIte,zA,zB,zC,zD,zE,zF,reduceCtorEq]
  refine hK _ ?_
  refine tri_ret ⟨.inl rfl, rfl, by simp [belowV, hb], ?_, ?_⟩
  ·dsimp only; rw [ht]; exact fin _ rfl rfl
  ·dsimp only; rw [ht]
 ·have hd : decide ((l.length : Int) < 2) = false := decide_eq_false (by omega)
  refine tri_seq_region tt_ok fun K hK => ?_
  simp only [hd,go_sem,reduceIte,zA,zB,zC,zD,zE,zF,reduceCtorEq]
  refine hK _ ?_
  refine tri_cond rfl (tri_skip ?_)
  show Tri _ _ _ _ _ _
  refine tri_seq ?_
  refine tri_seq_region tt_ok fun K hK => ?_
  simp only [go_sem,reduceIte,zA,zB,zC,zD,zE,zF,reduceCtorEq]
  refine hK _ ?_
  refine tri_block (tri_loop_inv (fun N st => ∃ (i : Nat), N = l.length - i ∧ 1 ≤ i ∧ i ≤ l.length ∧ dd (l.take i) = l.take i ∧
   st = { fr := [.ms b v 0 l.length, .undef, .undef, num i] ++ List.replicate 57 .undef, mem := m.set b (.rows v 2 (l.map encU)) }) (l.length - 1) ?_ ?_)
  ·refine ⟨m.length, [true,false,false,true], by simp, ?_, by dsimp only; rw [ht]; exact fin _ rfl rfl, 1, rfl, Nat.le_refl _, by omega, ?_, ?_⟩
   ·simp only [maskFr,belowV,belowL,belowB,zB,hb,mkb]
   ·match l, h2 with
    | [], h => simp at h
    | x :: r, _ => rfl
   ·dsimp only; rw [ht]; rfl
  ·rintro N' st ⟨i, rfl, hi1, hi, hdi, rfl⟩
   simp only [ltb,List.replicate_succ,List.replicate_zero]
   refine tri_seq ?_
   by_cases hlt : i < l.length
   ·have hd2 := lt_dec hlt
    refine tri_seq_region tt_ok fun K hK => ?_
    simp only [hd2,go_sem,reduceIte,zA,zB,zC,zD,zE,zF,reduceCtorEq]
    refine hK _ ?_
    refine tri_cond rfl (tri_skip ?_)
    refine tri_seq (tri_block ?_)
    obtain ⟨j, rfl⟩ : ∃ j, i = j + 1 := ⟨i - 1, by omega⟩
    obtain ⟨x, hx⟩ : ∃ x : Us, l[j + 1]? = some x := ⟨_, List.getElem?_eq_getElem hlt⟩
    obtain ⟨y, hy⟩ : ∃ y, l[j]? = some y := ⟨_, List.getElem?_eq_getElem (by omega)⟩
    have hI : ((j + 1 : Nat) : Int) < (l.length : Int) := by omega
    have hJ : ((j : Nat) : Int) < (l.length : Int) := by omega
    have hw : IntKind.i64.wrap (((j + 1 : Nat) : Int) - 1) = ((j : Nat) : Int) := i64_c _ j (by omega) (by omega)
    have hdt := dd_take hx hy
    refine tri_seq_mixed tt_ok mixed_ok [⟨.n, 0, [], [], []⟩, ⟨.n, 0, [], [], []⟩, ⟨.r, 0, [], [], []⟩, ⟨.r, 0, [], [], []⟩, ⟨.n, 0, [], [], []⟩, ⟨.n, 0, [], [], []⟩, ⟨.n, 0, [], [], []⟩, ⟨.r, 0, [], [], []⟩, ⟨.r, 0, [], [], []⟩, ⟨.n, 0, [], [], []⟩] 0 (by kernel_rfl) fun K hK => ?_
    simp only [a1,hI,hJ,hw,List.getElem?_map,hx,hy,encU,ev_useql,ev_usneq,go_sem,reduceIte,zA,zB,zC,zD,zE,zF,reduceCtorEq,List.replicate]
    refine hK _ ?_
    cases hq : decide (x = y) with
    | false =>
     have hne : ¬ x = y := of_decide_eq_false hq
     rw [if_neg hne, hdi] at hdt
     refine tri_cond rfl (tri_skip ?_)
     show Tri _ _ _ _ _ _
     have hw2 := i64_succ (j + 1) (by omega)
     refine tri_last_region tt_ok fun K hK => ?_
     simp only [hw2,go_sem,reduceIte,zA,zB,zC,zD,zE,zF,reduceCtorEq]
     refine hK _ ?_
     refine ⟨l.length - (j + 1 + 1), by omega, m.length, [true,false,false,true], by simp, ?_, by dsimp only; rw [ht]; exact fin _ rfl rfl, j + 1 + 1, rfl, by omega, hlt, ?_, ?_⟩
     ·simp only [maskFr,belowV,belowL,belowB,zB,hb,mkb]
     ·rw [hdt, List.take_add_one (i := j + 1), hx]; rfl
     ·dsimp only; rw [ht]; rfl
    | true =>
     have he : x = y := of_decide_eq_true hq
     rw [if_pos he, hdi, List.append_nil] at hdt
     refine tri_cond rfl ?_
     have hk1 := cutMs_from (s := 0) (j + 1) (z1 (l.map encU)) hi
     refine tri_seq_region tt_ok fun K hK => ?_
     simp only [hk1,go_sem,reduceIte,zA,zB,zC,zD,zE,zF,reduceCtorEq]
     refine hK _ ?_
     refine tri_seq ?_
     refine tri_seq_region tt_ok fun K hK => ?_
     simp only [go_sem,reduceIte,zA,zB,zC,zD,zE,zF,reduceCtorEq]
     refine hK _ ?_
     refine tri_block (tri_loop_inv (fun N st => ∃ (q k : Nat), N = l.length - (j + 1) - q ∧ 1 ≤ q ∧ j + 1 + q ≤ l.length ∧ k + 1 ≤ j + 1 + q ∧ (dd (l.take (j + 1 + q))).length = k ∧
      st = { fr := [.ms b v 0 l.length, .undef, .undef, num k, .ms b v (j + 1) (l.length - (j + 1)), num q] ++ List.replicate 55 .undef, mem := m.set b (.rows v 2 ((dd (l.take (j + 1 + q)) ++ l.drop k).map encU)) }) (l.length - (j + 1) - 1) ?_ ?_)
     ·refine ⟨m.length, [true,false,false,true,true,true], by simp, ?_, by dsimp only; rw [ht]; exact fin _ rfl rfl, 1, j + 1, rfl, Nat.le_refl _, by omega, by omega, ?_, ?_⟩
      ·simp only [maskFr,belowV,belowL,belowB,zB,hb,mkb]
      ·rw [hdt, List.length_take]; omega
      ·dsimp only; rw [ht, hdt, List.take_append_drop]; rfl
     ·rintro N' st ⟨q, k, rfl, hq1, hq2, hkq, hlk, rfl⟩
      simp only [ltb,List.replicate_succ,List.replicate_zero]
      refine tri_seq ?_
      by_cases hlt2 : q < l.length - (j + 1)
      ·have hd3 := lt_dec hlt2
       refine tri_seq_region tt_ok fun K hK => ?_
       simp only [hd3,go_sem,reduceIte,zA,zB,zC,zD,zE,zF,reduceCtorEq]
       refine hK _ ?_
       refine tri_cond rfl (tri_skip ?_)
       refine tri_seq (tri_block ?_)
       obtain ⟨p, rfl⟩ : ∃ p, q = p + 1 := ⟨q - 1, by omega⟩
       obtain ⟨x', hx'⟩ : ∃ x', l[j + 1 + p + 1]? = some x' := ⟨_, List.getElem?_eq_getElem (by omega)⟩
       obtain ⟨y', hy'⟩ : ∃ y', l[j + 1 + p]? = some y' := ⟨_, List.getElem?_eq_getElem (by omega)⟩
       obtain ⟨z', hz'⟩ : ∃ z', l[k]? = some z' := ⟨_, List.getElem?_eq_getElem (by omega)⟩
       have hdt' := dd_take hx' hy'
       have g : ∀ t, k ≤ t → (dd (l.take (j + 1 + (p + 1))) ++ l.drop k)[t]? = l[t]? := fun t ht => by
        rw [List.getElem?_append_right (by omega), hlk, List.getElem?_drop]
        congr 1; omega
       have gx := (g (j + 1 + (p + 1)) (by omega)).trans hx'
       have gy := (g (j + 1 + p) (by omega)).trans hy'
       have gz := (g k (by omega)).trans hz'
       have hI' : ((p + 1 : Nat) : Int) < ((l.length - (j + 1) : Nat) : Int) := by omega
       have hJ' : ((p : Nat) : Int) < ((l.length - (j + 1) : Nat) : Int) := by omega
       have hw' : IntKind.i64.wrap (((p + 1 : Nat) : Int) - 1) = ((p : Nat) : Int) := i64_c _ p (by omega) (by omega)
       have hw3 := i64_succ (p + 1) (by omega)
       refine tri_seq_mixed tt_ok mixed_ok [⟨.n, 0, [], [], []⟩, ⟨.n, 0, [], [], []⟩, ⟨.r, 0, [], [], []⟩, ⟨.r, 0, [], [], []⟩, ⟨.n, 0, [], [], []⟩, ⟨.n, 0, [], [], []⟩, ⟨.n, 0, [], [], []⟩, ⟨.r, 0, [], [], []⟩, ⟨.r, 0, [], [], []⟩, ⟨.n, 0, [], [], []⟩] 0 (by kernel_rfl) fun K hK => ?_
       simp only [a1,hI',hJ',hw',List.getElem?_map,gx,gy,encU,ev_useql,ev_usneq,go_sem,reduceIte,zA,zB,zC,zD,zE,zF,reduceCtorEq,List.replicate]
       refine hK _ ?_
       cases hq' : decide (x' = y') with
       | true =>
        have he' : x' = y' := of_decide_eq_true hq'
        rw [if_pos he', List.append_nil] at hdt'
        refine tri_cond rfl (tri_skip ?_)
        show Tri _ _ _ _ _ _
        refine tri_last_region tt_ok fun K hK => ?_
        simp only [hw3,go_sem,reduceIte,zA,zB,zC,zD,zE,zF,reduceCtorEq]
        refine hK _ ?_
        refine ⟨l.length - (j + 1) - (p + 1 + 1), by omega, m.length, [true,false,false,true,true,true], by simp, ?_, by dsimp only; rw [ht]; exact fin _ rfl rfl, p + 1 + 1, k, rfl, by omega, by omega, by omega, ?_, ?_⟩
        ·simp only [maskFr,belowV,belowL,belowB,zB,hb,mkb]
        ·exact (congrArg List.length hdt').trans hlk
        ·have e3 : dd (l.take (j + 1 + (p + 1 + 1))) = dd (l.take (j + 1 + (p + 1))) := hdt'
         dsimp only; rw [ht, e3]; rfl
       | false =>
        have hne' : ¬ x' = y' := of_decide_eq_false hq'
        rw [if_neg hne'] at hdt'
        refine tri_cond rfl ?_
        have hkl : ((k : Nat) : Int) < (l.length : Int) := by omega
        refine tri_seq_region tt_ok fun K hK => ?_
        simp only [a1,s1,hI',hkl,List.getElem?_map,gx,gz,encU,go_sem,reduceIte,zA,zB,zC,zD,zE,zF,reduceCtorEq]
        refine hK _ ?_
        have hw4 := i64_succ k (by omega)
        refine tri_last_region tt_ok fun K hK => ?_
        simp only [hw4,go_sem,reduceIte,zA,zB,zC,zD,zE,zF,reduceCtorEq]
        refine hK _ ?_
        show Tri _ _ _ _ _ _
        refine tri_last_region tt_ok fun K hK => ?_
        simp only [hw3,go_sem,reduceIte,zA,zB,zC,zD,zE,zF,reduceCtorEq]
        refine hK _ ?_
        refine ⟨l.length - (j + 1) - (p + 1 + 1), by omega, m.length, [true,false,false,true,true,true], by simp, ?_, by dsimp only; rw [ht]; exact fin _ rfl rfl, p + 1 + 1, k + 1, rfl, by omega, by omega, by omega, ?_, ?_⟩
        ·simp only [maskFr,belowV,belowL,belowB,zB,hb,mkb]
        ·refine (congrArg List.length hdt').trans ?_
         rw [List.length_append]
         exact congrArg (· + 1) hlk
        ·have e3 : dd (l.take (j + 1 + (p + 1 + 1))) = dd (l.take (j + 1 + (p + 1))) ++ [x'] := hdt'
         have e4 : ((dd (l.take (j + 1 + (p + 1))) ++ l.drop k).map encU).set k (encU x') = (dd (l.take (j + 1 + (p + 1))) ++ [x'] ++ l.drop (k + 1)).map encU := by
          rw [← List.map_set, List.set_append_right _ _ (by omega), hlk, Nat.sub_self, List.drop_eq_getElem_cons (by omega : k < l.length), List.set_cons_zero, List.append_assoc]; rfl
         dsimp only; rw [ht, e3, ← e4]; rfl
      ·have hd3 := ge_dec hlt2
       refine tri_seq_region tt_ok fun K hK => ?_
       simp only [hd3,go_sem,reduceIte,zA,zB,zC,zD,zE,zF,reduceCtorEq]
       refine hK _ ?_
       refine tri_cond rfl (tri_exit ?_)
       obtain rfl : q = l.length - (j + 1) := by omega
       have eq1 : j + 1 + (l.length - (j + 1)) = l.length := by omega
       rw [eq1, List.take_length] at hlk ⊢
       rw [eq1] at hkq
       show Tri _ _ _ _ _ _
       have hc1 := cutMs_from (s := 0) (n := l.length) k (z1 ((dd l ++ l.drop k).map encU)) (by omega)
       have hc2 := cutMs_to (s := 0) (n := l.length) k (z1 ((dd l).map encU)) (by omega)
       refine tri_seq_clear tt_ok [_, _, _] rfl ?_
       simp only [hc1,go_sem,reduceIte,zA,zB,zC,zD,zE,zF,reduceCtorEq]
       refine ⟨m.set b (.rows v 2 ((dd l).map encU)), ?_, ?_⟩
       ·have e5 : ((dd l ++ l.drop k).map encU).take k = (dd l).map encU := by rw [← List.map_take, List.take_append_of_le_length (by omega), List.take_of_length_le (by omega)]
        simp only [clearV,tt72,tt78,a1,s1,e5]
        rw [if_pos (by refine ⟨by trivial, by trivial, by trivial, by simp [Value.oneCell'], by omega, by simp; omega⟩)]
       ·refine tri_seq_region tt_ok fun K hK => ?_
        simp only [hc2,go_sem,reduceIte,zA,zB,zC,zD,zE,zF,reduceCtorEq]
        refine hK _ ?_
        rw [hlk]
        refine tri_ret ⟨.inl rfl, rfl, by simp [belowV, hb], ?_, ?_⟩
        ·dsimp only; rw [ht]; exact fin _ rfl rfl
        ·dsimp only; rw [ht]
   ·have hd2 := ge_dec hlt
    refine tri_seq_region tt_ok fun K hK => ?_
    simp only [hd2,go_sem,reduceIte,zA,zB,zC,zD,zE,zF,reduceCtorEq]
    refine hK _ ?_
    refine tri_cond rfl (tri_exit ?_)
    obtain rfl : i = l.length := by omega
    rw [List.take_length] at hdi
    rw [hdi]
    show Tri _ _ _ _ _ _
    refine tri_seq_region tt_ok fun K hK => ?_
    simp only [go_sem,reduceIte,zA,zB,zC,zD,zE,zF,reduceCtorEq]
    refine hK _ ?_
    refine tri_ret ⟨.inl rfl, rfl, by simp [belowV, hb], ?_, ?_⟩
    ·dsimp only; rw [ht]; exact fin _ rfl rfl
    ·dsimp only; rw [ht]
end Go.Proofs.YtefbaladomfccaaGreatDoor
end

section
namespace Go.Proofs.YtefbaladomfccaaGreatDoor
open Go.Eng
open Nat renaming reduceAdd → zA, reduceLT → zB, reduceLeDiff → zC, reduceMul → zD, reduceEqDiff → zE, reduceSub → zF
variable [Glob]
set_option maxHeartbeats 4000000
set_option maxRecDepth 100000
def RevA (l R : List Us) (i : Nat) : Prop := R.length = l.length ∧ ∀ t, t < l.length → R[t]? = if t < i ∨ l.length ≤ t + i then l[l.length - 1 - t]? else l[t]?
theorem RevA.zero (l : List Us) : RevA l l 0 := ⟨rfl, fun t ht => by rw [if_neg (by omega)]⟩
theorem RevA.step {l R : List Us} {i : Nat} (h : RevA l R i) (hlt : i < l.length - 1 - i) {x y : Us} (hx : R[i]? = some x) (hy : R[l.length - 1 - i]? = some y) : RevA l ((R.set i y).set (l.length - 1 - i) x) (i + 1) := by
 obtain ⟨h1, h2⟩ := h
 refine ⟨by simp [h1], fun t ht => ?_⟩
 have e1 := h2 i (by omega)
 have e2 := h2 (l.length - 1 - i) (by omega)
 rw [if_neg (by omega), hx] at e1
 rw [if_neg (by omega), hy] at e2
 rw [List.getElem?_set, List.getElem?_set]
 by_cases c1 : l.length - 1 - i = t
 ·subst c1
  rw [if_pos rfl, if_pos (by simp [h1]; omega), if_pos (by omega), e1]
  congr 1; omega
 ·rw [if_neg c1]
  by_cases c2 : i = t
  ·subst c2
   rw [if_pos rfl, if_pos (by rw [h1]; exact ht), if_pos (by omega), e2]
  ·rw [if_neg c2, h2 t ht]
   by_cases c3 : t < i ∨ l.length ≤ t + i
   ·rw [if_pos c3, if_pos (by omega)]
   ·rw [if_neg c3, if_neg (by omega)]
theorem RevA.last {l R : List Us} {i : Nat} (h : RevA l R i) (hge : ¬ i < l.length - 1 - i) (hi : i ≤ l.length - 1) : R = l.reverse := by
 obtain ⟨h1, h2⟩ := h
 apply List.ext_getElem?
 intro t
 rcases Nat.lt_or_ge t l.length with ht | ht
 ·rw [h2 t ht, List.getElem?_reverse ht]
  split
  ·rfl
  ·congr 1; omega
 ·rw [List.getElem?_eq_none (by omega), List.getElem?_eq_none (by simp; omega)]
theorem fnOkS_at1 {P : Program} {f : FuncId} {vs : List V} {r : V} {B0 B0' : Blk} (h : FnOkS P f vs [B0] r [B0']) (M : List Blk) (k : Nat) (hv : vs.all (belowV 1) = true) (hm : [B0].all (belowB 1) = true) (hr : belowV 1 r = true) (hm' : [B0'].all (belowB 1) = true)
  (h1 : ∀ σ, renB σ B0 = B0) (h1' : ∀ σ, renB σ B0' = B0') (hk : M[k]? = some B0) :
  FnOkS P f (renL (fun j => if j = 0 then k else M.length + (j - 1)) vs) M (renV (fun j => if j = 0 then k else M.length + (j - 1)) r) (M.set k B0') := by
 have h3 := h.ren M (fun j => if j = 0 then k else M.length + (j - 1)) 1 rfl hv hm hr hm' (by simp) (fun i B hi => by
  match i with
  | 0 => simp at hi; subst hi; rw [h1]; simpa using hk
  | i + 1 => simp at hi) (fun i j hi hj he => by omega) (fun j hj => by rw [if_neg (by omega)])
 have hM : putR (fun j => if j = 0 then k else M.length + (j - 1)) 1 [B0'] M = M.set k B0' := by
  unfold putR
  simp only [ltb,List.map_nil,List.append_nil,setAll]
  show M.set k (renB _ B0') = _
  rw [h1']
 rwa [hM] at h3
theorem rev0_ok (v : Nat) (l : List Us) (h0 : 0 < l.length) (hl : l.length ≤ 1048576) : ∃ r_ m_, (fun r m => r = .tup [] ∧ m = [.rows v 2 (l.reverse.map encU)]) r_ m_ ∧ FnOkS Tryz.prog 88 [.ms 0 v 0 l.length] ([.rows v 2 (l.map encU)]) r_ m_ := by
 refine vfw tt_ok [] 28 [] (1) (by simp) (fn := Tryz.f88) Tryz.func88 rfl Tryz.call88 ⟨rfl, rfl, by simp⟩ fun K hK => ?_
 have hw0 : IntKind.i64.wrap ((l.length : Int) - 1) = ((l.length - 1 : Nat) : Int) := i64_c _ _ (by omega) (by omega)
 simp only [List.length_map,hw0,go_sem,reduceIte,zA,zB,zC,zD,zE,zF,reduceCtorEq]
 refine xloop tt_ok [] (fun a : Nat × List Us => [(0, .ms 0 v 0 l.length), (2, num a.1), (3, num (l.length - 1 - a.1 : Nat))]) (fun a : Nat × List Us => [.rows v 2 (a.2.map encU)]) (fun a => l.length - a.1) (fun a => a.1 ≤ l.length - 1 ∧ RevA l a.2 a.1) ((0, l)) 1 (lies (by omega) (by simp only [List.length_map,hw0,Nat.sub_zero,Int.cast_ofNat_Int,go_sem,reduceIte,zA,zB,zC,zD,zE,zF,reduceCtorEq] <;> rfl)) (⟨Nat.zero_le _, RevA.zero l⟩) ?_
 intro ⟨i, R⟩ ⟨hi, hR⟩
 try dsimp only at hi hR
 try dsimp only
 have hRl := hR.1
 intro Z1 hZ1
 simp only [List.length_map,hw0,go_sem,reduceIte,zA,zB,zC,zD,zE,zF,reduceCtorEq]
 refine gif (fun hc9 => ?_) (fun hc9 => ?_)
 ·have hlt : i < l.length - 1 - i := by have := of_decide_eq_true hc9; omega
  obtain ⟨x, hx⟩ : ∃ x : Us, R[i]? = some x := ⟨_, List.getElem?_eq_getElem (by omega)⟩
  obtain ⟨y, hy⟩ : ∃ y : Us, R[l.length - 1 - i]? = some y := ⟨_, List.getElem?_eq_getElem (by omega)⟩
  have hI : ((i : Nat) : Int) < (l.length : Int) := by omega
  have hJ : ((l.length - 1 - i : Nat) : Int) < (l.length : Int) := by omega
  have hnx := hR.step hlt hx hy
  have hset : ((R.map encU).set i (.agg [str y.1, str y.2])).set (l.length - 1 - i) (.agg [str x.1, str x.2]) = ((R.set i y).set (l.length - 1 - i) x).map encU := by rw [List.map_set, List.map_set]; rfl
  have hg : ∀ Z : V, ((R.map encU).set i Z)[l.length - 1 - i]? = some (.agg [str y.1, str y.2]) := fun Z => by rw [List.getElem?_set_ne (by omega), List.getElem?_map, hy]; rfl
  have hsr : ∀ a b c d : V, setRow (.agg [a, b]) 0 [c, d] = .agg [c, d] := fun _ _ _ _ => rfl
  have hw2 := i64_succ i (by omega)
  have hw3 : IntKind.i64.wrap (((l.length - 1 - i : Nat) : Int) - 1) = ((l.length - 1 - (i + 1) : Nat) : Int) := i64_c _ _ (by omega) (by omega)
  simp only [hg,hsr,hI,hJ,hx,hy,hw2,hw3,List.getElem?_map,encU,List.length_map,hw0,go_sem,reduceIte,zA,zB,zC,zD,zE,zF,reduceCtorEq]
  refine xmixL tt_ok mixed_ok [⟨.n, 0, [], [], []⟩, ⟨.n, 0, [], [], []⟩, ⟨.n, 0, [], [], []⟩, ⟨.n, 0, [], [], []⟩, ⟨.n, 0, [], [], []⟩, ⟨.n, 0, [], [], []⟩, ⟨.r, 0, [], [4,5], []⟩, ⟨.r, 0, [], [4,5,6], []⟩, ⟨.n, 0, [], [], []⟩, ⟨.n, 0, [], [], []⟩, ⟨.r, 0, [], [8,9], []⟩, ⟨.r, 0, [], [8,9,10], []⟩, ⟨.r, 0, [], [0,1,4,5,6,7,8,9,10,11], []⟩, ⟨.w, 0, [], [0,1,4,5,6,7,8,9,10,11,12], []⟩, ⟨.r, 0, [], [0,1,2,3,4,5,6,7,8,9,10,11,12,13], []⟩, ⟨.w, 1, [], [0,1,2,3,4,5,6,7,8,9,10,11,12,13,14], []⟩] 2 (by kernel_rfl) ?_
  simp only [hg,hsr,hI,hJ,hx,hy,hw2,hw3,List.getElem?_map,encU,List.length_map,hw0,go_sem,reduceIte,zA,zB,zC,zD,zE,zF,reduceCtorEq]
  refine hZ1 _ ⟨(i + 1, (R.set i y).set (l.length - 1 - i) x), ?_, ?_, lies (by omega) (by (simp only [hw2,hw3,← hset,go_sem,reduceIte,zA,zB,zC,zD,zE,zF,reduceCtorEq]))⟩
  ·exact ⟨by omega, hnx⟩
  ·dsimp only; omega
 ·have hge : ¬ i < l.length - 1 - i := by have := of_decide_eq_false hc9; omega
  have hfin := hR.last hge hi
  simp only [List.length_map,hw0,go_sem,reduceIte,zA,zB,zC,zD,zE,zF,reduceCtorEq]
  exact hK _ _ ⟨rfl, by rw [← hfin]⟩
theorem rev_at (v : Nat) (l : List Us) (h0 : 0 < l.length) (hl : l.length ≤ 1048576) (M : List Blk) (k : Nat) (hk : M[k]? = some (.rows v 2 (l.map encU))) : ∃ r_ m_, (fun r m => r = V.tup [] ∧ m = M.set k (.rows v 2 (l.reverse.map encU))) r_ m_ ∧ FnOkS Tryz.prog 88 [.ms k v 0 l.length] M r_ m_ := by
 obtain ⟨_, _, ⟨rfl, rfl⟩, h⟩ := rev0_ok v l h0 hl
 have h3 := fnOkS_at1 h M k (by simp [belowV]) (by simp [belowB]) rfl (by simp [belowB]) (fun σ => rfl) (fun σ => rfl) hk
 exact ⟨_, _, ⟨rfl, rfl⟩, by simpa [renL, renV] using h3⟩
end Go.Proofs.YtefbaladomfccaaGreatDoor
end

section
namespace Go.Proofs.YtefbaladomfccaaGreatDoor
open Go.Eng
open Nat renaming reduceAdd → zA, reduceLT → zB, reduceLeDiff → zC, reduceMul → zD, reduceEqDiff → zE, reduceSub → zF
variable [Glob]
set_option maxHeartbeats 4000000
set_option maxRecDepth 100000
abbrev GD := List (Us × Dc)
def lookU (u : Us) (g : GD) : Option Dc := (g.find? fun e => decide (e.1 = u)).map (·.2)
def encG (g : GD) : List (Us × V) := g.map fun e => (e.1, encDc e.2)
def encS (l : List ByteArray) : List (ByteArray × V) := l.map fun s => (s, bl true)
theorem get_encG (u : Us) : ∀ g : GD, getM u (encG g) = (lookU u g).map encDc
 | [] => rfl
 | e :: g => by
  show (if e.1 = u then some (encDc e.2) else getM u (encG g)) = _
  rw [get_encG u g]
  unfold lookU
  by_cases h : e.1 = u
  ·rw [if_pos h, List.find?_cons_of_pos (by simpa using h)]; rfl
  ·rw [if_neg h, List.find?_cons_of_neg (by simpa using h)]
def hasS (l : List ByteArray) (s : ByteArray) : Bool := l.any fun t => decide (t = s)
theorem get_encS (s : ByteArray) : ∀ l : List ByteArray, getM s (encS l) = if hasS l s = true then some (bl true) else none
 | [] => rfl
 | e :: g => by
  show (if e = s then some (bl true) else getM s (encS g)) = _
  rw [get_encS s g]
  unfold hasS
  rw [List.any_cons]
  by_cases h : e = s
  ·rw [if_pos h, decide_eq_true h, Bool.true_or, if_pos rfl]
  ·rw [if_neg h, decide_eq_false h, Bool.false_or]
theorem findM_none {α : Type} [DecidableEq α] {a : α} : ∀ {g : List (α × V)} {n : Nat}, getM a g = none → findM a g n = none
 | [], _, _ => rfl
 | e :: g, n, h => by
  unfold getM at h
  unfold findM
  split at h
  ·cases h
  ·rename_i hne
   rw [if_neg hne]; exact findM_none h
theorem put_none {α : Type} [DecidableEq α] {a : α} {v : V} {g : List (α × V)} (h : getM a g = none) : putM a v g = g ++ [(a, v)] := by unfold putM; rw [findM_none h]
def stepD (path : ByteArray) (g : GD) (d : Dc) : GD := if (lookU (path, d.name) g).isSome = true then g else g ++ [((path, d.name), d)]
def stepMd (S : List ByteArray × GD) (m : Md) : List ByteArray × GD := if hasS S.1 m.path = true then S else (S.1 ++ [m.path], m.decls.foldl (stepD m.path) S.2)
def mdsO (p : List Md) (i : Nat) : List ByteArray × GD := (p.take i).foldl stepMd ([], [])
def dcsO (m : Md) (g : GD) (j : Nat) : GD := (m.decls.take j).foldl (stepD m.path) g
def decG (p : List Md) : GD := (mdsO p p.length).2
theorem mdsO_succ {p : List Md} {i : Nat} {m : Md} (h : p[i]? = some m) : mdsO p (i + 1) = stepMd (mdsO p i) m := by
 unfold mdsO; rw [List.take_add_one, h, List.foldl_append]; rfl
theorem dcsO_succ {m : Md} {g : GD} {j : Nat} {d : Dc} (h : m.decls[j]? = some d) : dcsO m g (j + 1) = stepD m.path (dcsO m g j) d := by
 unfold dcsO; rw [List.take_add_one, h, List.foldl_append]; rfl
theorem dcsO_full (m : Md) (g : GD) : dcsO m g m.decls.length = m.decls.foldl (stepD m.path) g := by unfold dcsO; rw [List.take_length]
theorem encDc_below (n : Nat) (d : Dc) : belowV n (encDc d) = true := by rw [encDc_eq]; simp [dcCells, tyCells, exCells, belowV, belowL]
theorem encG_below (n : Nat) (g : GD) : ((mkM usV 0 (encG g)).all fun e => belowV n e.2.2) = true := by
 rw [mkM_all usV (belowV n)]; unfold encG; simp [encDc_below]
theorem encS_below (n : Nat) (g : List ByteArray) : ((mkM strVal 0 (encS g)).all fun e => belowV n e.2.2) = true := by
 rw [mkM_all strVal (belowV n)]; unfold encS; simp [belowV]
theorem mapD : mapDesc Tryz.prog 94 = some (78, 109) := by kernel_rfl
theorem mapB : mapDesc Tryz.prog 172 = some (9, 4) := by kernel_rfl
theorem zeroD : zeroV Tryz.prog 109 = some (.agg [num 0, str ⟨#[]⟩, bl false, bl false, str ⟨#[]⟩, .sc (.slice none 0 0), num 0, str ⟨#[]⟩, str ⟨#[]⟩, .sc (.slice none 0 0), .sc (.slice none 0 0), num 0, str ⟨#[]⟩, str ⟨#[]⟩, .sc (.slice none 0 0), .sc (.slice none 0 0), num 0, str ⟨#[]⟩, str ⟨#[]⟩, .sc (.slice none 0 0), .sc (.slice none 0 0), num 0, str ⟨#[]⟩, str ⟨#[]⟩, str ⟨#[]⟩, num 0, .sc (.slice none 0 0), .sc (.slice none 0 0), .sc (.slice none 0 0), str ⟨#[]⟩, str ⟨#[]⟩]) := by kernel_rfl
theorem zeroB : zeroV Tryz.prog 4 = some (bl false) := by kernel_rfl
theorem lookD (u : Us) (g : GD) {mem : List Blk} {b : Nat} (hm : mem[b]? = some (.map (mkM usV 0 (encG g)) (encG g).length)) (ok : Bool) :
  lookupV Tryz.prog mem 94 (.mp b) (.agg [str u.1, str u.2]) ok = some (okV ok (lookU u g).isSome (((lookU u g).map encDc).getD (.agg [num 0, str ⟨#[]⟩, bl false, bl false, str ⟨#[]⟩, .sc (.slice none 0 0), num 0, str ⟨#[]⟩, str ⟨#[]⟩, .sc (.slice none 0 0), .sc (.slice none 0 0), num 0, str ⟨#[]⟩, str ⟨#[]⟩, .sc (.slice none 0 0), .sc (.slice none 0 0), num 0, str ⟨#[]⟩, str ⟨#[]⟩, .sc (.slice none 0 0), .sc (.slice none 0 0), num 0, str ⟨#[]⟩, str ⟨#[]⟩, str ⟨#[]⟩, num 0, .sc (.slice none 0 0), .sc (.slice none 0 0), .sc (.slice none 0 0), str ⟨#[]⟩, str ⟨#[]⟩]))) := by
 have h := (ktUse mapD).get u (encG g) hm zeroD ok
 rw [get_encG] at h
 simpa [encU] using h
theorem putD {u : Us} {g : GD} (h : lookU u g = none) (d : Dc) {mem : List Blk} {b : Nat} (hm : mem[b]? = some (.map (mkM usV 0 (encG g)) (encG g).length)) :
  insertV Tryz.prog mem 94 (.mp b) (.agg [str u.1, str u.2]) (encDc d) = some (mem.set b (.map (mkM usV 0 (encG (g ++ [(u, d)]))) (encG (g ++ [(u, d)])).length)) := by
 have h2 := (ktUse mapD).put u (encDc d) (encG g) hm
 rw [put_none (by rw [get_encG, h]; rfl)] at h2
 have e : encG g ++ [(u, encDc d)] = encG (g ++ [(u, d)]) := by simp [encG]
 rw [e] at h2
 exact h2
theorem lookS (s : ByteArray) (l : List ByteArray) {mem : List Blk} {b : Nat} (hm : mem[b]? = some (.map (mkM strVal 0 (encS l)) (encS l).length)) :
  lookupV Tryz.prog mem 172 (.mp b) (str s) false = some (bl (hasS l s)) := by
 have h := (ktStr mapB).get s (encS l) hm zeroB false
 rw [get_encS] at h
 rw [h]
 cases hasS l s <;> rfl
theorem putS {s : ByteArray} {l : List ByteArray} (h : hasS l s = false) {mem : List Blk} {b : Nat} (hm : mem[b]? = some (.map (mkM strVal 0 (encS l)) (encS l).length)) :
  insertV Tryz.prog mem 172 (.mp b) (str s) (bl true) = some (mem.set b (.map (mkM strVal 0 (encS (l ++ [s]))) (encS (l ++ [s])).length)) := by
 have h2 := (ktStr mapB).put s (bl true) (encS l) hm
 rw [put_none (by rw [get_encS, h]; rfl)] at h2
 have e : encS l ++ [(s, bl true)] = encS (l ++ [s]) := by simp [encS]
 rw [e] at h2
 exact h2
theorem newDecls_ok (p : List Md) (hl : p.length ≤ 1048576) (hw : ∀ m ∈ p, m.wt ≤ 1048576) : ∃ r_ m_, (fun r m => r = .mp 0 ∧ m = [.map (mkM usV 0 (encG (decG p))) (encG (decG p)).length]) r_ m_ ∧ FnOkS Tryz.prog 38 [.slice (p.map encMd)] ([]) r_ m_ := by
 refine vfw tt_ok [] 53 [.tmp 2] (1) (by simp) (fn := Tryz.f38) Tryz.func38 rfl Tryz.call38 ⟨rfl, rfl, by simp⟩ fun K hK => ?_
 simp only [encG_below,encS_below,List.length_map,go_sem,reduceIte,zA,zB,zC,zD,zE,zF,reduceCtorEq]
 refine xloop tt_ok [] (fun i : Nat => [(3, .mp 0), (4, .mp 1), (14, .slice (p.map encMd)), (15, num p.length), (16, num i)]) (fun i : Nat => [.map (mkM usV 0 (encG (mdsO p i).2)) (encG (mdsO p i).2).length, .map (mkM strVal 0 (encS (mdsO p i).1)) (encS (mdsO p i).1).length]) (fun i => p.length - i) (fun i => i ≤ p.length) (0) 2 (lies (by omega) (by simp only [encG_below,encS_below,List.length_map,mdsO,List.take_zero,List.foldl_nil,encG,encS,List.map_nil,mkM,List.length_nil,Int.cast_ofNat_Int,go_sem,reduceIte,zA,zB,zC,zD,zE,zF,reduceCtorEq] <;> rfl)) (Nat.zero_le _) ?_
 intro i hi
 intro Z1 hZ1
 simp only [encG_below,encS_below,List.length_map,go_sem,reduceIte,zA,zB,zC,zD,zE,zF,reduceCtorEq]
 refine gif (fun hc17 => ?_) (fun hc17 => ?_)
 ·have hlti : i < p.length := by simpa using hc17
  have hwi := i64_succ i (by omega)
  obtain ⟨m, hx⟩ : ∃ m, p[i]? = some m := ⟨_, List.getElem?_eq_getElem hlti⟩
  have hmw := hw m (List.mem_of_getElem? hx)
  have hmd : m.wt = 1 + m.path.size + sumBy Im.wt m.imports + sumBy Dc.wt m.decls := rfl
  have hdl := length_le_sum Dc.wt Dc.wt_pos m.decls
  have hlks := fun B0 B2 => lookS m.path (mdsO p i).1 (mem := [B0, .map (mkM strVal 0 (encS (mdsO p i).1)) (encS (mdsO p i).1).length, B2]) (b := 1) rfl
  simp only [encG_below,encS_below,hx,List.getElem?_map,encMd_eq,mdCells,hlks,List.length_map,go_sem,reduceIte,zA,zB,zC,zD,zE,zF,reduceCtorEq]
  refine gif (fun hc23 => ?_) (fun hc23 => ?_)
  ·have hin : hasS (mdsO p i).1 m.path = true := hc23
   have hnx : mdsO p (i + 1) = mdsO p i := by rw [mdsO_succ hx]; unfold stepMd; rw [if_pos hin]
   simp only [encG_below,encS_below,hx,List.getElem?_map,encMd_eq,mdCells,hlks,List.length_map,go_sem,reduceIte,zA,zB,zC,zD,zE,zF,reduceCtorEq]
   refine hZ1 _ ⟨i + 1, ?_, ?_, lies (by omega) (by (simp only [hwi,hnx,encG_below,encS_below,go_sem,reduceIte,zA,zB,zC,zD,zE,zF,reduceCtorEq]))⟩
   ·exact hlti
   ·omega
  ·have hnin : hasS (mdsO p i).1 m.path = false := hc23
   have hput := fun B0 B2 => putS hnin (mem := [B0, .map (mkM strVal 0 (encS (mdsO p i).1)) (encS (mdsO p i).1).length, B2]) (b := 1) rfl
   simp only [encG_below,encS_below,hx,List.getElem?_map,encMd_eq,mdCells,hlks,hput,List.length_map,go_sem,reduceIte,zA,zB,zC,zD,zE,zF,reduceCtorEq]
   refine xloop tt_ok [] (fun j : Nat => [(3, .mp 0), (4, .mp 1), (6, .ptr 2 0), (14, .slice (p.map encMd)), (15, num p.length), (16, num i), (28, .slice (m.decls.map encDc)), (29, num m.decls.length), (30, num j)]) (fun j : Nat => [.map (mkM usV 0 (encG (dcsO m (mdsO p i).2 j))) (encG (dcsO m (mdsO p i).2 j)).length, .map (mkM strVal 0 (encS ((mdsO p i).1 ++ [m.path]))) (encS ((mdsO p i).1 ++ [m.path])).length, .box [str m.path, .slice (m.imports.map encIm), .slice (m.decls.map encDc)]]) (fun j => m.decls.length - j) (fun j => j ≤ m.decls.length) (0) 3 (lies (by omega) (by simp only [encG_below,encS_below,hx,List.getElem?_map,encMd_eq,mdCells,hlks,hput,List.length_map,dcsO,List.take_zero,List.foldl_nil,Int.cast_ofNat_Int,go_sem,reduceIte,zA,zB,zC,zD,zE,zF,reduceCtorEq] <;> rfl)) (Nat.zero_le _) ?_
   intro j hj
   intro Z2 hZ2
   simp only [encG_below,encS_below,hx,List.getElem?_map,encMd_eq,mdCells,hlks,hput,List.length_map,go_sem,reduceIte,zA,zB,zC,zD,zE,zF,reduceCtorEq]
   refine gif (fun hc31 => ?_) (fun hc31 => ?_)
   ·have hltj : j < m.decls.length := by simpa using hc31
    have hwj := i64_succ j (by omega)
    obtain ⟨d, hd⟩ : ∃ d, m.decls[j]? = some d := ⟨_, List.getElem?_eq_getElem hltj⟩
    have hlook := fun B1 B2 B3 B4 => lookD (m.path, d.name) (dcsO m (mdsO p i).2 j) (mem := [.map (mkM usV 0 (encG (dcsO m (mdsO p i).2 j))) (encG (dcsO m (mdsO p i).2 j)).length, B1, B2, B3, B4]) (b := 0) rfl true
    rcases hlu : lookU (m.path, d.name) (dcsO m (mdsO p i).2 j) with _ | dd
    ·have hputd := fun B1 B2 B3 B4 B5 => putD hlu d (mem := [.map (mkM usV 0 (encG (dcsO m (mdsO p i).2 j))) (encG (dcsO m (mdsO p i).2 j)).length, B1, B2, B3, B4, B5]) (b := 0) rfl
     have hnd : dcsO m (mdsO p i).2 (j + 1) = dcsO m (mdsO p i).2 j ++ [((m.path, d.name), d)] := by rw [dcsO_succ hd]; unfold stepD; rw [hlu]; rfl
     rw [encDc_eq] at hputd
     simp only [ltb,dcCells,tyCells,exCells] at hputd
     simp only [encG_below,encS_below,hx,List.getElem?_map,encMd_eq,mdCells,hlks,hput,hd,hlook,encDc_eq,dcCells,tyCells,exCells,List.cons_append,List.nil_append,hlu,hputd,Option.isSome_none,Option.map_none,Option.getD_none,okV,List.length_map,go_sem,reduceIte,zA,zB,zC,zD,zE,zF,reduceCtorEq]
     refine hZ2 _ ⟨j + 1, ?_, ?_, lies (by omega) (by (simp only [hwj,hnd,encG_below,encS_below,go_sem,reduceIte,zA,zB,zC,zD,zE,zF,reduceCtorEq]))⟩
     ·exact hltj
     ·omega
    ·have hnd : dcsO m (mdsO p i).2 (j + 1) = dcsO m (mdsO p i).2 j := by rw [dcsO_succ hd]; unfold stepD; rw [hlu]; rfl
     simp only [encG_below,encS_below,hx,List.getElem?_map,encMd_eq,mdCells,hlks,hput,hd,hlook,encDc_eq,dcCells,tyCells,exCells,List.cons_append,List.nil_append,hlu,Option.isSome_some,Option.map_some,Option.getD_some,okV,List.length_map,go_sem,reduceIte,zA,zB,zC,zD,zE,zF,reduceCtorEq]
     refine hZ2 _ ⟨j + 1, ?_, ?_, lies (by omega) (by (simp only [hwj,hnd,encG_below,encS_below,go_sem,reduceIte,zA,zB,zC,zD,zE,zF,reduceCtorEq]))⟩
     ·exact hltj
     ·omega
   ·have hgej : j = m.decls.length := by have := of_decide_eq_false hc31; omega
    have hnx : mdsO p (i + 1) = ((mdsO p i).1 ++ [m.path], dcsO m (mdsO p i).2 j) := by rw [mdsO_succ hx]; unfold stepMd; rw [if_neg (by rw [hnin]; decide), hgej, dcsO_full]
    simp only [encG_below,encS_below,hx,List.getElem?_map,encMd_eq,mdCells,hlks,hput,List.length_map,go_sem,reduceIte,zA,zB,zC,zD,zE,zF,reduceCtorEq]
    refine hZ1 _ ⟨i + 1, ?_, ?_, lies (by omega) (by (simp only [hwi,hnx,encG_below,encS_below,go_sem,reduceIte,zA,zB,zC,zD,zE,zF,reduceCtorEq]))⟩
    ·exact hlti
    ·omega
 ·have hgei : i = p.length := by have := of_decide_eq_false hc17; omega
  rw [hgei]
  simp only [encG_below,encS_below,List.length_map,go_sem,reduceIte,zA,zB,zC,zD,zE,zF,reduceCtorEq]
  exact hK _ _ ⟨rfl, rfl⟩
end Go.Proofs.YtefbaladomfccaaGreatDoor
end

section
namespace Go.Proofs.YtefbaladomfccaaGreatDoor
open Go.Eng
open Nat renaming reduceAdd → zA, reduceLT → zB, reduceLeDiff → zC, reduceMul → zD, reduceEqDiff → zE, reduceSub → zF
variable [Glob]
set_option maxHeartbeats 4000000
set_option maxRecDepth 100000
def leadF (look : Us → Option Dc) : Nat → Us → Option Us
 | 0, _ => none
 | n + 1, u => match look u with
  | none => none
  | some d => if d.kind = 1 then some u else if d.kind = 2 then leadF look n (d.mod, d.target) else none
def leads (look : Us → Option Dc) (u : Us) : Option Us := leadF look 4097 u
def u0 : Us := (⟨#[]⟩, ⟨#[]⟩)
def leadV (look : Us → Option Dc) (u : Us) : V := .tup [encU ((leads look u).getD u0), bl (leads look u).isSome]
theorem lead_at {look : Us → Option Dc} {u v : Us} {i : Nat} (hi : i < 4097) (h : leads look u = leadF look (4097 - i) v) : leads look u = (match look v with
  | none => none
  | some d => if d.kind = 1 then some v else if d.kind = 2 then leadF look (4097 - (i + 1)) (d.mod, d.target) else none) := by
 rw [h, show 4097 - i = (4097 - (i + 1)) + 1 by omega, leadF]
theorem lead_no {look : Us → Option Dc} {u : Us} (h : leads look u = none) : leadV look u = .tup [.agg [str ⟨#[]⟩, str ⟨#[]⟩], bl false] := by unfold leadV; rw [h]; rfl
theorem lead_yes {look : Us → Option Dc} {u v : Us} (h : leads look u = some v) : leadV look u = .tup [.agg [str v.1, str v.2], bl true] := by unfold leadV; rw [h]; rfl
theorem end_ok (g : GD) (u : Us) : ∃ r_, (fun w => w = leadV (fun v => lookU v g) u) r_ ∧ FnOkS Tryz.prog 39 [.mp 0, encU u] ([.map (mkM usV 0 (encG g)) (encG g).length]) r_ ([.map (mkM usV 0 (encG g)) (encG g).length]) := by
 refine vfs tt_ok [] 37 [.cell 4 78, .tmp 5] (fn := Tryz.f39) Tryz.func39 rfl Tryz.call39 ⟨rfl, rfl, by simp⟩ fun K hK => ?_
 simp only [encU]
 simp only [encG_below,go_sem,reduceIte,zA,zB,zC,zD,zE,zF,reduceCtorEq]
 refine xloop tt_ok [] (fun a : Nat × Us => [(0, .mp 0), (3, .ptr 1 0), (4, .ptr 2 0), (8, num a.1)]) (fun a : Nat × Us => [.map (mkM usV 0 (encG g)) (encG g).length, .box [str a.2.1, str a.2.2], .box [str ⟨#[]⟩, str ⟨#[]⟩]]) (fun a => 4097 - a.1) (fun a => a.1 ≤ 4097 ∧ leads (fun v => lookU v g) u = leadF (fun v => lookU v g) (4097 - a.1) a.2) ((0, u)) 3 (lies (by omega) (by simp only [encG_below,Int.cast_ofNat_Int,go_sem,reduceIte,zA,zB,zC,zD,zE,zF,reduceCtorEq] <;> rfl)) (⟨Nat.zero_le _, rfl⟩) ?_
 intro ⟨i, v⟩ ⟨hi, hld⟩
 try dsimp only at hi hld
 try dsimp only
 intro Z1 hZ1
 simp only [encG_below,go_sem,reduceIte,zA,zB,zC,zD,zE,zF,reduceCtorEq]
 refine gif (fun hc9 => ?_) (fun hc9 => ?_)
 ·have hlt : i < 4097 := by have := of_decide_eq_true hc9; omega
  have hwi := i64_succ i (by omega)
  have hlook := fun B1 B2 => lookD v g (mem := [.map (mkM usV 0 (encG g)) (encG g).length, B1, B2]) (b := 0) rfl true
  rcases hlu : lookU v g with _ | d
  ·have hres := lead_no (u := u) (look := fun v => lookU v g) (by rw [lead_at hlt hld]; (try dsimp only); rw [hlu])
   simp only [encG_below,hlook,hlu,Option.isSome_none,Option.map_none,Option.getD_none,okV,go_sem,reduceIte,zA,zB,zC,zD,zE,zF,reduceCtorEq]
   exact hK _ _ ⟨hres.symm, rfl⟩
  ·simp only [ltb,encG_below,hlook,hlu,Option.isSome_some,Option.map_some,Option.getD_some,okV,encDc_eq,dcCells,tyCells,exCells,go_sem,reduceIte,zA,zB,zC,zD,zE,zF,reduceCtorEq]
   refine gif (fun hc20 => ?_) (fun hc20 => ?_)
   ·have hk1 : d.kind = 1 := of_decide_eq_true hc20
    have hres := lead_yes (u := u) (look := fun v => lookU v g) (v := v) (by rw [lead_at hlt hld]; (try dsimp only); rw [hlu]; (try dsimp only); rw [if_pos hk1])
    simp only [ltb,encG_below,hlook,hlu,Option.isSome_some,Option.map_some,Option.getD_some,okV,encDc_eq,dcCells,tyCells,exCells,go_sem,reduceIte,zA,zB,zC,zD,zE,zF,reduceCtorEq]
    exact hK _ _ ⟨hres.symm, rfl⟩
   ·have hk1 : ¬ d.kind = 1 := of_decide_eq_false hc20
    simp only [ltb,encG_below,hlook,hlu,Option.isSome_some,Option.map_some,Option.getD_some,okV,encDc_eq,dcCells,tyCells,exCells,go_sem,reduceIte,zA,zB,zC,zD,zE,zF,reduceCtorEq]
    refine gif (fun hc25 => ?_) (fun hc25 => ?_)
    ·have hk2 : ¬ d.kind = 2 := by simpa using hc25
     have hres := lead_no (u := u) (look := fun v => lookU v g) (by rw [lead_at hlt hld]; (try dsimp only); rw [hlu]; (try dsimp only); rw [if_neg hk1, if_neg hk2])
     simp only [ltb,encG_below,hlook,hlu,Option.isSome_some,Option.map_some,Option.getD_some,okV,encDc_eq,dcCells,tyCells,exCells,go_sem,reduceIte,zA,zB,zC,zD,zE,zF,reduceCtorEq]
     exact hK _ _ ⟨hres.symm, rfl⟩
    ·have hk2 : d.kind = 2 := by simpa using hc25
     simp only [ltb,encG_below,hlook,hlu,Option.isSome_some,Option.map_some,Option.getD_some,okV,encDc_eq,dcCells,tyCells,exCells,go_sem,reduceIte,zA,zB,zC,zD,zE,zF,reduceCtorEq]
     refine hZ1 _ ⟨(i + 1, (d.mod, d.target)), ?_, ?_, lies (by omega) (by (simp only [hwi,encG_below,go_sem,reduceIte,zA,zB,zC,zD,zE,zF,reduceCtorEq]))⟩
     ·exact ⟨hlt, by rw [lead_at hlt hld]; (try dsimp only); rw [hlu]; (try dsimp only); rw [if_neg hk1, if_pos hk2]⟩
     ·dsimp only; omega
 ·have hge : i = 4097 := by have := of_decide_eq_false hc9; omega
  have hres := lead_no (u := u) (look := fun v => lookU v g) (by rw [hld, hge]; rfl)
  simp only [encG_below,go_sem,reduceIte,zA,zB,zC,zD,zE,zF,reduceCtorEq]
  exact hK _ _ ⟨hres.symm, rfl⟩
theorem encDc_ren (σ : Nat → Nat) (d : Dc) : renV σ (encDc d) = encDc d := renV_pure σ (encDc_below 0 d)
theorem renB_encG (σ : Nat → Nat) (g : GD) (c : Nat) : renB σ (.map (mkM usV 0 (encG g)) c) = .map (mkM usV 0 (encG g)) c := by
 have key : ∀ (g : GD) (n : Nat), (mkM usV n (encG g)).map (fun e => (e.1, e.2.1, renV σ e.2.2)) = mkM usV n (encG g) := by
  intro g
  induction g with
  | nil => intro n; rfl
  | cons e r ih =>
   intro n
   show (usV e.1, n, renV σ (encDc e.2)) :: (mkM usV (n + 1) (encG r)).map _ = _
   rw [ih (n + 1), encDc_ren]; rfl
 simp only [renB]
 rw [key g 0]
theorem fnOkS_one {P : Program} {f : FuncId} {vs : List V} {r : V} {B0 : Blk} (h : FnOkS P f vs [B0] r [B0]) (M : List Blk) (k : Nat) (hv : vs.all (belowV 1) = true) (hm : [B0].all (belowB 1) = true) (hr : belowV 1 r = true) (h1 : ∀ σ, renB σ B0 = B0) (hk : M[k]? = some B0) :
  FnOkS P f (renL (fun j => if j = 0 then k else M.length + (j - 1)) vs) M (renV (fun j => if j = 0 then k else M.length + (j - 1)) r) M := by
 have h3 := h.ren M (fun j => if j = 0 then k else M.length + (j - 1)) 1 rfl hv hm hr hm (by simp) (fun i B hi => by
  match i with
  | 0 => simp at hi; subst hi; rw [h1]; simpa using hk
  | i + 1 => simp at hi) (fun i j hi hj he => by omega) (fun j hj => by rw [if_neg (by omega)])
 have hM : putR (fun j => if j = 0 then k else M.length + (j - 1)) 1 [B0] M = M := by
  unfold putR
  simp only [ltb,List.map_nil,List.append_nil,setAll]
  show M.set k (renB _ B0) = _
  rw [h1]; exact set_same hk
 rwa [hM] at h3
theorem end_at (g : GD) (u : Us) (M : List Blk) (k : Nat) (hk : M[k]? = some (.map (mkM usV 0 (encG g)) (encG g).length)) : FnOkS Tryz.prog 39 [.mp k, .agg [str u.1, str u.2]] M (leadV (fun v => lookU v g) u) M := by
 obtain ⟨_, rfl, h⟩ := end_ok g u
 have hb : ∀ n, belowB n (.map (mkM usV 0 (encG g)) (encG g).length) = true := fun n => encG_below n g
 have h3 := fnOkS_one h M k (by simp [belowV, belowL, encU]) (by simp [hb]) (by unfold leadV encU; simp [belowV, belowL]) (fun σ => renB_encG σ g _) hk
 have e : ∀ σ, renV σ (leadV (fun v => lookU v g) u) = leadV (fun v => lookU v g) u := fun σ => renV_pure σ (by unfold leadV encU; simp [belowV, belowL])
 rw [e] at h3
 simpa [renL, renV, encU] using h3
end Go.Proofs.YtefbaladomfccaaGreatDoor
end

section
namespace Go.Eng
variable [Glob]
section
variable {P : Program} {tt : Table} {ρ : Option Nat} {n0 : Nat} {st : St} {Q : Exit → St → Prop}
theorem tri_mid {x y : Code} (J : St → Prop) (hx : Tri P ρ n0 x st (thenQ (fun st' => Trims n0 st' J) Q)) (hy : ∀ st1, J st1 → Tri P ρ n0 y st1 Q) : Tri P ρ n0 (.seq x y) st Q := by
 refine tri_seq (Tri.mono hx fun ex st' h => ?_)
 cases ex with
 | normal =>
  obtain ⟨n, m, h1, h2, h3, h4⟩ := h
  exact tri_mask n m h1 h2 h3 (hy _ h4)
 | _ => exact h
end
end Go.Eng
namespace Go.Proofs.YtefbaladomfccaaGreatDoor
open Go.Eng
open Nat renaming reduceAdd → zA, reduceLT → zB, reduceLeDiff → zC, reduceMul → zD, reduceEqDiff → zE, reduceSub → zF
variable [Glob]
set_option maxHeartbeats 4000000
set_option maxRecDepth 100000
section
variable (look : Us → Option Dc)
def ownU (e : Ex) : List Us := if decide (e.kind = 4) = true then (match leads look (e.mod, e.name) with | some u => [u] | none => []) else []
mutual
def usedE : Ex → List Us
 | .mk k m n t i ts ls ks => ownU look (.mk k m n t i ts ls ks) ++ usedEs ks
def usedEs : List Ex → List Us
 | [] => []
 | e :: r => usedE e ++ usedEs r
end
theorem usedEs_flat (l : List Ex) : usedEs look l = l.flatMap (usedE look) := by
 induction l with
 | nil => rfl
 | cons e r ih => rw [usedEs, ih, List.flatMap_cons]
theorem usedE_eq (e : Ex) : usedE look e = ownU look e ++ e.kids.flatMap (usedE look) := by
 obtain ⟨k, m, n, t, i, ts, ls, ks⟩ := e
 rw [usedE, usedEs_flat]; rfl
theorem ownU_len (e : Ex) : (ownU look e).length ≤ 1 := by
 unfold ownU
 split
 ·split <;> simp
 ·simp
mutual
theorem usedE_len : ∀ e : Ex, (usedE look e).length ≤ e.wt
 | .mk k m n t i ts ls ks => by
  have h1 := usedEs_len ks
  have h2 := ownU_len look (.mk k m n t i ts ls ks)
  rw [usedE, List.length_append]
  simp only [Ex.wt]; omega
theorem usedEs_len : ∀ l : List Ex, (usedEs look l).length ≤ wtExs l
 | [] => Nat.le_refl _
 | e :: r => by
  have h1 := usedE_len e
  have h2 := usedEs_len r
  rw [usedEs, List.length_append]
  simp only [wtExs]; omega
end
end
abbrev usedG (g : GD) (e : Ex) : List Us := usedE (fun v => lookU v g) e
section
variable {σ : Type} {step : σ → Us → σ} {G : Nat → σ → Prop} {B : Nat}
theorem foldG (h : ∀ c s u, c < B → G c s → G (c + 1) (step s u)) : ∀ (l : List Us) (c : Nat) (s : σ), G c s → c + l.length ≤ B → G (c + l.length) (l.foldl step s)
 | [], c, s, hg, _ => hg
 | u :: r, c, s, hg, hc => by
  rw [List.length_cons] at hc
  have := foldG h r (c + 1) (step s u) (h c s u (by omega) hg) (by omega)
  rw [List.length_cons, List.foldl_cons, show c + (r.length + 1) = c + 1 + r.length by omega]
  exact this
end
section
variable {σ : Type} {M : σ → List Blk} {n k k1 k2 k3 km : Nat}
theorem walkA_ok (g : GD) (hn : ∀ s, (M s).length = n) (hk : k < n) (hk1 : k1 < n) (hk2 : k2 < n) (hk3 : k3 < n) (hkm : km < n) (h1 : ∀ s, (M s)[k1]? = some (.box [.mp km])) (hm : ∀ s, (M s)[km]? = some (.map (mkM usV 0 (encG g)) (encG g).length)) (h2 : ∀ s, (M s)[k2]? = some (.box [.yld k])) (h3 : ∀ s, (M s)[k3]? = some (.box [.clo (.func 179) [] [.ptr k1 0, .ptr k2 0, .ptr k3 0]])) (hb : ∀ s, (M s).all (belowB n) = true)
  (step : σ → Us → σ) (G : Nat → σ → Prop) {B : Nat} (hy : ∀ c s u, c < B → G c s → YOk Tryz.prog k [encU u] (M s) true (M (step s u)) ∧ G (c + 1) (step s u)) :
  ∀ (N : Nat) (e : Ex) (c : Nat) (s : σ), G c s → c + (usedG g e).length ≤ B → e.wt ≤ N → N ≤ 1048576 → FnOkS Tryz.prog 179 [encEx e, .ptr k1 0, .ptr k2 0, .ptr k3 0] (M s) (bl true) (M ((usedG g e).foldl step s)) := by
 have g0 : ∀ s (l : List Blk), (M s ++ l)[n]? = l[0]? := fun s l => by rw [List.getElem?_append_right (by rw [hn]; exact Nat.le_refl _), hn, Nat.sub_self]
 have g1 : ∀ s (l : List Blk), (M s ++ l)[n + 1]? = l[1]? := fun s l => by rw [List.getElem?_append_right (by rw [hn]; omega), hn, Nat.add_sub_cancel_left]
 have gk1 : ∀ s (l : List Blk), (M s ++ l)[k1]? = some (.box [.mp km]) := fun s l => by rw [List.getElem?_append_left (by rw [hn]; exact hk1)]; exact h1 s
 have gkm : ∀ s (l : List Blk), (M s ++ l)[km]? = some (.map (mkM usV 0 (encG g)) (encG g).length) := fun s l => by rw [List.getElem?_append_left (by rw [hn]; exact hkm)]; exact hm s
 have gk2 : ∀ s (l : List Blk), (M s ++ l)[k2]? = some (.box [.yld k]) := fun s l => by rw [List.getElem?_append_left (by rw [hn]; exact hk2)]; exact h2 s
 have gk3 : ∀ s (l : List Blk), (M s ++ l)[k3]? = some (.box [.clo (.func 179) [] [.ptr k1 0, .ptr k2 0, .ptr k3 0]]) := fun s l => by rw [List.getElem?_append_left (by rw [hn]; exact hk3)]; exact h3 s
 have gs : ∀ s (l : List Blk) X, (M s ++ l).set n X = M s ++ l.set 0 X := fun s l X => by rw [List.set_append_right _ _ (by rw [hn]; exact Nat.le_refl _), hn, Nat.sub_self]
 have gs1 : ∀ s (l : List Blk) X, (M s ++ l).set (n + 1) X = M s ++ l.set 1 X := fun s l X => by rw [List.set_append_right _ _ (by rw [hn]; omega), hn, Nat.add_sub_cancel_left]
 have gt : ∀ s (l : List Blk), (M s ++ l).take n = M s := fun s l => by rw [← hn s, List.take_left]
 have gt1 : ∀ s (l : List Blk), (M s ++ l).take (n + 1) = M s ++ l.take 1 := fun s l => by rw [List.take_append, hn, List.take_of_length_le (by rw [hn]; omega), Nat.add_sub_cancel_left]
 have gt' : ∀ s, (M s).take n = M s := fun s => by rw [List.take_of_length_le (by rw [hn]; exact Nat.le_refl _)]
 have hG1 : ∀ c s u, c < B → G c s → G (c + 1) (step s u) := fun c s u h h' => (hy c s u h h').2
 have fy : ∀ c s u (l : List Blk), c < B → G c s → YOk Tryz.prog k [encU u] (M s ++ l) true (M (step s u) ++ l) := fun c s u l hc hg => by
  refine (hy c s u hc hg).1.frame (by rw [hn]; exact hk) ?_ (by rw [hn]; exact hb s) (by rw [hn, hn]) (by rw [hn]; exact hb _) l
  simp [encU, belowV, belowL]
 have hbe : ∀ s (e : Ex) (l : List Blk), ((M s ++ Blk.box [num e.kind, str e.mod, str e.name, str e.text, num e.num, .slice (encTys e.types), .slice (e.labels.map encLb), .slice (encExs e.kids)] :: l).take (n + 1)).all (belowB (n + 1)) = true := fun s e l => by
  rw [gt1, List.all_append, Bool.and_eq_true]
  exact ⟨belowBs_mono (by omega) (hb s), by simp [belowB, belowV, belowL]⟩
 have hk1s : k1 < n + 1 := by omega
 have hk2s : k2 < n + 1 := by omega
 have hk3s : k3 < n + 1 := by omega
 have hns : n < n + 1 := by omega
 intro N
 induction N with
 | zero => intro e c s hg hc h; have := e.wt_pos; omega
 | succ N ih =>
  intro e c s hg hc hN hNB
  have hln := e.wt_lens
  have hue : usedG g e = ownU (fun v => lookU v g) e ++ e.kids.flatMap (usedG g) := usedE_eq (fun v => lookU v g) e
  have ihf : ∀ u c s (l : List Blk), G c s → c + (usedG g u).length ≤ B → u.wt ≤ N → FnOkS Tryz.prog 179 [encEx u, .ptr k1 0, .ptr k2 0, .ptr k3 0] (M s ++ l) (bl true) (M ((usedG g u).foldl step s) ++ l) := fun u c s l hg hc hu => by
   refine (ih u c s hg hc hu (by omega)).frame ?_ (by rw [hn]; exact hb s) rfl (by rw [hn, hn]) (by rw [hn]; exact hb _) l
   rw [encEx_eq, hn]; simp [belowV, belowL, exCells, hk1, hk2, hk3]
  simp only [encEx_eq,exCells] at ihf
  refine fns_ok tt_ok (fn := Tryz.f179) n (by rw [hn]; exact Nat.le_refl _) Tryz.func179 rfl Tryz.call179 ?_
  simp only [ltb,startSt,Tryz.ntmps179,List.length_cons,List.length_nil,zA,zF,List.replicate_succ,List.replicate_zero]
  rw [encEx_eq]
  simp only [exCells]
  refine tri_seq_region tt_ok fun K hK => ?_
  simp only [hn,go_sem,reduceIte,zA,zB,zC,zD,zE,zF,reduceCtorEq]
  refine hK _ ?_
  obtain ⟨O, hO⟩ : ∃ O, O = ownU (fun v => lookU v g) e := ⟨_, rfl⟩
  have hcO : c + O.length + (e.kids.flatMap (usedG g)).length ≤ B := by rw [hue, List.length_append, ← hO] at hc; omega
  have hgO := foldG hG1 O c s hg (by omega)
  have hmid : ∀ O', O' = O → O'.foldl step s = O.foldl step s := fun _ h => by rw [h]
  cases h4 : decide (e.kind = 4) with
  | false =>
   have hO0 : O = [] := by rw [hO]; unfold ownU; rw [h4]; rfl
   refine tri_mid (fun st => st = { fr := [.undef, .ptr k1 0, .ptr k2 0, .ptr k3 0, .ptr n 0, .undef, .undef, .undef, .undef, .undef, .undef, .undef, .undef, .undef, .undef, .undef, .undef, .undef, .undef, .undef, .undef, .undef, .undef, .undef, .undef, .undef, .undef, .undef, .undef, .undef, .undef, .undef, .undef, .undef, .undef, .undef, .undef, .undef, .undef, .undef, .undef, .undef], mem := M (O.foldl step s) ++ [.box [num e.kind, str e.mod, str e.name, str e.text, num e.num, .slice (encTys e.types), .slice (e.labels.map encLb), .slice (encExs e.kids)]] }) ?_ ?_
   ·refine tri_seq_region tt_ok fun K hK => ?_
    simp only [hn,g0,h4,go_sem,reduceIte,zA,zB,zC,zD,zE,zF,reduceCtorEq]
    refine hK _ ?_
    refine tri_cond rfl (tri_skip ?_)
    refine ⟨n + 1, [false,true,true,true,true], by rw [hn]; omega, by simp only [maskFr,belowV,belowL,belowB,zB,hk1s,hk2s,hk3s,hns,mkb], hbe _ _ _, ?_⟩
    dsimp only; rw [gt1, hO0]; rfl
   ·intro st1 hst1
    subst hst1
    obtain ⟨s1, hs1⟩ : ∃ s1, s1 = O.foldl step s := ⟨_, rfl⟩
    rw [← hs1] at hgO ⊢
    rw [hue, ← hO, List.foldl_append, ← hs1]
    have hks : ∀ y ∈ e.kids, y.wt ≤ N := fun y hy => by have := Ex.wt_kid hy; omega
    have hkl : e.kids.length ≤ 1048576 := by omega
    obtain ⟨ks, hkse⟩ : ∃ ks, ks = e.kids := ⟨_, rfl⟩
    rw [← hkse] at hcO hks hkl ⊢
    refine tri_seq ?_
    refine tri_seq_region tt_ok fun K hK => ?_
    simp only [hn,g0,length_encExs,go_sem,reduceIte,zA,zB,zC,zD,zE,zF,reduceCtorEq]
    refine hK _ ?_
    refine tri_block (tri_loop_inv (fun N st => ∃ i : Nat, N = ks.length - i ∧ i ≤ ks.length ∧ st = { fr := [.undef, .ptr k1 0, .ptr k2 0, .ptr k3 0, .undef, .undef, .undef, .undef, .undef, .undef, .undef, .undef, .undef, .undef, .undef, .undef, .undef, .undef, .undef, .undef, .undef, .undef, .undef, .undef, .undef, .undef, .undef, .undef, .undef, .undef, .undef, .slice (encExs ks), num ks.length, num i, .undef, .undef, .undef, .undef, .undef, .undef, .undef, .undef], mem := M (((ks.take i).flatMap (usedG g)).foldl step s1) }) ks.length ?_ ?_)
    ·refine ⟨n, (false::true::true::true::(rp 27 false [true,true,true])), by rw [hn]; exact Nat.le_refl _, by simp only [maskFr,belowV,belowL,belowB,zB,hk1,hk2,hk3,mkb], by dsimp only; rw [gt]; exact hb _, 0, by omega, by omega, ?_⟩
     dsimp only; rw [gt]; rfl
    ·rintro N' st ⟨i, rfl, hi, rfl⟩
     by_cases hlt : i < ks.length
     ·have hd := lt_dec hlt
      refine tri_seq_region tt_ok fun K hK => ?_
      simp only [length_encExs,hd,go_sem,reduceIte,zA,zB,zC,zD,zE,zF,reduceCtorEq]
      refine hK _ ?_
      refine tri_seq (tri_cond rfl (tri_skip ?_))
      refine tri_seq (tri_block ?_)
      obtain ⟨u, hu⟩ : ∃ u, ks[i]? = some u := ⟨_, List.getElem?_eq_getElem hlt⟩
      have htk : (ks.take (i + 1)).flatMap (usedG g) = (ks.take i).flatMap (usedG g) ++ usedG g u := by rw [List.take_add_one, hu]; simp
      have hsp : ks.flatMap (usedG g) = (ks.take (i + 1)).flatMap (usedG g) ++ (ks.drop (i + 1)).flatMap (usedG g) := by rw [← List.flatMap_append, List.take_append_drop]
      have hlen : ((ks.take i).flatMap (usedG g)).length + (usedG g u).length ≤ (ks.flatMap (usedG g)).length := by rw [hsp, htk, List.length_append, List.length_append]; omega
      have hgi := foldG hG1 ((ks.take i).flatMap (usedG g)) _ s1 hgO (by omega)
      have hrec := fun l => ihf u _ _ l hgi (by omega) (hks u (List.mem_of_getElem? hu))
      rw [← List.foldl_append, ← htk] at hrec
      obtain ⟨s', hs'⟩ : ∃ s', s' = ((ks.take i).flatMap (usedG g)).foldl step s1 := ⟨_, rfl⟩
      rw [← hs'] at hrec ⊢
      refine tri_seq_region tt_ok fun K hK => ?_
      simp only [get_encExs,hu,encEx_eq,exCells,hn,g0,gs,go_sem,reduceIte,zA,zB,zC,zD,zE,zF,reduceCtorEq]
      refine hK _ ?_
      refine tri_seq_region tt_ok fun K hK => ?_
      simp only [gk3,g0,hn,go_sem,reduceIte,zA,zB,zC,zD,zE,zF,reduceCtorEq]
      refine .inr <| .inl ⟨_, _, hrec _, ?_⟩
      try simp only [go_sem,reduceIte,zA,zB,zC,zD,zE,zF,reduceCtorEq]
      refine hK _ ?_
      refine tri_cond rfl (tri_skip ?_)
      show Tri _ _ _ _ _ _
      refine tri_last_region tt_ok fun K hK => ?_
      simp only [go_sem,reduceIte,zA,zB,zC,zD,zE,zF,reduceCtorEq]
      refine hK _ ?_
      have hw2 := i64_succ i (by omega)
      rw [hw2]
      refine ⟨ks.length - (i + 1), by omega, n, (false::true::true::true::(rp 27 false [true,true,true])), by rw [hn]; exact Nat.le_refl _, by simp only [maskFr,belowV,belowL,belowB,zB,hk1,hk2,hk3,mkb], by dsimp only; rw [gt]; exact hb _, i + 1, rfl, hlt, ?_⟩
      dsimp only; rw [gt]; rfl
     ·have hd := ge_dec hlt
      refine tri_seq_region tt_ok fun K hK => ?_
      simp only [length_encExs,hd,go_sem,reduceIte,zA,zB,zC,zD,zE,zF,reduceCtorEq]
      refine hK _ ?_
      refine tri_seq (tri_cond rfl (tri_exit ?_))
      have hie : i = ks.length := by omega
      subst hie
      show Tri _ _ _ _ _ _
      refine tri_seq_region tt_ok fun K hK => ?_
      simp only [go_sem,reduceIte,zA,zB,zC,zD,zE,zF,reduceCtorEq]
      refine hK _ ?_
      refine tri_ret ⟨.inl rfl, ?_⟩
      try rw [List.take_length]
      exact ⟨rfl, rfl, by dsimp only; rw [gt']; exact hb _, (gt' _).symm⟩
  | true =>
   have he := end_at g (e.mod, e.name)
   have hO1 : O = (match leads (fun v => lookU v g) (e.mod, e.name) with | some u => [u] | none => []) := by rw [hO]; unfold ownU; rw [h4]; rfl
   rcases hld : leads (fun v => lookU v g) (e.mod, e.name) with _ | v
   ·rw [lead_no hld] at he
    rw [hld] at hO1
    refine tri_mid (fun st => st = { fr := [.undef, .ptr k1 0, .ptr k2 0, .ptr k3 0, .ptr n 0, .undef, .undef, .undef, .undef, .undef, .undef, .undef, .undef, .undef, .undef, .undef, .undef, .undef, .undef, .undef, .undef, .undef, .undef, .undef, .undef, .undef, .undef, .undef, .undef, .undef, .undef, .undef, .undef, .undef, .undef, .undef, .undef, .undef, .undef, .undef, .undef, .undef], mem := M (O.foldl step s) ++ [.box [num e.kind, str e.mod, str e.name, str e.text, num e.num, .slice (encTys e.types), .slice (e.labels.map encLb), .slice (encExs e.kids)]] }) ?_ ?_
    ·refine tri_seq_region tt_ok fun K hK => ?_
     simp only [hn,g0,h4,go_sem,reduceIte,zA,zB,zC,zD,zE,zF,reduceCtorEq]
     refine hK _ ?_
     refine tri_cond rfl ?_
     refine tri_seq_region tt_ok fun K hK => ?_
     simp only [hn,g0,gk1,go_sem,reduceIte,zA,zB,zC,zD,zE,zF,reduceCtorEq]
     refine .inr <| .inl ⟨_, _, he _ km (gkm _ _), ?_⟩
     try simp only [hn,g0,g1,gs1,List.length_append,List.append_assoc,go_sem,reduceIte,zA,zB,zC,zD,zE,zF,reduceCtorEq]
     refine hK _ ?_
     refine tri_seq_region tt_ok fun K hK => ?_
     simp only [go_sem,reduceIte,zA,zB,zC,zD,zE,zF,reduceCtorEq]
     refine hK _ ?_
     refine tri_cond rfl (tri_skip ?_)
     refine ⟨n + 1, [false,true,true,true,true], by rw [hn]; omega, by simp only [maskFr,belowV,belowL,belowB,zB,hk1s,hk2s,hk3s,hns,mkb], hbe _ _ _, ?_⟩
     dsimp only; rw [gt1, hO1]; rfl
    ·intro st1 hst1
     subst hst1
     obtain ⟨s1, hs1⟩ : ∃ s1, s1 = O.foldl step s := ⟨_, rfl⟩
     rw [← hs1] at hgO ⊢
     rw [hue, ← hO, List.foldl_append, ← hs1]
     have hks : ∀ y ∈ e.kids, y.wt ≤ N := fun y hy => by have := Ex.wt_kid hy; omega
     have hkl : e.kids.length ≤ 1048576 := by omega
     obtain ⟨ks, hkse⟩ : ∃ ks, ks = e.kids := ⟨_, rfl⟩
     rw [← hkse] at hcO hks hkl ⊢
     refine tri_seq ?_
     refine tri_seq_region tt_ok fun K hK => ?_
     simp only [hn,g0,length_encExs,go_sem,reduceIte,zA,zB,zC,zD,zE,zF,reduceCtorEq]
     refine hK _ ?_
     refine tri_block (tri_loop_inv (fun N st => ∃ i : Nat, N = ks.length - i ∧ i ≤ ks.length ∧ st = { fr := [.undef, .ptr k1 0, .ptr k2 0, .ptr k3 0, .undef, .undef, .undef, .undef, .undef, .undef, .undef, .undef, .undef, .undef, .undef, .undef, .undef, .undef, .undef, .undef, .undef, .undef, .undef, .undef, .undef, .undef, .undef, .undef, .undef, .undef, .undef, .slice (encExs ks), num ks.length, num i, .undef, .undef, .undef, .undef, .undef, .undef, .undef, .undef], mem := M (((ks.take i).flatMap (usedG g)).foldl step s1) }) ks.length ?_ ?_)
     ·refine ⟨n, (false::true::true::true::(rp 27 false [true,true,true])), by rw [hn]; exact Nat.le_refl _, by simp only [maskFr,belowV,belowL,belowB,zB,hk1,hk2,hk3,mkb], by dsimp only; rw [gt]; exact hb _, 0, by omega, by omega, ?_⟩
      dsimp only; rw [gt]; rfl
     ·rintro N' st ⟨i, rfl, hi, rfl⟩
      by_cases hlt : i < ks.length
      ·have hd := lt_dec hlt
       refine tri_seq_region tt_ok fun K hK => ?_
       simp only [length_encExs,hd,go_sem,reduceIte,zA,zB,zC,zD,zE,zF,reduceCtorEq]
       refine hK _ ?_
       refine tri_seq (tri_cond rfl (tri_skip ?_))
       refine tri_seq (tri_block ?_)
       obtain ⟨u, hu⟩ : ∃ u, ks[i]? = some u := ⟨_, List.getElem?_eq_getElem hlt⟩
       have htk : (ks.take (i + 1)).flatMap (usedG g) = (ks.take i).flatMap (usedG g) ++ usedG g u := by rw [List.take_add_one, hu]; simp
       have hsp : ks.flatMap (usedG g) = (ks.take (i + 1)).flatMap (usedG g) ++ (ks.drop (i + 1)).flatMap (usedG g) := by rw [← List.flatMap_append, List.take_append_drop]
       have hlen : ((ks.take i).flatMap (usedG g)).length + (usedG g u).length ≤ (ks.flatMap (usedG g)).length := by rw [hsp, htk, List.length_append, List.length_append]; omega
       have hgi := foldG hG1 ((ks.take i).flatMap (usedG g)) _ s1 hgO (by omega)
       have hrec := fun l => ihf u _ _ l hgi (by omega) (hks u (List.mem_of_getElem? hu))
       rw [← List.foldl_append, ← htk] at hrec
       obtain ⟨s', hs'⟩ : ∃ s', s' = ((ks.take i).flatMap (usedG g)).foldl step s1 := ⟨_, rfl⟩
       rw [← hs'] at hrec ⊢
       refine tri_seq_region tt_ok fun K hK => ?_
       simp only [get_encExs,hu,encEx_eq,exCells,hn,g0,gs,go_sem,reduceIte,zA,zB,zC,zD,zE,zF,reduceCtorEq]
       refine hK _ ?_
       refine tri_seq_region tt_ok fun K hK => ?_
       simp only [gk3,g0,hn,go_sem,reduceIte,zA,zB,zC,zD,zE,zF,reduceCtorEq]
       refine .inr <| .inl ⟨_, _, hrec _, ?_⟩
       try simp only [go_sem,reduceIte,zA,zB,zC,zD,zE,zF,reduceCtorEq]
       refine hK _ ?_
       refine tri_cond rfl (tri_skip ?_)
       show Tri _ _ _ _ _ _
       refine tri_last_region tt_ok fun K hK => ?_
       simp only [go_sem,reduceIte,zA,zB,zC,zD,zE,zF,reduceCtorEq]
       refine hK _ ?_
       have hw2 := i64_succ i (by omega)
       rw [hw2]
       refine ⟨ks.length - (i + 1), by omega, n, (false::true::true::true::(rp 27 false [true,true,true])), by rw [hn]; exact Nat.le_refl _, by simp only [maskFr,belowV,belowL,belowB,zB,hk1,hk2,hk3,mkb], by dsimp only; rw [gt]; exact hb _, i + 1, rfl, hlt, ?_⟩
       dsimp only; rw [gt]; rfl
      ·have hd := ge_dec hlt
       refine tri_seq_region tt_ok fun K hK => ?_
       simp only [length_encExs,hd,go_sem,reduceIte,zA,zB,zC,zD,zE,zF,reduceCtorEq]
       refine hK _ ?_
       refine tri_seq (tri_cond rfl (tri_exit ?_))
       have hie : i = ks.length := by omega
       subst hie
       show Tri _ _ _ _ _ _
       refine tri_seq_region tt_ok fun K hK => ?_
       simp only [go_sem,reduceIte,zA,zB,zC,zD,zE,zF,reduceCtorEq]
       refine hK _ ?_
       refine tri_ret ⟨.inl rfl, ?_⟩
       try rw [List.take_length]
       exact ⟨rfl, rfl, by dsimp only; rw [gt']; exact hb _, (gt' _).symm⟩
   ·rw [lead_yes hld] at he
    rw [hld] at hO1
    have hyt := fun l => fy c s v l (by rw [hO1] at hcO; simp only [List.length_cons,List.length_nil] at hcO; omega) hg
    simp only [encU] at hyt
    refine tri_mid (fun st => st = { fr := [.undef, .ptr k1 0, .ptr k2 0, .ptr k3 0, .ptr n 0, .undef, .undef, .undef, .undef, .undef, .undef, .undef, .undef, .undef, .undef, .undef, .undef, .undef, .undef, .undef, .undef, .undef, .undef, .undef, .undef, .undef, .undef, .undef, .undef, .undef, .undef, .undef, .undef, .undef, .undef, .undef, .undef, .undef, .undef, .undef, .undef, .undef], mem := M (O.foldl step s) ++ [.box [num e.kind, str e.mod, str e.name, str e.text, num e.num, .slice (encTys e.types), .slice (e.labels.map encLb), .slice (encExs e.kids)]] }) ?_ ?_
    ·refine tri_seq_region tt_ok fun K hK => ?_
     simp only [hn,g0,h4,go_sem,reduceIte,zA,zB,zC,zD,zE,zF,reduceCtorEq]
     refine hK _ ?_
     refine tri_cond rfl ?_
     refine tri_seq_region tt_ok fun K hK => ?_
     simp only [hn,g0,gk1,go_sem,reduceIte,zA,zB,zC,zD,zE,zF,reduceCtorEq]
     refine .inr <| .inl ⟨_, _, he _ km (gkm _ _), ?_⟩
     try simp only [hn,g0,g1,gs1,List.length_append,List.append_assoc,go_sem,reduceIte,zA,zB,zC,zD,zE,zF,reduceCtorEq]
     refine hK _ ?_
     refine tri_seq_region tt_ok fun K hK => ?_
     simp only [gk2,g0,g1,hn,go_sem,reduceIte,zA,zB,zC,zD,zE,zF,reduceCtorEq]
     refine .inl ⟨_, _, hyt _, ?_⟩
     try simp only [go_sem,reduceIte,zA,zB,zC,zD,zE,zF,reduceCtorEq]
     refine hK _ ?_
     refine tri_cond rfl (tri_skip ?_)
     refine ⟨n + 1, [false,true,true,true,true], by rw [hn]; omega, by simp only [maskFr,belowV,belowL,belowB,zB,hk1s,hk2s,hk3s,hns,mkb], hbe _ _ _, ?_⟩
     dsimp only; rw [gt1, hO1]; rfl
    ·intro st1 hst1
     subst hst1
     obtain ⟨s1, hs1⟩ : ∃ s1, s1 = O.foldl step s := ⟨_, rfl⟩
     rw [← hs1] at hgO ⊢
     rw [hue, ← hO, List.foldl_append, ← hs1]
     have hks : ∀ y ∈ e.kids, y.wt ≤ N := fun y hy => by have := Ex.wt_kid hy; omega
     have hkl : e.kids.length ≤ 1048576 := by omega
     obtain ⟨ks, hkse⟩ : ∃ ks, ks = e.kids := ⟨_, rfl⟩
     rw [← hkse] at hcO hks hkl ⊢
     refine tri_seq ?_
     refine tri_seq_region tt_ok fun K hK => ?_
     simp only [hn,g0,length_encExs,go_sem,reduceIte,zA,zB,zC,zD,zE,zF,reduceCtorEq]
     refine hK _ ?_
     refine tri_block (tri_loop_inv (fun N st => ∃ i : Nat, N = ks.length - i ∧ i ≤ ks.length ∧ st = { fr := [.undef, .ptr k1 0, .ptr k2 0, .ptr k3 0, .undef, .undef, .undef, .undef, .undef, .undef, .undef, .undef, .undef, .undef, .undef, .undef, .undef, .undef, .undef, .undef, .undef, .undef, .undef, .undef, .undef, .undef, .undef, .undef, .undef, .undef, .undef, .slice (encExs ks), num ks.length, num i, .undef, .undef, .undef, .undef, .undef, .undef, .undef, .undef], mem := M (((ks.take i).flatMap (usedG g)).foldl step s1) }) ks.length ?_ ?_)
     ·refine ⟨n, (false::true::true::true::(rp 27 false [true,true,true])), by rw [hn]; exact Nat.le_refl _, by simp only [maskFr,belowV,belowL,belowB,zB,hk1,hk2,hk3,mkb], by dsimp only; rw [gt]; exact hb _, 0, by omega, by omega, ?_⟩
      dsimp only; rw [gt]; rfl
     ·rintro N' st ⟨i, rfl, hi, rfl⟩
      by_cases hlt : i < ks.length
      ·have hd := lt_dec hlt
       refine tri_seq_region tt_ok fun K hK => ?_
       simp only [length_encExs,hd,go_sem,reduceIte,zA,zB,zC,zD,zE,zF,reduceCtorEq]
       refine hK _ ?_
       refine tri_seq (tri_cond rfl (tri_skip ?_))
       refine tri_seq (tri_block ?_)
       obtain ⟨u, hu⟩ : ∃ u, ks[i]? = some u := ⟨_, List.getElem?_eq_getElem hlt⟩
       have htk : (ks.take (i + 1)).flatMap (usedG g) = (ks.take i).flatMap (usedG g) ++ usedG g u := by rw [List.take_add_one, hu]; simp
       have hsp : ks.flatMap (usedG g) = (ks.take (i + 1)).flatMap (usedG g) ++ (ks.drop (i + 1)).flatMap (usedG g) := by rw [← List.flatMap_append, List.take_append_drop]
       have hlen : ((ks.take i).flatMap (usedG g)).length + (usedG g u).length ≤ (ks.flatMap (usedG g)).length := by rw [hsp, htk, List.length_append, List.length_append]; omega
       have hgi := foldG hG1 ((ks.take i).flatMap (usedG g)) _ s1 hgO (by omega)
       have hrec := fun l => ihf u _ _ l hgi (by omega) (hks u (List.mem_of_getElem? hu))
       rw [← List.foldl_append, ← htk] at hrec
       obtain ⟨s', hs'⟩ : ∃ s', s' = ((ks.take i).flatMap (usedG g)).foldl step s1 := ⟨_, rfl⟩
       rw [← hs'] at hrec ⊢
       refine tri_seq_region tt_ok fun K hK => ?_
       simp only [get_encExs,hu,encEx_eq,exCells,hn,g0,gs,go_sem,reduceIte,zA,zB,zC,zD,zE,zF,reduceCtorEq]
       refine hK _ ?_
       refine tri_seq_region tt_ok fun K hK => ?_
       simp only [gk3,g0,hn,go_sem,reduceIte,zA,zB,zC,zD,zE,zF,reduceCtorEq]
       refine .inr <| .inl ⟨_, _, hrec _, ?_⟩
       try simp only [go_sem,reduceIte,zA,zB,zC,zD,zE,zF,reduceCtorEq]
       refine hK _ ?_
       refine tri_cond rfl (tri_skip ?_)
       show Tri _ _ _ _ _ _
       refine tri_last_region tt_ok fun K hK => ?_
       simp only [go_sem,reduceIte,zA,zB,zC,zD,zE,zF,reduceCtorEq]
       refine hK _ ?_
       have hw2 := i64_succ i (by omega)
       rw [hw2]
       refine ⟨ks.length - (i + 1), by omega, n, (false::true::true::true::(rp 27 false [true,true,true])), by rw [hn]; exact Nat.le_refl _, by simp only [maskFr,belowV,belowL,belowB,zB,hk1,hk2,hk3,mkb], by dsimp only; rw [gt]; exact hb _, i + 1, rfl, hlt, ?_⟩
       dsimp only; rw [gt]; rfl
      ·have hd := ge_dec hlt
       refine tri_seq_region tt_ok fun K hK => ?_
       simp only [length_encExs,hd,go_sem,reduceIte,zA,zB,zC,zD,zE,zF,reduceCtorEq]
       refine hK _ ?_
       refine tri_seq (tri_cond rfl (tri_exit ?_))
       have hie : i = ks.length := by omega
       subst hie
       show Tri _ _ _ _ _ _
       refine tri_seq_region tt_ok fun K hK => ?_
       simp only [go_sem,reduceIte,zA,zB,zC,zD,zE,zF,reduceCtorEq]
       refine hK _ ?_
       refine tri_ret ⟨.inl rfl, ?_⟩
       try rw [List.take_length]
       exact ⟨rfl, rfl, by dsimp only; rw [gt']; exact hb _, (gt' _).symm⟩
end
end Go.Proofs.YtefbaladomfccaaGreatDoor
end

section
namespace Go.Proofs.YtefbaladomfccaaGreatDoor
open Go.Eng
open Nat renaming reduceAdd → zA, reduceLT → zB, reduceLeDiff → zC, reduceMul → zD, reduceEqDiff → zE, reduceSub → zF
variable [Glob]
set_option maxHeartbeats 4000000
set_option maxRecDepth 100000
section
variable {σ : Type} {M : σ → List Blk} {n k kb ke km : Nat}
theorem iterA_ok (g : GD) (e : Ex) (hn : ∀ s, (M s).length = n) (hk : k < n) (hkb : kb < n) (hke : ke < n) (hkm : km < n) (h1 : ∀ s, (M s)[kb]? = some (.box [.mp km])) (hm : ∀ s, (M s)[km]? = some (.map (mkM usV 0 (encG g)) (encG g).length)) (h2 : ∀ s, (M s)[ke]? = some (.box (exCells e))) (hb : ∀ s, (M s).all (belowB n) = true)
  (step : σ → Us → σ) (G : Nat → σ → Prop) {B : Nat} (hy : ∀ c s u, c < B → G c s → YOk Tryz.prog k [encU u] (M s) true (M (step s u)) ∧ G (c + 1) (step s u)) (hB : (usedG g e).length ≤ B) (he : e.wt ≤ 1048576) (s : σ) (hs : G 0 s) :
  FnOkS Tryz.prog 178 [.yld k, .ptr kb 0, .ptr ke 0] (M s) (.tup []) (M ((usedG g e).foldl step s)) := by
 have g0 : ∀ s (l : List Blk), (M s ++ l)[n]? = l[0]? := fun s l => by rw [List.getElem?_append_right (by rw [hn]; exact Nat.le_refl _), hn, Nat.sub_self]
 have g1 : ∀ s (l : List Blk), (M s ++ l)[n + 1]? = l[1]? := fun s l => by rw [List.getElem?_append_right (by rw [hn]; omega), hn, Nat.add_sub_cancel_left]
 have gke : ∀ s (l : List Blk), (M s ++ l)[ke]? = some (.box (exCells e)) := fun s l => by rw [List.getElem?_append_left (by rw [hn]; exact hke)]; exact h2 s
 have gs : ∀ s (l : List Blk) X, (M s ++ l).set (n + 1) X = M s ++ l.set 1 X := fun s l X => by rw [List.set_append_right _ _ (by rw [hn]; omega), hn, Nat.add_sub_cancel_left]
 have gt : ∀ s (l : List Blk), (M s ++ l).take n = M s := fun s l => by rw [← hn s, List.take_left]
 have hw : FnOkS Tryz.prog 179 [encEx e, .ptr kb 0, .ptr n 0, .ptr (n + 1) 0] (M s ++ [.box [.yld k], .box [.clo (.func 179) [] [.ptr kb 0, .ptr n 0, .ptr (n + 1) 0]]]) (bl true) (M ((usedG g e).foldl step s) ++ [.box [.yld k], .box [.clo (.func 179) [] [.ptr kb 0, .ptr n 0, .ptr (n + 1) 0]]]) := by
  refine walkA_ok (M := fun s => M s ++ [.box [.yld k], .box [.clo (.func 179) [] [.ptr kb 0, .ptr n 0, .ptr (n + 1) 0]]]) (n := n + 2) (k := k) (k1 := kb) (k2 := n) (k3 := n + 1) (km := km) g (fun s => by simp [hn]) (by omega) (by omega) (by omega) (by omega) (by omega) (fun s => by rw [List.getElem?_append_left (by rw [hn]; exact hkb)]; exact h1 s) (fun s => by rw [List.getElem?_append_left (by rw [hn]; exact hkm)]; exact hm s) (fun s => g0 _ _) (fun s => g1 _ _) (fun s => ?_) step G (B := B) (fun c s u hc hg => ⟨?_, (hy c s u hc hg).2⟩) e.wt e 0 s hs (by omega) (Nat.le_refl _) he
  ·rw [List.all_append, Bool.and_eq_true]
   refine ⟨belowBs_mono (by omega) (hb s), ?_⟩
   simp [belowB, belowV, belowL]; omega
  ·refine (hy c s u hc hg).1.frame (by rw [hn]; exact hk) ?_ (by rw [hn]; exact hb s) (by rw [hn, hn]) (by rw [hn]; exact hb _) _
   simp [encU, belowV, belowL]
 refine fns_ok tt_ok (fn := Tryz.f178) n (by rw [hn]; exact Nat.le_refl _) Tryz.func178 rfl Tryz.call178 ?_
 simp only [ltb,startSt,Tryz.ntmps178,List.length_cons,List.length_nil,zA,zF,List.replicate_succ,List.replicate_zero]
 rw [encEx_eq] at hw
 simp only [exCells] at hw gke
 refine tri_seq_region tt_ok fun K hK => ?_
 simp only [hn,go_sem,reduceIte,zA,zB,zC,zD,zE,zF,reduceCtorEq]
 refine hK _ ?_
 refine tri_seq_region tt_ok fun K hK => ?_
 simp only [hn,List.length_append,List.append_assoc,go_sem,reduceIte,zA,zB,zC,zD,zE,zF,reduceCtorEq]
 refine hK _ ?_
 refine tri_seq_region tt_ok fun K hK => ?_
 simp only [hn,g1,gs,go_sem,reduceIte,zA,zB,zC,zD,zE,zF,reduceCtorEq]
 refine hK _ ?_
 refine tri_last_region tt_ok fun K hK => ?_
 simp only [hn,g1,gke,go_sem,reduceIte,zA,zB,zC,zD,zE,zF,reduceCtorEq]
 refine .inr <| .inl ⟨_, _, hw, ?_⟩
 try simp only [go_sem,reduceIte,zA,zB,zC,zD,zE,zF,reduceCtorEq]
 refine hK _ ?_
 refine ⟨.inr rfl, rfl, rfl, ?_, ?_⟩
 ·dsimp only; rw [gt]; exact hb _
 ·dsimp only; rw [gt]
end
theorem take_set {mem pre : List Blk} {n : Nat} {X Y : Blk} (hn : pre.length = n) (h1 : mem[n]? = some Y) (h2 : mem.take n = pre) : (mem.set n X).take (n + 1) = pre ++ [X] := by
 have hlt : n < mem.length := (List.getElem?_eq_some_iff.1 h1).1
 refine List.ext_getElem? fun i => ?_
 by_cases hi : i < n
 ·rw [List.getElem?_take_of_lt (by omega), List.getElem?_set_ne (by omega), List.getElem?_append_left (by omega), ← h2, List.getElem?_take_of_lt hi]
 ·by_cases hin : i = n
  ·subst hin
   rw [List.getElem?_take_of_lt (by omega), List.getElem?_set_self hlt, List.getElem?_append_right (by omega)]
   simp [hn]
  ·rw [List.getElem?_eq_none (by simp; omega), List.getElem?_eq_none (by simp [hn]; omega)]
section
variable {σ : Type}
theorem tri_used {n0 : Nat} {st : St} {Q : Exit → St → Prop} {f : Operand} {params : Array Tmp} {assign body : Code} (g : GD) (e : Ex) (pre : σ → List Blk) (s0 : σ) (n kb ke km : Nat) (hmem : st.mem = pre s0) (hn : ∀ s, (pre s).length = n) (hkb : kb < n) (hke : ke < n) (hkm : km < n)
  (h1 : ∀ s, (pre s)[kb]? = some (.box [.mp km])) (hm : ∀ s, (pre s)[km]? = some (.map (mkM usV 0 (encG g)) (encG g).length)) (h2 : ∀ s, (pre s)[ke]? = some (.box (exCells e))) (hb : ∀ s, (pre s).all (belowB (n + 1)) = true) (hfr : st.fr.all (belowV (n + 1)) = true) (hf : st.eval f = .clo (.func 178) [] [.ptr kb 0, .ptr ke 0]) (hp : params.size = 1)
  (step : σ → Us → σ) (G : Nat → σ → Prop) {B : Nat} (hB : (usedG g e).length ≤ B) (he : e.wt ≤ 1048576)
  (hbody : ∀ i s u, i < B → G i s → G (i + 1) (step s u) ∧ ∀ (l : Nat) (LR LB : Blk), belowB (n + 1) LR = true → belowB (n + 1) LB = true → Tri Tryz.prog (some l) (n + 1) assign { fr := setPs params.toList [encU u] st.fr, mem := pre s ++ [LR] } fun ex st1 => ex = .normal ∧ st1.mem[n]? = some LR ∧
   Tri Tryz.prog (some l) (n + 1) body { st1 with mem := st1.mem.set n LB } fun ex st2 => jumpOf ex = some none ∧ st2.mem[n]? = some LB ∧ st2.mem.take n = pre (step s u))
  (h0 : G 0 s0) (hq : Q .normal { st with mem := pre ((usedG g e).foldl step s0) ++ [.dead] }) : Tri Tryz.prog none n0 (.rangeFunc f params assign body) st Q := by
 have hlen : st.mem.length = n := by rw [hmem, hn]
 have gn : ∀ s X, (pre s ++ [X])[n]? = some X := fun s X => by rw [List.getElem?_append_right (by rw [hn]; exact Nat.le_refl _), hn, Nat.sub_self]; rfl
 have gl : ∀ s X j, j < n → (pre s ++ [X])[j]? = (pre s)[j]? := fun s X j hj => List.getElem?_append_left (by rw [hn]; exact hj)
 have gset : ∀ s (X Y : Blk), (pre s ++ [X]).set n Y = pre s ++ [Y] := fun s X Y => by rw [List.set_append_right _ _ (by rw [hn]; exact Nat.le_refl _), hn, Nat.sub_self]; rfl
 have hball : ∀ (s : σ) (a : LoopState) (b : Option Code), (pre s ++ [Blk.loop a b st.fr params assign body]).all (belowB (n + 1)) = true := fun s a b => by
  rw [List.all_append, Bool.and_eq_true]
  exact ⟨hb s, by simp only [List.all_cons,List.all_nil,Bool.and_true,belowB]; exact hfr⟩
 have it := iterA_ok (M := fun s : σ => pre s ++ [.loop .ready none st.fr params assign body]) (n := n + 1) (k := n) (kb := kb) (ke := ke) (km := km) g e (fun s => by simp [hn]) (by omega) (by omega) (by omega) (by omega) (fun s => by rw [gl _ _ _ hkb]; exact h1 s) (fun s => by rw [gl _ _ _ hkm]; exact hm s) (fun s => by rw [gl _ _ _ hke]; exact h2 s) (fun s => hball _ _ _)
  step G (B := B) (fun i s u hi hG => by
   obtain ⟨hG', hbd⟩ := hbody i s u hi hG
   refine ⟨?_, hG'⟩
   refine yok_of_body (fr := st.fr) (params := params) (assign := assign) (body := body) (gn _ _) (by simp [hp]) fun l => ?_
   have hl : (pre s ++ [Blk.loop .ready none st.fr params assign body]).length = n + 1 := by simp [hn]
   simp only [hl]
   refine Tri.mono (hbd l (.loop .ready none st.fr params assign body) (.loop .busy none st.fr params assign body) hfr hfr) ?_
   rintro ex st1 ⟨h1, h2, h3⟩
   refine ⟨h1, h2, Tri.mono h3 ?_⟩
   rintro ex st2 ⟨h4, h5, h6⟩
   refine ⟨_, h4, rfl, h5, ?_, ?_⟩
   ·rw [take_set (hn _) h5 h6]; exact hball _ _ _
   ·rw [take_set (hn _) h5 h6]; rfl) hB he s0 h0
 refine tri_rangeFunc (g := 178) (vs := [.yld n, .ptr kb 0, .ptr ke 0]) (by rw [hf, hlen]; rfl) (by rw [hmem]; exact it) ?_
 rw [hlen]
 refine ⟨.ready, none, _, _, _, _, gn _ _, by simp, ?_⟩
 dsimp only
 rw [gset]
 exact hq
end
theorem foldl_push (l : List Us) : ∀ a : List Us, l.foldl (fun acc u => acc ++ [u]) a = a ++ l := by
 induction l with
 | nil => simp
 | cons u r ih => intro a; rw [List.foldl_cons, ih]; simp
theorem aseq_ok (g : GD) (e : Ex) (m : List Blk) (kb ke km : Nat) (hkb : m[kb]? = some (.box [.mp km])) (hkm : m[km]? = some (.map (mkM usV 0 (encG g)) (encG g).length)) (hke : m[ke]? = some (.box (exCells e))) (he : e.wt ≤ 1048576) (hb : m.all (belowB m.length) = true) :
  FnOkS Tryz.prog 177 [.sc (.slice none 0 0), .clo (.func 178) [] [.ptr kb 0, .ptr ke 0]] m (.ms (m.length + 1) (usedG g e).length 0 (usedG g e).length) (m ++ [.box [.ms (m.length + 1) (usedG g e).length 0 (usedG g e).length], .rows (usedG g e).length 2 ((usedG g e).map encU)]) := by
 have hlb : kb < m.length := (List.getElem?_eq_some_iff.1 hkb).1
 have hle : ke < m.length := (List.getElem?_eq_some_iff.1 hke).1
 have hlm : km < m.length := (List.getElem?_eq_some_iff.1 hkm).1
 have hul : (usedG g e).length ≤ e.wt := usedE_len (fun v => lookU v g) e
 have a0 : ∀ l : List Blk, (m ++ l)[m.length]? = l[0]? := fun l => by rw [List.getElem?_append_right (by omega), Nat.sub_self]
 have a1 : ∀ l : List Blk, (m ++ l)[m.length + 1]? = l[1]? := fun l => by rw [List.getElem?_append_right (by omega), Nat.add_sub_cancel_left]
 have a2 : ∀ l : List Blk, (m ++ l)[m.length + 2]? = l[2]? := fun l => by rw [List.getElem?_append_right (by omega), Nat.add_sub_cancel_left]
 have a3 : ∀ l : List Blk, (m ++ l)[m.length + 3]? = l[3]? := fun l => by rw [List.getElem?_append_right (by omega), Nat.add_sub_cancel_left]
 have a4 : ∀ l : List Blk, (m ++ l)[m.length + 4]? = l[4]? := fun l => by rw [List.getElem?_append_right (by omega), Nat.add_sub_cancel_left]
 have s0 : ∀ (l : List Blk) X, (m ++ l).set (m.length) X = m ++ l.set 0 X := fun l X => by rw [List.set_append_right _ _ (by omega), Nat.sub_self]
 have s1 : ∀ (l : List Blk) X, (m ++ l).set (m.length + 1) X = m ++ l.set 1 X := fun l X => by rw [List.set_append_right _ _ (by omega), Nat.add_sub_cancel_left]
 have s2 : ∀ (l : List Blk) X, (m ++ l).set (m.length + 2) X = m ++ l.set 2 X := fun l X => by rw [List.set_append_right _ _ (by omega), Nat.add_sub_cancel_left]
 have s3 : ∀ (l : List Blk) X, (m ++ l).set (m.length + 3) X = m ++ l.set 3 X := fun l X => by rw [List.set_append_right _ _ (by omega), Nat.add_sub_cancel_left]
 refine fns_ok tt_ok (fn := Tryz.f177) (m.length + 2) (by omega) Tryz.func177 rfl Tryz.call177 ?_
 simp only [ltb,startSt,Tryz.ntmps177,List.length_cons,List.length_nil,zA,zF,List.replicate_succ,List.replicate_zero]
 refine tri_seq_region tt_ok fun K hK => ?_
 simp only [go_sem,reduceIte,zA,zB,zC,zD,zE,zF,reduceCtorEq]
 refine hK _ ?_
 refine tri_seq ?_
 refine tri_seq_region tt_ok fun K hK => ?_
 simp only [go_sem,reduceIte,zA,zB,zC,zD,zE,zF,reduceCtorEq]
 refine hK _ ?_
 refine tri_nilBox m.length 0 0 2 (by dsimp only; rw [a0]; rfl) rfl ?_
 dsimp only
 simp only [ltb,s0,List.set_cons_zero,List.append_assoc,List.length_append,List.length_cons,List.length_nil,Nat.zero_add,zA]
 refine tri_block (tri_used g e (fun l : List Us => m ++ [.box [.ms (m.length + 1) l.length 0 l.length], .rows l.length 2 (l.map encU)]) [] (m.length + 2) kb ke km rfl (fun l => by simp) (by omega) (by omega) (by omega) (fun l => by rw [List.getElem?_append_left hlb]; exact hkb) (fun l => by rw [List.getElem?_append_left hlm]; exact hkm) (fun l => by rw [List.getElem?_append_left hle]; exact hke) (fun l => ?_) ?_ rfl rfl (fun l u => l ++ [u]) (fun i l => l.length = i) (B := 1048576) (by omega) he ?_ rfl ?_)
 ·rw [List.all_append, Bool.and_eq_true]
  exact ⟨belowBs_mono (by omega) hb, by simp [belowB, belowV] <;> omega⟩
 ·simp [belowV, belowL] <;> omega
 ·intro i acc u hi hG
  refine ⟨by simp [hG], fun l LR LB hLR hLB => ?_⟩
  have hacc : acc.length + 1 ≤ 34359738368 := by omega
  have hf2 : firstOk [V.agg [V.sc (.string u.1), V.sc (.string u.2)]] 0 2 = true := rfl
  simp only [setPs,List.set_cons_succ,List.set_cons_zero,encU]
  refine tri_last_region tt_ok fun K hK => ?_
  simp only [a3,s3,List.length_append,List.append_assoc,go_sem,reduceIte,zA,zB,zC,zD,zE,zF,reduceCtorEq]
  refine hK _ ?_
  refine ⟨rfl, by dsimp only; rw [a2]; rfl, tri_block ?_⟩
  simp only [s2,List.set_cons_succ,List.set_cons_zero]
  have hml : (acc.map encU).length = acc.length := List.length_map ..
  refine tri_last_region tt_ok fun K hK => ?_
  simp only [a0,a1,a3,a4,s0,s1,hf2,hml,hacc,List.length_append,List.append_assoc,go_sem,reduceIte,zA,zB,zC,zD,zE,zF,reduceCtorEq]
  refine hK _ ?_
  refine ⟨rfl, by dsimp only; rw [a2]; rfl, ?_⟩
  dsimp only
  rw [List.take_append, List.take_of_length_le (by omega), Nat.add_sub_cancel_left]
  simp [encU]
 ·rw [foldl_push, List.nil_append]
  show Tri _ _ _ _ _ _
  refine tri_seq_region tt_ok fun K hK => ?_
  simp only [a0,List.append_assoc,go_sem,reduceIte,zA,zB,zC,zD,zE,zF,reduceCtorEq]
  refine hK _ ?_
  have ht : ∀ l : List Blk, (m ++ l).take (m.length + 2) = m ++ l.take 2 := fun l => by rw [List.take_append, List.take_of_length_le (by omega), Nat.add_sub_cancel_left]
  refine tri_ret ⟨.inl rfl, rfl, by simp [belowV], ?_, ?_⟩
  ·dsimp only
   rw [ht, List.all_append, Bool.and_eq_true]
   exact ⟨belowBs_mono (by omega) hb, by simp [belowB, belowV]⟩
  ·dsimp only
   rw [ht]; rfl
theorem acoll_ok (g : GD) (e : Ex) (m : List Blk) (kb ke km : Nat) (hkb : m[kb]? = some (.box [.mp km])) (hkm : m[km]? = some (.map (mkM usV 0 (encG g)) (encG g).length)) (hke : m[ke]? = some (.box (exCells e))) (he : e.wt ≤ 1048576) (hb : m.all (belowB m.length) = true) :
  FnOkS Tryz.prog 124 [.clo (.func 178) [] [.ptr kb 0, .ptr ke 0]] m (.ms (m.length + 1) (usedG g e).length 0 (usedG g e).length) (m ++ [.box [.ms (m.length + 1) (usedG g e).length 0 (usedG g e).length], .rows (usedG g e).length 2 ((usedG g e).map encU)]) := by
 refine fns_ok tt_ok (fn := Tryz.f124) (m.length + 2) (by omega) Tryz.func124 rfl Tryz.call124 ?_
 simp only [ltb,startSt,Tryz.ntmps124,List.length_cons,List.length_nil,zA,zF,List.replicate_succ,List.replicate_zero]
 refine tri_seq_region tt_ok fun K hK => ?_
 simp only [go_sem,reduceIte,zA,zB,zC,zD,zE,zF,reduceCtorEq]
 refine hK _ ?_
 refine tri_seq_region tt_ok fun K hK => ?_
 simp only [go_sem,reduceIte,zA,zB,zC,zD,zE,zF,reduceCtorEq]
 refine .inr <| .inl ⟨_, _, aseq_ok g e m kb ke km hkb hkm hke he hb, ?_⟩
 try simp only [go_sem,reduceIte,zA,zB,zC,zD,zE,zF,reduceCtorEq]
 refine hK _ ?_
 have ht : ∀ l : List Blk, (m ++ l).take (m.length + 2) = m ++ l.take 2 := fun l => by rw [List.take_append, List.take_of_length_le (by omega), Nat.add_sub_cancel_left]
 refine tri_ret ⟨.inl rfl, rfl, by simp [belowV], ?_, ?_⟩
 ·dsimp only
  rw [ht, List.all_append, Bool.and_eq_true]
  exact ⟨belowBs_mono (by omega) hb, by simp [belowB, belowV]⟩
 ·dsimp only
  rw [ht]; rfl
theorem used_ok (e : Ex) (m : List Blk) (km : Nat) (hkm : km < m.length) (hb : m.all (belowB m.length) = true) :
  FnOkS Tryz.prog 125 [.mp km, encEx e] m (.clo (.func 178) [] [.ptr m.length 0, .ptr (m.length + 1) 0]) (m ++ [.box [.mp km], .box (exCells e)]) := by
 refine fns_ok tt_ok (fn := Tryz.f125) (m.length + 2) (by omega) Tryz.func125 rfl Tryz.call125 ?_
 simp only [ltb,startSt,Tryz.ntmps125,List.length_cons,List.length_nil,zA,zF,List.replicate_succ,List.replicate_zero]
 rw [encEx_eq]
 simp only [exCells]
 refine tri_seq_region tt_ok fun K hK => ?_
 simp only [List.length_append,List.append_assoc,go_sem,reduceIte,zA,zB,zC,zD,zE,zF,reduceCtorEq]
 refine hK _ ?_
 refine tri_seq_region tt_ok fun K hK => ?_
 simp only [go_sem,reduceIte,zA,zB,zC,zD,zE,zF,reduceCtorEq]
 refine hK _ ?_
 have ht : ∀ l : List Blk, (m ++ l).take (m.length + 2) = m ++ l.take 2 := fun l => by rw [List.take_append, List.take_of_length_le (by omega), Nat.add_sub_cancel_left]
 refine tri_ret ⟨.inl rfl, rfl, by simp [belowV, belowL], ?_, ?_⟩
 ·dsimp only
  rw [ht, List.all_append, Bool.and_eq_true]
  exact ⟨belowBs_mono (by omega) hb, by simp [belowB, belowV]; omega⟩
 ·dsimp only
  rw [ht]; rfl
end Go.Proofs.YtefbaladomfccaaGreatDoor
end

section
namespace Go.Proofs.YtefbaladomfccaaGreatDoor
open Go.Eng
variable [Glob]
set_option maxHeartbeats 4000000
set_option maxRecDepth 100000
def declP : List Md → Us → Option Dc
 | [], _ => none
 | m :: r, u => if m.path = u.1 then m.decls.find? (fun d => decide (d.name = u.2)) else declP r u
def dz : Dc := ⟨0, ⟨#[]⟩, false, false, ⟨#[]⟩, [], .mk 0 ⟨#[]⟩ ⟨#[]⟩ [] [], .mk 0 ⟨#[]⟩ ⟨#[]⟩ [] [], .mk 0 ⟨#[]⟩ ⟨#[]⟩ [] [], .mk 0 ⟨#[]⟩ ⟨#[]⟩ ⟨#[]⟩ 0 [] [] [], ⟨#[]⟩, ⟨#[]⟩⟩
end Go.Proofs.YtefbaladomfccaaGreatDoor
end

section
namespace Go.Proofs.YtefbaladomfccaaGreatDoor
open Go.Eng
variable [Glob]
set_option maxHeartbeats 4000000
set_option maxRecDepth 100000
end Go.Proofs.YtefbaladomfccaaGreatDoor
end

section
namespace Go.Proofs.YtefbaladomfccaaGreatDoor
open Go.Eng
variable [Glob]
set_option maxHeartbeats 4000000
set_option maxRecDepth 100000
theorem insL_len {α : Type} [DecidableEq α] (lt : α → α → Bool) : ∀ (l : List α) (s : α), (insL lt l s).length ≤ l.length + 1
 | [], s => by simp [insL]
 | a :: r, s => by
  unfold insL
  split
  ·have := insL_len lt r s; simp only [List.length_cons]; omega
  ·split <;> simp
theorem insAll_len {α : Type} [DecidableEq α] (lt : α → α → Bool) : ∀ (m l : List α), (insAll lt l m).length ≤ l.length + m.length
 | [], l => Nat.le_refl _
 | s :: m, l => by
  have h1 := insAll_len lt m (insL lt l s)
  have h2 := insL_len lt l s
  show (insAll lt (insL lt l s) m).length ≤ _
  rw [List.length_cons]; omega
def dirU (look : Us → Option Dc) (u : Us) : List Us := insAll ltU [] (usedE look ((look u).getD dz).expr)
def usesL (look : Us → Option Dc) (u : Us) : List Us := match leads look u with | none => [] | some v => dirU look v
def usesV (look : Us → Option Dc) (u : Us) : V := .slice ((usesL look u).map encU)
theorem usesL_no {look : Us → Option Dc} {u : Us} (h : leads look u = none) : V.slice [] = usesV look u := by unfold usesV usesL; rw [h]; rfl
theorem usesL_yes {look : Us → Option Dc} {u v : Us} (h : leads look u = some v) : V.slice ((dirU look v).map encU) = usesV look u := by unfold usesV usesL; rw [h]
theorem leadF_some {look : Us → Option Dc} : ∀ {n : Nat} {u v : Us}, leadF look n u = some v → ∃ d, look v = some d ∧ d.kind = 1
 | 0, u, v, h => by cases h
 | n + 1, u, v, h => by
  unfold leadF at h
  split at h
  ·cases h
  ·rename_i d hd
   split at h
   ·rename_i hk; cases h; exact ⟨d, hd, hk⟩
   ·split at h
    ·exact leadF_some h
    ·cases h
theorem leads_some {look : Us → Option Dc} {u v : Us} (h : leads look u = some v) : ∃ d, look v = some d ∧ d.kind = 1 := leadF_some h
theorem declP_wt {p : List Md} (hw : ∀ m ∈ p, m.wt ≤ 1048576) {u : Us} {d : Dc} (h : declP p u = some d) : d.wt ≤ 1048576 := by
 induction p with
 | nil => cases h
 | cons m r ih =>
  unfold declP at h
  split at h
  ·have hm := hw m (List.mem_cons_self ..)
   have h1 := mem_sum Dc.wt (List.mem_of_find?_eq_some h)
   have h2 : m.wt = 1 + m.path.size + sumBy Im.wt m.imports + sumBy Dc.wt m.decls := rfl
   omega
  ·exact ih (fun m hm => hw m (List.mem_cons_of_mem _ hm)) h
end Go.Proofs.YtefbaladomfccaaGreatDoor
end

section
namespace Go.Proofs.YtefbaladomfccaaGreatDoor
open Go.Eng
open Nat renaming reduceAdd → zA, reduceLT → zB, reduceLeDiff → zC, reduceMul → zD, reduceEqDiff → zE, reduceSub → zF
variable [Glob]
set_option maxHeartbeats 4000000
set_option maxRecDepth 100000
theorem asc_dd {l l' : List Us} (hp : l'.Perm l) (hs : ∀ (i j : Nat) (x y : Us), i < j → l'[i]? = some x → l'[j]? = some y → ltU y x = false) : dd l' = insAll ltU [] l :=
  Asc.ext lin_us (dd_asc lin_us hs) (insAll_asc lin_us List.Pairwise.nil) fun x => by rw [dd_mem, insAll_mem, hp.mem_iff]; simp
theorem direct_ok (g : GD) (u : Us) (d : Dc) (hlu : lookU u g = some d) (m : List Blk) (k : Nat) (hk : m[k]? = some (.map (mkM usV 0 (encG g)) (encG g).length)) (hb : m.all (belowB m.length) = true) (hw : d.wt ≤ 1048576) :
    FnOkS Tryz.prog 77 [.mp k, encU u] m (.slice ((insAll ltU [] (usedG g d.expr)).map encU)) m := by
  have hlk : k < m.length := (List.getElem?_eq_some_iff.1 hk).1
  have hul : (usedG g d.expr).length ≤ d.expr.wt := usedE_len (fun v => lookU v g) d.expr
  have hwe : d.expr.wt ≤ 1048576 := by have h : 1 + d.expr.wt ≤ d.wt := by { unfold Dc.wt; omega }
                                       omega
  have hlook : ∀ B : Blk, lookupV Tryz.prog (m ++ [B]) 94 (.mp k) (.agg [str u.1, str u.2]) false = some (encDc d) := fun B => by
    rw [lookD u g (mem := m ++ [B]) (b := k) (by rw [List.getElem?_append_left hlk]; exact hk) false, hlu]; rfl
  have hus := used_ok d.expr (m ++ [.box [str u.1, str u.2]]) k (by simp; omega) (by rw [List.all_append, Bool.and_eq_true]; exact ⟨belowBs_mono (by simp) hb, by simp [belowB, belowV]⟩)
  have hco := acoll_ok g d.expr (m ++ [.box [str u.1, str u.2]] ++ [.box [.mp k], .box (exCells d.expr)]) (m.length + 1) (m.length + 2) k (by rw [List.append_assoc, List.getElem?_append_right (by omega), Nat.add_sub_cancel_left]; rfl) (by rw [List.append_assoc, List.getElem?_append_left hlk]; exact hk) (by rw [List.append_assoc, List.getElem?_append_right (by omega), Nat.add_sub_cancel_left]; rfl) hwe (by
    rw [List.all_append, List.all_append, Bool.and_eq_true, Bool.and_eq_true]
    exact ⟨⟨belowBs_mono (by simp) hb, by simp [belowB, belowV]⟩, by simp [belowB, belowV, belowL, exCells]; omega⟩)
  rw [encDc_eq] at hlook
  simp only [ltb,dcCells,tyCells,exCells] at hlook
  rw [encEx_eq] at hus
  simp only [ltb,exCells,List.length_append,List.length_cons,List.length_nil,List.append_assoc,Nat.zero_add,zA,Nat.add_assoc] at hus hco
  have a0 : ∀ l : List Blk, (m ++ l)[m.length]? = l[0]? := fun l => by rw [List.getElem?_append_right (by omega), Nat.sub_self]
  have a4 : ∀ l : List Blk, (m ++ l)[m.length + 4]? = l[4]? := fun l => by rw [List.getElem?_append_right (by omega), Nat.add_sub_cancel_left]
  have s0 : ∀ (l : List Blk) X, (m ++ l).set (m.length) X = m ++ l.set 0 X := fun l X => by rw [List.set_append_right _ _ (by omega), Nat.sub_self]
  have s4 : ∀ (l : List Blk) X, (m ++ l).set (m.length + 4) X = m ++ l.set 4 X := fun l X => by rw [List.set_append_right _ _ (by omega), Nat.add_sub_cancel_left]
  refine fns_ok tt_ok (fn := Tryz.f77) m.length (Nat.le_refl _) Tryz.func77 rfl Tryz.call77 ?_
  simp only [ltb,startSt,Tryz.ntmps77,List.length_cons,List.length_nil,zA,zF,List.replicate_succ,List.replicate_zero]
  simp only [encU]
  refine tri_seq_region tt_ok fun K hK => ?_
  simp only [a0,go_sem,reduceIte,zA,zB,zC,zD,zE,zF,reduceCtorEq]
  refine hK _ ?_
  obtain ⟨L, hL⟩ : ∃ L, L = usedG g d.expr := ⟨_, rfl⟩
  rw [← hL] at hul hco ⊢
  refine tri_seq_region tt_ok fun K hK => ?_
  simp only [a0,hlook,List.length_append,List.append_assoc,go_sem,reduceIte,zA,zB,zC,zD,zE,zF,reduceCtorEq]
  refine .inr <| .inl ⟨_, _, hus, ?_⟩
  try simp only [go_sem,reduceIte,zA,zB,zC,zD,zE,zF,reduceCtorEq]
  refine .inr <| .inl ⟨_, _, hco, ?_⟩
  try simp only [go_sem,reduceIte,zA,zB,zC,zD,zE,zF,reduceCtorEq]
  refine hK _ ?_
  refine tri_seq_region tt_ok fun K hK => ?_
  simp only [go_sem,reduceIte,zA,zB,zC,zD,zE,zF,reduceCtorEq]
  refine .inr <| .inr <| .inl ⟨_, sortC_ok _ (m.length + 4) L.length L (by rw [a4]; rfl) (by omega), ?_⟩
  rintro r m' ⟨rfl, l', hp, hs, rfl⟩
  try simp only [go_sem,reduceIte,zA,zB,zC,zD,zE,zF,reduceCtorEq]
  refine hK _ ?_
  have hll : l'.length = L.length := hp.length_eq
  have hcp := compactU_ok (m ++ [.box [str u.1, str u.2], .box [.mp k], .box (exCells d.expr), .box [.ms (m.length + 4) L.length 0 L.length], .rows L.length 2 (L.map encU)]) (m.length + 4) L.length (by simp) (by
    rw [List.all_append, Bool.and_eq_true]
    exact ⟨belowBs_mono (by simp) hb, by simp [belowB, belowV, belowL, exCells]; omega⟩) l' (by omega)
  rw [hll, asc_dd hp hs] at hcp
  simp only [exCells] at hcp
  refine tri_seq_region tt_ok fun K hK => ?_
  simp only [go_sem,reduceIte,zA,zB,zC,zD,zE,zF,reduceCtorEq]
  refine .inr <| .inl ⟨_, _, hcp, ?_⟩
  try simp only [go_sem,reduceIte,zA,zB,zC,zD,zE,zF,reduceCtorEq]
  refine hK _ ?_
  simp only [s4,List.set_cons_succ,List.set_cons_zero]
  have hfz : ∀ rows v, (frzAll (m ++ [.box [str u.1, str u.2], .box [.mp k], .box [num d.expr.kind, str d.expr.mod, str d.expr.name, str d.expr.text, num d.expr.num, .slice (encTys d.expr.types), .slice (d.expr.labels.map encLb), .slice (encExs d.expr.kids)], .box [.ms (m.length + 4) L.length 0 L.length], .rows L.length 2 rows]) (ref1 (V.ms (m.length + 4) L.length 0 v))).take m.length = m := fun rows v => by
    simp [frzAll, frz1, ref1, refCell, a4, s4]
  refine tri_frz (v' := .slice ((insAll ltU [] L).map encU)) 4 rfl (by simp only [pur1,purCell,a4]; simp; exact List.take_of_length_le (by simp)) ?_
  refine tri_ret ⟨.inl rfl, rfl, by simp [belowV, belowL], ?_, ?_⟩
  · dsimp only; rw [hfz]; exact hb
  · dsimp only; rw [hfz]
end Go.Proofs.YtefbaladomfccaaGreatDoor
end

section
namespace Go.Proofs.YtefbaladomfccaaGreatDoor
open Go.Eng
open Nat renaming reduceAdd → zA, reduceLT → zB, reduceLeDiff → zC, reduceMul → zD, reduceEqDiff → zE, reduceSub → zF
variable [Glob]
set_option maxHeartbeats 4000000
set_option maxRecDepth 100000
def getA {β : Type} (u : Us) (g : List (Us × β)) : Option β := (g.find? fun e => decide (e.1 = u)).map (·.2)
theorem getM_enc {β : Type} (enc : β → V) (u : Us) : ∀ g : List (Us × β), getM u (g.map fun e => (e.1, enc e.2)) = (getA u g).map enc
 | [] => rfl
 | e :: g => by
  show (if e.1 = u then some (enc e.2) else getM u (g.map fun e => (e.1, enc e.2))) = _
  rw [getM_enc enc u g]
  unfold getA
  by_cases h : e.1 = u
  ·rw [if_pos h, List.find?_cons_of_pos (by simpa using h)]; rfl
  ·rw [if_neg h, List.find?_cons_of_neg (by simpa using h)]
abbrev Bef := List (Us × Us)
abbrev Tos := List (Us × Bool)
def encB (B : Bef) : List (Us × V) := B.map fun e => (e.1, encU e.2)
def encT (T : Tos) : List (Us × V) := T.map fun e => (e.1, bl e.2)
def toB (T : Tos) (u : Us) : Bool := (getA u T).getD false
theorem encB_below (n : Nat) (g : Bef) : ((mkM usV 0 (encB g)).all fun e => belowV n e.2.2) = true := by
 rw [mkM_all usV (belowV n)]; unfold encB; simp [encU, belowV, belowL]
theorem encT_below (n : Nat) (g : Tos) : ((mkM usV 0 (encT g)).all fun e => belowV n e.2.2) = true := by
 rw [mkM_all usV (belowV n)]; unfold encT; simp [belowV]
theorem map173 : mapDesc Tryz.prog 173 = some (78, 78) := by kernel_rfl
theorem map98 : mapDesc Tryz.prog 98 = some (78, 4) := by kernel_rfl
theorem zeroU : zeroV Tryz.prog 78 = some (.agg [str ⟨#[]⟩, str ⟨#[]⟩]) := by kernel_rfl
theorem zeroBl : zeroV Tryz.prog 4 = some (bl false) := by kernel_rfl
theorem lookB (u : Us) (B : Bef) {mem : List Blk} {b : Nat} (hm : mem[b]? = some (.map (mkM usV 0 (encB B)) (encB B).length)) (ok : Bool) :
  lookupV Tryz.prog mem 173 (.mp b) (.agg [str u.1, str u.2]) ok = some (okV ok (getA u B).isSome (((getA u B).map encU).getD (.agg [str ⟨#[]⟩, str ⟨#[]⟩]))) := by
 have h := (ktUse map173).get u (encB B) hm zeroU ok
 unfold encB at h
 rw [getM_enc] at h
 simpa [encU] using h
theorem lookT (u : Us) (T : Tos) {mem : List Blk} {b : Nat} (hm : mem[b]? = some (.map (mkM usV 0 (encT T)) (encT T).length)) :
  lookupV Tryz.prog mem 98 (.mp b) (.agg [str u.1, str u.2]) false = some (bl (toB T u)) := by
 have h := (ktUse map98).get u (encT T) hm zeroBl false
 unfold encT at h
 rw [getM_enc] at h
 have e : encU u = .agg [str u.1, str u.2] := rfl
 rw [e] at h
 rw [h]
 unfold toB
 cases getA u T <;> rfl
theorem putB {u : Us} {B : Bef} (h : getA u B = none) (x : Us) {mem : List Blk} {b : Nat} (hm : mem[b]? = some (.map (mkM usV 0 (encB B)) (encB B).length)) :
  insertV Tryz.prog mem 173 (.mp b) (.agg [str u.1, str u.2]) (.agg [str x.1, str x.2]) = some (mem.set b (.map (mkM usV 0 (encB (B ++ [(u, x)]))) (encB (B ++ [(u, x)])).length)) := by
 have h2 := (ktUse map173).put u (encU x) (encB B) hm
 rw [put_none (by unfold encB; rw [getM_enc, h]; rfl)] at h2
 have e : encB B ++ [(u, encU x)] = encB (B ++ [(u, x)]) := by simp [encB]
 rw [e] at h2
 exact h2
theorem first2 (a b : V) (r : List V) : firstOk (.agg [a, b] :: r) 0 2 = true := rfl
theorem map1 {α β : Type} (f : α → β) (l : List α) (a : α) : (l ++ [a]).map f = l.map f ++ [f a] := by simp
theorem len1 {α : Type} (l : List α) (a : α) : (l ++ [a]).length = l.length + 1 := by simp
section
variable (look : Us → Option Dc)
def isVal (u : Us) : Prop := ∃ d, look u = some d ∧ d.kind = 1
mutual
theorem usedE_val {x : Us} : ∀ e : Ex, x ∈ usedE look e → isVal look x
 | .mk k m n t i ts ls ks, h => by
  rw [usedE, List.mem_append] at h
  rcases h with h | h
  ·unfold ownU at h
   split at h
   ·split at h
    ·rename_i u hu
     rw [List.mem_singleton] at h; subst h
     exact leads_some hu
    ·simp at h
   ·simp at h
  ·exact usedEs_val ks h
theorem usedEs_val {x : Us} : ∀ l : List Ex, x ∈ usedEs look l → isVal look x
 | [], h => by simp [usedEs] at h
 | e :: r, h => by
  rw [usedEs, List.mem_append] at h
  rcases h with h | h
  ·exact usedE_val e h
  ·exact usedEs_val r h
end
theorem dirU_val {x u : Us} (h : x ∈ dirU look u) : isVal look x := by
 unfold dirU at h
 rw [insAll_mem] at h
 rcases h with h | h
 ·simp at h
 ·exact usedE_val look _ h
structure Bf (s : Us) (B : Bef) : Prop where
 pos : B[0]? = some (s, s)
 step : ∀ i k u, B[i + 1]? = some (k, u) → ∃ j u', j ≤ i ∧ B[j]? = some (u, u') ∧ k ∈ dirU look u
 nodup : (B.map Prod.fst).Nodup
 val : ∀ e ∈ B, isVal look e.1
variable {look} {s : Us} {B : Bef}
theorem Bf.one (h : isVal look s) : Bf look s [(s, s)] := ⟨rfl, fun i k u hi => by simp at hi, by simp, fun e he => by rw [List.mem_singleton] at he; subst he; exact h⟩
theorem Bf.get (h : Bf look s B) {i : Nat} {k u : Us} (hi : B[i]? = some (k, u)) : getA k B = some u := by
 have key : ∀ (B : Bef) (i : Nat), (B.map Prod.fst).Nodup → B[i]? = some (k, u) → getA k B = some u := by
  intro B
  induction B with
  | nil => intro i _ h; simp at h
  | cons e r ih =>
   intro i hn h
   rw [List.map_cons, List.nodup_cons] at hn
   unfold getA
   cases i with
   | zero => simp at h; subst h; rw [List.find?_cons_of_pos (by simp)]; rfl
   | succ i =>
    have hr : r[i]? = some (k, u) := by simpa using h
    have hne : ¬ e.1 = k := fun he => hn.1 (he ▸ List.mem_map.2 ⟨(k, u), List.mem_of_getElem? hr, rfl⟩)
    rw [List.find?_cons_of_neg (by simpa using hne)]
    exact ih i hn.2 hr
 exact key B i h.nodup hi
theorem getA_none {B : Bef} {k : Us} (h : getA k B = none) : k ∉ B.map Prod.fst := fun hm => by
 obtain ⟨e, he, rfl⟩ := List.mem_map.1 hm
 unfold getA at h
 rw [Option.map_eq_none_iff, List.find?_eq_none] at h
 exact h e he (by simp)
theorem Bf.add (h : Bf look s B) {k u u' : Us} (hk : getA k B = none) (hu : (u, u') ∈ B) (hd : k ∈ dirU look u) : Bf look s (B ++ [(k, u)]) := by
 have hpos : 0 < B.length := (List.getElem?_eq_some_iff.1 h.pos).1
 refine ⟨by rw [List.getElem?_append_left hpos]; exact h.pos, fun i k1 u1 hi => ?_, ?_, fun e he => ?_⟩
 ·rcases Nat.lt_or_ge (i + 1) B.length with hlt | hge
  ·rw [List.getElem?_append_left hlt] at hi
   obtain ⟨j, w, h1, h2, h3⟩ := h.step i k1 u1 hi
   exact ⟨j, w, h1, by rw [List.getElem?_append_left (by omega)]; exact h2, h3⟩
  ·rw [List.getElem?_append_right hge] at hi
   have h0 : i + 1 - B.length = 0 := by have := (List.getElem?_eq_some_iff.1 hi).1; simp at this; omega
   rw [h0] at hi
   simp at hi
   obtain ⟨rfl, rfl⟩ := hi
   obtain ⟨j, hj⟩ := List.mem_iff_getElem?.1 hu
   have hjl := (List.getElem?_eq_some_iff.1 hj).1
   exact ⟨j, u', by omega, by rw [List.getElem?_append_left hjl]; exact hj, hd⟩
 ·rw [List.map_append, List.nodup_append]
  refine ⟨h.nodup, by simp, fun a ha b hb => ?_⟩
  simp at hb; subst hb
  exact fun e => getA_none hk (e ▸ ha)
 ·rcases List.mem_append.1 he with he | he
  ·exact h.val e he
  ·rw [List.mem_singleton] at he; subst he; exact dirU_val look hd
theorem Bf.len {g : GD} (h : Bf (fun v => lookU v g) s B) : B.length ≤ g.length := by
 have hsub : ∀ x ∈ B.map Prod.fst, x ∈ g.map Prod.fst := fun x hx => by
  obtain ⟨e, he, rfl⟩ := List.mem_map.1 hx
  obtain ⟨d, hd, -⟩ := h.val e he
  unfold lookU at hd
  rw [Option.map_eq_some_iff] at hd
  obtain ⟨e2, he2, -⟩ := hd
  have h1 := List.find?_some he2
  exact List.mem_map.2 ⟨e2, List.mem_of_find?_eq_some he2, of_decide_eq_true h1⟩
 have key : ∀ (l m : List Us), l.Nodup → (∀ x ∈ l, x ∈ m) → l.length ≤ m.length := by
  intro l
  induction l with
  | nil => intro m _ _; exact Nat.zero_le _
  | cons a r ih =>
   intro m hn hs
   rw [List.nodup_cons] at hn
   have ha := hs a (List.mem_cons_self ..)
   have h1 := ih (m.filter fun x => decide (¬ x = a)) hn.2 fun x hx => List.mem_filter.2 ⟨hs x (List.mem_cons_of_mem _ hx), decide_eq_true fun e => hn.1 (e ▸ hx)⟩
   have h2 : (m.filter fun x => decide (¬ x = a)).length < m.length := List.length_filter_lt_length_iff_exists.2 ⟨a, ha, by simp⟩
   rw [List.length_cons]; omega
 have := key (B.map Prod.fst) (g.map Prod.fst) h.nodup hsub
 simpa using this
structure Pth (B : Bef) (look : Us → Option Dc) (x : Us) (O : List Us) (v : Us) (j : Nat) : Prop where
 head : O[0]? = some x
 link : ∀ i a b, O[i]? = some a → O[i + 1]? = some b → a ∈ dirU look b
 last : O.getLast? = some v
 at_ : ∃ u, B[j]? = some (v, u)
 val : ∀ a ∈ O, isVal look a
 len : O.length + j ≤ B.length
theorem Pth.one (h : Bf look s B) {x u : Us} {j : Nat} (hj : B[j]? = some (x, u)) : Pth B look x [x] x j :=
 ⟨rfl, fun i a b h1 h2 => by simp at h2, rfl, ⟨u, hj⟩, fun a ha => by rw [List.mem_singleton] at ha; subst ha; exact h.val _ (List.mem_of_getElem? hj), by have := (List.getElem?_eq_some_iff.1 hj).1; rw [List.length_singleton]; omega⟩
theorem Pth.next {x v : Us} {O : List Us} {j : Nat} (h : Bf look s B) (p : Pth B look x O v j) (hne : ¬ v = s) : ∃ u j', getA v B = some u ∧ j' < j ∧ Pth B look x (O ++ [u]) u j' := by
 obtain ⟨u, hu⟩ := p.at_
 cases j with
 | zero => rw [h.pos] at hu; exact absurd (congrArg Prod.fst (Option.some.inj hu)).symm hne
 | succ j =>
  obtain ⟨j', u', h1, h2, h3⟩ := h.step j v u hu
  have hO : 0 < O.length := (List.getElem?_eq_some_iff.1 p.head).1
  refine ⟨u, j', h.get hu, by omega, ⟨by rw [List.getElem?_append_left hO]; exact p.head, fun i a b ha hb => ?_, by simp, ⟨u', h2⟩, fun a ha => ?_, by have := p.len; rw [List.length_append, List.length_singleton]; omega⟩⟩
  ·rcases Nat.lt_or_ge (i + 1) O.length with hlt | hge
   ·rw [List.getElem?_append_left (by omega)] at ha
    rw [List.getElem?_append_left hlt] at hb
    exact p.link i a b ha hb
   ·rw [List.getElem?_append_right hge] at hb
    have h0 : i + 1 - O.length = 0 := by have := (List.getElem?_eq_some_iff.1 hb).1; simp at this; omega
    rw [h0] at hb
    simp at hb; subst hb
    have hi : i = O.length - 1 := by omega
    rw [List.getElem?_append_left (by omega), hi, ← List.getLast?_eq_getElem?, p.last] at ha
    cases ha; exact h3
  ·rcases List.mem_append.1 ha with ha | ha
   ·exact p.val a ha
   ·rw [List.mem_singleton] at ha; subst ha; exact h.val _ (List.mem_of_getElem? h2)
structure Chn (look : Us → Option Dc) (s : Us) (to : Us → Bool) (c : List Us) : Prop where
 head : c[0]? = some s
 link : ∀ i a b, c[i]? = some a → c[i + 1]? = some b → b ∈ dirU look a
 last : ∃ z, c.getLast? = some z ∧ to z = true
 val : ∀ a ∈ c, isVal look a
 len : c.length ≤ 1048576
theorem Pth.done {x v : Us} {O : List Us} {j : Nat} {to : Us → Bool} (p : Pth B look x O v j) (he : v = s) (hx : to x = true) (hB : B.length ≤ 1048576) : Chn look s to O.reverse := by
 subst he
 have hO : 0 < O.length := (List.getElem?_eq_some_iff.1 p.head).1
 refine ⟨?_, fun i a b ha hb => ?_, ⟨x, ?_, hx⟩, fun a ha => p.val a (List.mem_reverse.1 ha), by have := p.len; rw [List.length_reverse]; omega⟩
 ·rw [List.getElem?_reverse hO, ← p.last, List.getLast?_eq_getElem?]; rfl
 ·have hl := (List.getElem?_eq_some_iff.1 hb).1
  rw [List.length_reverse] at hl
  rw [List.getElem?_reverse (by omega)] at ha
  rw [List.getElem?_reverse hl] at hb
  refine p.link _ b a hb ?_
  rw [← ha]; congr 1; omega
 ·rw [List.getLast?_reverse, List.head?_eq_getElem?]; exact p.head
end
theorem chain_ok (g : GD) (T : Tos) (s : Us) (hg : g.length ≤ 1048576) (hgw : ∀ u d, lookU u g = some d → d.wt ≤ 1048576) (hs : isVal (fun v => lookU v g) s) : ∃ r_, (fun r : V => r = V.sc (.slice none 0 0) ∨ ∃ c : List Us, c ≠ [] ∧ r = V.slice (c.map encU) ∧ Chn (fun v => lookU v g) s (toB T) c) r_ ∧ FnOkS Tryz.prog 40 [.mp 0, encU s, .mp 1] ([.map (mkM usV 0 (encG g)) (encG g).length, .map (mkM usV 0 (encT T)) (encT T).length]) r_ ([.map (mkM usV 0 (encG g)) (encG g).length, .map (mkM usV 0 (encT T)) (encT T).length]) := by
 refine vfs tt_ok [13,28] 86 [.tmp 6] (fn := Tryz.f40) Tryz.func40 rfl Tryz.call40 ⟨rfl, rfl, by simp⟩ fun K hK => ?_
 simp only [encU]
 have hput0 := fun B2 => putB (u := s) (B := []) rfl s (mem := [.map (mkM usV 0 (encG g)) (encG g).length, .map (mkM usV 0 (encT T)) (encT T).length, B2, .map [] 0]) (b := 3) rfl
 simp only [encG_below,encB_below,encT_below,hput0,List.length_map,ev_usneq,go_sem,reduceIte,zA,zB,zC,zD,zE,zF,reduceCtorEq]
 refine xfrz (v' := .slice [.agg [str s.1, str s.2]]) 8 (by decide) rfl rfl ?_
 refine xloop tt_ok [13,28] (fun a : Bef × List Us => [(0, .mp 0), (2, .mp 1), (4, .ptr 2 0), (7, .mp 3), (8, .slice (a.2.map encU))]) (fun a : Bef × List Us => [.map (mkM usV 0 (encG g)) (encG g).length, .map (mkM usV 0 (encT T)) (encT T).length, .box [str s.1, str s.2], .map (mkM usV 0 (encB a.1)) (encB a.1).length]) (fun a => 2 * (g.length - a.1.length) + (if a.2.length = 0 then 0 else 1)) (fun a => Bf (fun v => lookU v g) s a.1 ∧ (∀ x ∈ a.2, ∃ u, (x, u) ∈ a.1) ∧ a.2.length ≤ 1048576) (([(s, s)], [s])) 4 (lies (by omega) (by simp only [encG_below,encB_below,encT_below,hput0,List.length_map,ev_usneq,encB,List.map_cons,List.map_nil,mkM,List.length_cons,List.length_nil,encU,Nat.zero_add,Int.cast_ofNat_Int,go_sem,reduceIte,zA,zB,zC,zD,zE,zF,reduceCtorEq] <;> rfl)) (⟨Bf.one hs, fun x hx => by rw [List.mem_singleton] at hx; subst hx; exact ⟨_, List.mem_singleton.2 rfl⟩, by simp⟩) ?_
 intro ⟨B, L⟩ ⟨hB, hL, hLl⟩
 try dsimp only at hB hL hLl
 try dsimp only
 have hBg := hB.len
 intro Z1 hZ1
 simp only [encG_below,encB_below,encT_below,hput0,List.length_map,ev_usneq,go_sem,reduceIte,zA,zB,zC,zD,zE,zF,reduceCtorEq]
 refine gif (fun hc27 => ?_) (fun hc27 => ?_)
 ·have hLp : 0 < L.length := by have := of_decide_eq_true hc27; omega
  simp only [encG_below,encB_below,encT_below,hput0,List.length_map,ev_usneq,go_sem,reduceIte,zA,zB,zC,zD,zE,zF,reduceCtorEq]
  refine xloopL tt_ok [13,28] [30] 4 [0,2,4,7,8,27,28,29] (fun vs => ((L.length : Int) - Go.Eng.intOf (vs.headD .undef)).toNat) (fun vs => ∃ i : Nat, vs = [num i] ∧ i ≤ L.length) (by omega) (by simp only [encG_below,encB_below,encT_below,hput0,List.length_map,ev_usneq,go_sem,reduceIte,zA,zB,zC,zD,zE,zF,reduceCtorEq]) (⟨0, rfl, Nat.zero_le _⟩) fun vs hI Z2 hZ2 => ?_
  obtain ⟨i, rfl, hi⟩ := hI
  simp only [encG_below,encB_below,encT_below,hput0,List.length_map,ev_usneq,go_sem,reduceIte,zA,zB,zC,zD,zE,zF,reduceCtorEq]
  refine gif (fun hc31 => ?_) (fun hc31 => ?_)
  ·have hlti : i < L.length := by simpa using hc31
   have hwi := i64_succ i (by omega)
   obtain ⟨x, hx⟩ : ∃ x, L[i]? = some x := ⟨_, List.getElem?_eq_getElem hlti⟩
   have hlt := fun B4 => lookT x T (mem := [.map (mkM usV 0 (encG g)) (encG g).length, .map (mkM usV 0 (encT T)) (encT T).length, .box [str s.1, str s.2], .map (mkM usV 0 (encB B)) (encB B).length, B4]) (b := 1) rfl
   simp only [encG_below,encB_below,encT_below,hput0,hwi,hx,List.getElem?_map,encU,hlt,List.length_map,ev_usneq,go_sem,reduceIte,zA,zB,zC,zD,zE,zF,reduceCtorEq]
   refine gif (fun hc37 => ?_) (fun hc37 => ?_)
   ·simp only [encG_below,encB_below,encT_below,hput0,hwi,hx,List.getElem?_map,encU,hlt,List.length_map,ev_usneq,go_sem,reduceIte,zA,zB,zC,zD,zE,zF,reduceCtorEq]
    refine hZ2 _ (endK (by omega) (by simp only [encG_below,encB_below,encT_below,hput0,hwi,hx,List.getElem?_map,encU,hlt,List.length_map,ev_usneq,go_sem,reduceIte,zA,zB,zC,zD,zE,zF,reduceCtorEq]) ?_ ?_) <;> simp only [lks,lk,reduceIte,zE]
    ·exact ⟨i + 1, rfl, hlti⟩
    ·simp only [Go.Eng.intOf,List.headD_cons]; omega
   ·have hto : toB T x = true := by simpa using hc37
    obtain ⟨ux, hux⟩ := hL x (List.mem_of_getElem? hx)
    obtain ⟨jx, hjx⟩ := List.mem_iff_getElem?.1 hux
    simp only [encG_below,encB_below,encT_below,hput0,hwi,hx,List.getElem?_map,encU,hlt,first2,List.length_map,ev_usneq,go_sem,reduceIte,zA,zB,zC,zD,zE,zF,reduceCtorEq]
    refine xloop tt_ok [13,28] (fun a : List Us × Us × Nat × Nat => [(0, .mp 0), (2, .mp 1), (4, .ptr 2 0), (7, .mp 3), (10, .ptr 4 0), (11, .ms 5 a.2.2.2 0 a.1.length)]) (fun a : List Us × Us × Nat × Nat => [.map (mkM usV 0 (encG g)) (encG g).length, .map (mkM usV 0 (encT T)) (encT T).length, .box [str s.1, str s.2], .map (mkM usV 0 (encB B)) (encB B).length, .box [str a.2.1.1, str a.2.1.2], .rows a.2.2.2 2 (a.1.map encU)]) (fun a => a.2.2.1) (fun a => Pth B (fun v => lookU v g) x a.1 a.2.1 a.2.2.1) (([x], x, jx, 0)) 6 (lies (by omega) (by simp only [encG_below,encB_below,encT_below,hput0,hwi,hx,List.getElem?_map,encU,hlt,first2,List.length_map,ev_usneq,List.map_cons,List.map_nil,List.length_cons,List.length_nil,encU,Nat.zero_add,Int.cast_ofNat_Int,go_sem,reduceIte,zA,zB,zC,zD,zE,zF,reduceCtorEq] <;> rfl)) (Pth.one hB hjx) ?_
    intro ⟨O, v, j, w⟩ hP
    try dsimp only at hP
    try dsimp only
    have hOp : 0 < O.length := (List.getElem?_eq_some_iff.1 hP.head).1
    have hPl := hP.len
    have hOl : O.length ≤ 1048576 := by omega
    intro Z3 hZ3
    simp only [encG_below,encB_below,encT_below,hput0,hwi,hx,List.getElem?_map,encU,hlt,first2,List.length_map,ev_usneq,go_sem,reduceIte,zA,zB,zC,zD,zE,zF,reduceCtorEq]
    refine gif (fun hc42 => ?_) (fun hc42 => ?_)
    ·have hne : ¬ v = s := by simpa using hc42
     obtain ⟨u2, j2, hu2, hj2, hP2⟩ := hP.next hB hne
     have hlb := fun B4 B5 => lookB v B (mem := [.map (mkM usV 0 (encG g)) (encG g).length, .map (mkM usV 0 (encT T)) (encT T).length, .box [str s.1, str s.2], .map (mkM usV 0 (encB B)) (encB B).length, B4, B5]) (b := 3) rfl false
     have hbl : O.length + 1 ≤ 34359738368 := by omega
     simp only [encG_below,encB_below,encT_below,hput0,hwi,hx,List.getElem?_map,encU,hlt,first2,hlb,hu2,hbl,first2,okV,Option.map_some,Option.getD_some,encU,List.length_map,ev_usneq,go_sem,reduceIte,zA,zB,zC,zD,zE,zF,reduceCtorEq]
     refine hZ3 _ ⟨(O ++ [u2], u2, j2, w + 1), ?_, ?_, lies (by omega) (by (simp only [List.length_map,map1,len1,encU,encG_below,encB_below,encT_below,go_sem,reduceIte,zA,zB,zC,zD,zE,zF,reduceCtorEq]))⟩
     ·exact hP2
     ·exact hj2
    ·have heq : v = s := by simpa using hc42
     have hch := hP.done heq hto (by omega)
     have hres : ((fun r : V => r = V.sc (.slice none 0 0) ∨ ∃ c : List Us, c ≠ [] ∧ r = V.slice (c.map encU) ∧ Chn (fun v => lookU v g) s (toB T) c)) (.slice (O.reverse.map encU)) := Or.inr ⟨O.reverse, fun e => by have := congrArg List.length e; simp at this; rw [this] at hOp; simp at hOp, rfl, hch⟩
     simp only [encG_below,encB_below,encT_below,hput0,hwi,hx,List.getElem?_map,encU,hlt,first2,List.length_map,ev_usneq,go_sem,reduceIte,zA,zB,zC,zD,zE,zF,reduceCtorEq]
     refine cW (by have h := rev_at w O hOp hOl [.map (mkM usV 0 (encG g)) (encG g).length, .map (mkM usV 0 (encT T)) (encT T).length, .box [str s.1, str s.2], .map (mkM usV 0 (encB B)) (encB B).length, .box [str v.1, str v.2], .rows w 2 (O.map encU)] 5 rfl; simp only [List.set_cons_succ,List.set_cons_zero] at h; exact h) ?_
     rintro _ _ ⟨rfl, rfl⟩
     simp only [encG_below,encB_below,encT_below,hput0,hwi,hx,List.getElem?_map,encU,hlt,first2,List.length_map,ev_usneq,go_sem,reduceIte,zA,zB,zC,zD,zE,zF,reduceCtorEq]
     refine xfrz (v' := .slice (O.reverse.map encU)) 11 (by decide) rfl (by first | (simp only [pur1,purCell,List.getElem?_cons_succ,List.getElem?_cons_zero]; simp; exact List.take_of_length_le (by simp)) | (simp [lk, pur1, purCell]; exact List.take_of_length_le (by simp)) | simp [lk, pur1, purCell, List.take_of_length_le]) ?_
     refine xgo tt_ok [13,28] ?_
     simp only [encG_below,encB_below,encT_below,hput0,hwi,hx,List.getElem?_map,encU,hlt,first2,List.length_map,ev_usneq,go_sem,reduceIte,zA,zB,zC,zD,zE,zF,reduceCtorEq]
     exact hK _ _ ⟨hres, rfl⟩
  ·simp only [encG_below,encB_below,encT_below,hput0,List.length_map,ev_usneq,go_sem,reduceIte,zA,zB,zC,zD,zE,zF,reduceCtorEq]
   refine xnil 12 0 2 (by decide) rfl ?_
   refine xloop tt_ok [13,28] (fun a : Nat × Bef × List Us => [(0, .mp 0), (2, .mp 1), (4, .ptr 2 0), (7, .mp 3), (12, .ms 4 a.2.2.length 0 a.2.2.length), (54, .slice (L.map encU)), (55, num L.length), (56, num a.1)]) (fun a : Nat × Bef × List Us => [.map (mkM usV 0 (encG g)) (encG g).length, .map (mkM usV 0 (encT T)) (encT T).length, .box [str s.1, str s.2], .map (mkM usV 0 (encB a.2.1)) (encB a.2.1).length, .rows a.2.2.length 2 (a.2.2.map encU)]) (fun a => L.length - a.1) (fun a => a.1 ≤ L.length ∧ Bf (fun v => lookU v g) s a.2.1 ∧ a.2.1.length = B.length + a.2.2.length ∧ (∀ e ∈ B, e ∈ a.2.1) ∧ (∀ x ∈ a.2.2, ∃ u, (x, u) ∈ a.2.1)) ((0, B, [])) 5 (lies (by omega) (by simp only [encG_below,encB_below,encT_below,hput0,List.length_map,ev_usneq,List.map_nil,List.length_nil,Int.cast_ofNat_Int,go_sem,reduceIte,zA,zB,zC,zD,zE,zF,reduceCtorEq] <;> rfl)) (⟨Nat.zero_le _, hB, by simp, fun e he => he, fun x hx => by simp at hx⟩) ?_
   intro ⟨i, B1, N1⟩ ⟨hi, hB1, hBl, hBB, hN1⟩
   try dsimp only at hi hB1 hBl hBB hN1
   try dsimp only
   have hB1g := hB1.len
   intro Z4 hZ4
   simp only [encG_below,encB_below,encT_below,hput0,List.length_map,ev_usneq,go_sem,reduceIte,zA,zB,zC,zD,zE,zF,reduceCtorEq]
   refine gif (fun hc57 => ?_) (fun hc57 => ?_)
   ·have hlti : i < L.length := by simpa using hc57
    have hwi := i64_succ i (by omega)
    obtain ⟨x, hx⟩ : ∃ x, L[i]? = some x := ⟨_, List.getElem?_eq_getElem hlti⟩
    obtain ⟨ux, hux⟩ := hL x (List.mem_of_getElem? hx)
    have hxB1 := hBB _ hux
    obtain ⟨d, hlx, hdk⟩ := hB1.val _ hxB1
    dsimp only at hlx
    have hdw := hgw x d hlx
    obtain ⟨D, hDe⟩ : ∃ D, D = dirU (fun v => lookU v g) x := ⟨_, rfl⟩
    have hD : insAll ltU [] (usedG g d.expr) = D := by rw [hDe]; unfold dirU; dsimp only; rw [hlx]; rfl
    have hDl : D.length ≤ 1048576 := by have h1 := insAll_len ltU (usedG g d.expr) []; have h2 : (usedG g d.expr).length ≤ d.expr.wt := usedE_len _ _; have h4 : 1 + d.expr.wt ≤ d.wt := by { unfold Dc.wt; omega }; rw [hD, List.length_nil] at h1; omega
    simp only [encG_below,encB_below,encT_below,hput0,hwi,hx,List.getElem?_map,encU,List.length_map,ev_usneq,go_sem,reduceIte,zA,zB,zC,zD,zE,zF,reduceCtorEq]
    refine cS (⟨_, rfl, by have h := direct_ok g x d hlx [.map (mkM usV 0 (encG g)) (encG g).length, .map (mkM usV 0 (encT T)) (encT T).length, .box [str s.1, str s.2], .map (mkM usV 0 (encB B1)) (encB B1).length, .rows N1.length 2 (N1.map encU), .box [str x.1, str x.2]] 0 rfl (by simp [belowB, belowV, belowL, encG_below, encB_below, encT_below]) hdw; rw [hD] at h; simp only [encU] at h; exact h⟩) ?_
    rintro _ rfl
    simp only [encG_below,encB_below,encT_below,hput0,hwi,hx,List.getElem?_map,encU,List.length_map,ev_usneq,go_sem,reduceIte,zA,zB,zC,zD,zE,zF,reduceCtorEq]
    refine xloop tt_ok [13,28] (fun a : Nat × Bef × List Us => [(0, .mp 0), (2, .mp 1), (4, .ptr 2 0), (7, .mp 3), (12, .ms 4 a.2.2.length 0 a.2.2.length), (14, .ptr 5 0), (54, .slice (L.map encU)), (55, num L.length), (56, num i), (62, .slice (D.map encU)), (63, num D.length), (64, num a.1)]) (fun a : Nat × Bef × List Us => [.map (mkM usV 0 (encG g)) (encG g).length, .map (mkM usV 0 (encT T)) (encT T).length, .box [str s.1, str s.2], .map (mkM usV 0 (encB a.2.1)) (encB a.2.1).length, .rows a.2.2.length 2 (a.2.2.map encU), .box [str x.1, str x.2]]) (fun a => D.length - a.1) (fun a => a.1 ≤ D.length ∧ Bf (fun v => lookU v g) s a.2.1 ∧ a.2.1.length = B.length + a.2.2.length ∧ (∀ e ∈ B, e ∈ a.2.1) ∧ (∀ x ∈ a.2.2, ∃ u, (x, u) ∈ a.2.1)) ((0, B1, N1)) 6 (lies (by omega) (by simp only [encG_below,encB_below,encT_below,hput0,hwi,hx,List.getElem?_map,encU,List.length_map,ev_usneq,Int.cast_ofNat_Int,go_sem,reduceIte,zA,zB,zC,zD,zE,zF,reduceCtorEq] <;> rfl)) (⟨Nat.zero_le _, hB1, hBl, hBB, hN1⟩) ?_
    intro ⟨j, B2, N2⟩ ⟨hj, hB2, hBl2, hBB2, hN2⟩
    try dsimp only at hj hB2 hBl2 hBB2 hN2
    try dsimp only
    have hB2g := hB2.len
    intro Z5 hZ5
    simp only [encG_below,encB_below,encT_below,hput0,hwi,hx,List.getElem?_map,encU,List.length_map,ev_usneq,go_sem,reduceIte,zA,zB,zC,zD,zE,zF,reduceCtorEq]
    refine gif (fun hc65 => ?_) (fun hc65 => ?_)
    ·have hltj : j < D.length := by simpa using hc65
     have hwj := i64_succ j (by omega)
     obtain ⟨y, hy⟩ : ∃ y, D[j]? = some y := ⟨_, List.getElem?_eq_getElem hltj⟩
     have hyD : y ∈ dirU (fun v => lookU v g) x := by rw [← hDe]; exact List.mem_of_getElem? hy
     have hxB2 := hBB2 _ hux
     have hlb := fun B4 B5 B6 => lookB y B2 (mem := [.map (mkM usV 0 (encG g)) (encG g).length, .map (mkM usV 0 (encT T)) (encT T).length, .box [str s.1, str s.2], .map (mkM usV 0 (encB B2)) (encB B2).length, B4, B5, B6]) (b := 3) rfl true
     rcases hga : getA y B2 with _ | y2
     ·have hpb := fun B4 B5 B6 B7 => putB hga x (mem := [.map (mkM usV 0 (encG g)) (encG g).length, .map (mkM usV 0 (encT T)) (encT T).length, .box [str s.1, str s.2], .map (mkM usV 0 (encB B2)) (encB B2).length, B4, B5, B6, B7]) (b := 3) rfl
      have hbl : N2.length + 1 ≤ 34359738368 := by omega
      simp only [encG_below,encB_below,encT_below,hput0,hwi,hx,List.getElem?_map,encU,hwj,hy,List.getElem?_map,encU,hlb,hga,hpb,hbl,first2,Option.isSome_none,Option.map_none,Option.getD_none,okV,List.length_map,ev_usneq,go_sem,reduceIte,zA,zB,zC,zD,zE,zF,reduceCtorEq]
      refine hZ5 _ ⟨(j + 1, B2 ++ [(y, x)], N2 ++ [y]), ?_, ?_, lies (by omega) (by (simp only [hwj,List.length_map,map1,len1,encU,encG_below,encB_below,encT_below,go_sem,reduceIte,zA,zB,zC,zD,zE,zF,reduceCtorEq]))⟩
      ·refine ⟨hltj, hB2.add hga hxB2 hyD, by simp only [List.length_append,List.length_singleton]; omega, fun e he => List.mem_append_left _ (hBB2 e he), fun z hz => ?_⟩
       rcases List.mem_append.1 hz with hz | hz
       ·obtain ⟨u, hu⟩ := hN2 z hz; exact ⟨u, List.mem_append_left _ hu⟩
       ·rw [List.mem_singleton] at hz; subst hz; exact ⟨x, List.mem_append_right _ (List.mem_singleton.2 rfl)⟩
      ·dsimp only; omega
     ·simp only [encG_below,encB_below,encT_below,hput0,hwi,hx,List.getElem?_map,encU,hwj,hy,List.getElem?_map,encU,hlb,hga,Option.isSome_some,Option.map_some,Option.getD_some,okV,List.length_map,ev_usneq,go_sem,reduceIte,zA,zB,zC,zD,zE,zF,reduceCtorEq]
      refine hZ5 _ ⟨(j + 1, B2, N2), ?_, ?_, lies (by omega) (by (simp only [hwj,encG_below,encB_below,encT_below,go_sem,reduceIte,zA,zB,zC,zD,zE,zF,reduceCtorEq]))⟩
      ·exact ⟨hltj, hB2, hBl2, hBB2, hN2⟩
      ·dsimp only; omega
    ·have hgej : j = D.length := by have := of_decide_eq_false hc65; omega
     simp only [encG_below,encB_below,encT_below,hput0,hwi,hx,List.getElem?_map,encU,List.length_map,ev_usneq,go_sem,reduceIte,zA,zB,zC,zD,zE,zF,reduceCtorEq]
     refine hZ4 _ ⟨(i + 1, B2, N2), ?_, ?_, lies (by omega) (by (simp only [hwi,encG_below,encB_below,encT_below,go_sem,reduceIte,zA,zB,zC,zD,zE,zF,reduceCtorEq]))⟩
     ·exact ⟨hlti, hB2, hBl2, hBB2, hN2⟩
     ·dsimp only; omega
   ·have hgei : i = L.length := by have := of_decide_eq_false hc57; omega
    simp only [encG_below,encB_below,encT_below,hput0,List.length_map,ev_usneq,go_sem,reduceIte,zA,zB,zC,zD,zE,zF,reduceCtorEq]
    refine xfrz (v' := .slice (N1.map encU)) 12 (by decide) rfl (by first | (simp only [pur1,purCell,List.getElem?_cons_succ,List.getElem?_cons_zero]; simp; exact List.take_of_length_le (by simp)) | (simp [lk, pur1, purCell]; exact List.take_of_length_le (by simp)) | simp [lk, pur1, purCell, List.take_of_length_le]) ?_
    refine xgoL tt_ok ?_
    simp only [encG_below,encB_below,encT_below,hput0,List.length_map,ev_usneq,go_sem,reduceIte,zA,zB,zC,zD,zE,zF,reduceCtorEq]
    refine hZ1 _ ⟨(B1, N1), ?_, ?_, lies (by omega) (by (simp only [encG_below,encB_below,encT_below,go_sem,reduceIte,zA,zB,zC,zD,zE,zF,reduceCtorEq]))⟩
    ·exact ⟨hB1, hN1, (by omega : N1.length ≤ 1048576)⟩
    ·have hne : L.length ≠ 0 := by omega
     dsimp only; rw [if_neg hne]; split <;> omega
 ·have hres : ((fun r : V => r = V.sc (.slice none 0 0) ∨ ∃ c : List Us, c ≠ [] ∧ r = V.slice (c.map encU) ∧ Chn (fun v => lookU v g) s (toB T) c)) (.sc (.slice none 0 0)) := Or.inl rfl
  simp only [encG_below,encB_below,encT_below,hput0,List.length_map,ev_usneq,go_sem,reduceIte,zA,zB,zC,zD,zE,zF,reduceCtorEq]
  exact hK _ _ ⟨hres, rfl⟩
end Go.Proofs.YtefbaladomfccaaGreatDoor
end

section
namespace Go.Proofs.YtefbaladomfccaaGreatDoor
open Go.Eng
open Nat renaming reduceAdd → zA, reduceLT → zB, reduceLeDiff → zC, reduceMul → zD, reduceEqDiff → zE, reduceSub → zF
variable [Glob]
set_option maxHeartbeats 4000000
set_option maxRecDepth 100000
section
variable {u : Us}
theorem lookU_snoc (g : GD) (e : Us × Dc) : lookU u (g ++ [e]) = match lookU u g with | some d => some d | none => if e.1 = u then some e.2 else none := by
 unfold lookU
 rw [List.find?_append]
 cases hf : g.find? (fun e => decide (e.1 = u)) with
 | some x => rfl
 | none =>
  simp only [Option.none_or,Option.map_none]
  by_cases h : e.1 = u
  ·rw [List.find?_cons_of_pos (by simpa using h), if_pos h]; rfl
  ·rw [List.find?_cons_of_neg (by simpa using h), if_neg h]; rfl
theorem look_decls (path : ByteArray) : ∀ (l : List Dc) (g : GD), lookU u (l.foldl (stepD path) g) = match lookU u g with | some d => some d | none => if path = u.1 then l.find? (fun d => decide (d.name = u.2)) else none
 | [], g => by
  cases h : lookU u g with
  | some d => simp [h]
  | none => simp [h]
 | d :: l, g => by
  rw [List.foldl_cons, look_decls path l]
  unfold stepD
  cases hs : (lookU (path, d.name) g).isSome with
  | true =>
   rw [if_pos rfl]
   cases h : lookU u g with
   | some x => rfl
   | none =>
    dsimp only
    by_cases hp : path = u.1
    ·rw [if_pos hp, if_pos hp]
     have hn : ¬ d.name = u.2 := fun e => by rw [hp, e] at hs; rw [show (u.1, u.2) = u from rfl, h] at hs; cases hs
     rw [List.find?_cons_of_neg (by simpa using hn)]
    ·rw [if_neg hp, if_neg hp]
  | false =>
   rw [if_neg (by decide), lookU_snoc]
   cases h : lookU u g with
   | some x => rfl
   | none =>
    dsimp only
    by_cases hp : path = u.1
    ·rw [if_pos hp, if_pos hp]
     by_cases hn : d.name = u.2
     ·rw [if_pos (by rw [hp, hn]), List.find?_cons_of_pos (by simpa using hn)]
     ·rw [if_neg (fun e => hn (by rw [← e])), List.find?_cons_of_neg (by simpa using hn)]
    ·rw [if_neg (fun e => hp (by rw [← e])), if_neg hp]
     dsimp only
     rw [if_neg hp]
theorem hasS_snoc (l : List ByteArray) (s t : ByteArray) : hasS (l ++ [t]) s = (hasS l s || decide (t = s)) := by unfold hasS; rw [List.any_append]; simp
theorem look_mds : ∀ (p : List Md) (S : List ByteArray) (g : GD), ((lookU u g).isSome = true → hasS S u.1 = true) → lookU u (p.foldl stepMd (S, g)).2 = match lookU u g with | some d => some d | none => if hasS S u.1 = true then none else declP p u
 | [], S, g, h => by
  cases hl : lookU u g with
  | some d => simp [hl]
  | none => simp only [List.foldl_nil,hl,declP]; split <;> rfl
 | m :: p, S, g, h => by
  rw [List.foldl_cons]
  unfold stepMd
  dsimp only
  cases hs : hasS S m.path with
  | true =>
   rw [if_pos rfl]
   have ih := look_mds p S g h
   refine ih.trans ?_
   cases hl : lookU u g with
   | some d => rfl
   | none =>
    dsimp only
    by_cases hu : hasS S u.1 = true
    ·rw [if_pos hu, if_pos hu]
    ·rw [if_neg hu, if_neg hu, declP, if_neg (fun e => hu (by rw [← e]; exact hs))]
  | false =>
   rw [if_neg (by decide)]
   have hd := look_decls (u := u) m.path m.decls g
   have ih := look_mds p (S ++ [m.path]) (m.decls.foldl (stepD m.path) g) (fun hi => by
    rw [hasS_snoc]
    cases hl : lookU u g with
    | some d => rw [h (by rw [hl]; rfl)]; rfl
    | none =>
     rw [hd, hl] at hi
     dsimp only at hi
     by_cases hp : m.path = u.1
     ·rw [decide_eq_true hp, Bool.or_true]
     ·rw [if_neg hp] at hi; cases hi)
   refine ih.trans ?_
   rw [hd]
   cases hl : lookU u g with
   | some d => rfl
   | none =>
    dsimp only
    rw [hasS_snoc]
    by_cases hp : m.path = u.1
    ·rw [if_pos hp, decide_eq_true hp, Bool.or_true, if_pos rfl, ← hp, hs, if_neg (by decide), declP, if_pos hp]
     cases m.decls.find? (fun d => decide (d.name = u.2)) <;> rfl
    ·rw [if_neg hp, decide_eq_false hp, Bool.or_false, declP, if_neg hp]
end
theorem look_eq (p : List Md) : (fun v => lookU v (decG p)) = declP p := by
 funext u
 have h := look_mds (u := u) p [] [] (fun h => by cases h)
 unfold decG mdsO
 rw [List.take_length, h]
 rfl
theorem leads_self {look : Us → Option Dc} {v : Us} {d : Dc} (h : look v = some d) (hk : d.kind = 1) : leads look v = some v := by
 show leadF look (4096 + 1) v = _
 rw [leadF, h]
 dsimp only
 rw [if_pos hk]
theorem dirU_len {p : List Md} (hw : ∀ m ∈ p, m.wt ≤ 1048576) {v : Us} {d : Dc} (h : declP p v = some d) : (dirU (declP p) v).length ≤ 1048576 := by
 unfold dirU
 have h1 := insAll_len ltU (usedE (declP p) ((declP p v).getD dz).expr) []
 rw [h] at h1 ⊢
 rw [Option.getD_some] at h1 ⊢
 have h2 := usedE_len (declP p) d.expr
 have h3 := declP_wt hw h
 have h4 : 1 + d.expr.wt ≤ d.wt := by unfold Dc.wt; omega
 rw [List.length_nil] at h1
 omega
theorem uses_ok (p : List Md) (u : Us) (hl : p.length ≤ 1048576) (hw : ∀ m ∈ p, m.wt ≤ 1048576) : ∃ r_, (fun w => w = usesV (declP p) u) r_ ∧ FnOk Tryz.prog 32 [.slice (p.map encMd), str u.1, str u.2] r_ := by
 refine vfn tt_ok [] 25 [.tmp 6] (fn := Tryz.f32) Tryz.func32 rfl Tryz.call32 ⟨rfl, rfl, by simp⟩ fun K hK => ?_
 simp only [List.length_map,go_sem,reduceIte,zA,zB,zC,zD,zE,zF,reduceCtorEq]
 refine cW (newDecls_ok p hl hw) ?_
 rintro _ _ ⟨rfl, rfl⟩
 rcases hld : leads (declP p) u with _ | v
 ·have hres := usesL_no hld
  simp only [List.length_map,go_sem,reduceIte,zA,zB,zC,zD,zE,zF,reduceCtorEq]
  refine cS (by have h := end_at (decG p) u [.map (mkM usV 0 (encG (decG p))) (encG (decG p)).length] 0 rfl; rw [look_eq, lead_no hld] at h; exact ⟨_, rfl, h⟩) ?_
  rintro _ rfl
  simp only [List.length_map,go_sem,reduceIte,zA,zB,zC,zD,zE,zF,reduceCtorEq]
  exact hK _ hres
 ·obtain ⟨d, hlu, hdk⟩ := leads_some hld
  have hdw := declP_wt hw hlu
  have hdir : insAll ltU [] (usedG (decG p) d.expr) = dirU (declP p) v := by unfold usedG dirU; rw [look_eq, hlu]; rfl
  have hres := usesL_yes hld
  simp only [List.length_map,go_sem,reduceIte,zA,zB,zC,zD,zE,zF,reduceCtorEq]
  refine cS (by have h := end_at (decG p) u [.map (mkM usV 0 (encG (decG p))) (encG (decG p)).length] 0 rfl; rw [look_eq, lead_yes hld] at h; exact ⟨_, rfl, h⟩) ?_
  rintro _ rfl
  simp only [List.length_map,go_sem,reduceIte,zA,zB,zC,zD,zE,zF,reduceCtorEq]
  refine cS (⟨_, rfl, by have h := direct_ok (decG p) v d (by have h2 := congrFun (look_eq p) v; exact h2.trans hlu) [.map (mkM usV 0 (encG (decG p))) (encG (decG p)).length, .box [str v.1, str v.2]] 0 rfl (by simp [belowB, belowV, encG_below]) hdw; rw [hdir] at h; simp only [encU] at h; exact h⟩) ?_
  rintro _ rfl
  simp only [List.length_map,go_sem,reduceIte,zA,zB,zC,zD,zE,zF,reduceCtorEq]
  exact hK _ hres
theorem sameUs_ok (a b : List Us) (hl : a.length ≤ 1048576) : ∃ r_, (fun w => w = bl (decide (a = b))) r_ ∧ FnOk Tryz.prog 31 [.slice (a.map encU), .slice (b.map encU)] r_ := by
 refine vfn tt_ok [] 26 [.tmp 4] (fn := Tryz.f31) Tryz.func31 rfl Tryz.call31 ⟨rfl, rfl, by simp⟩ fun K hK => ?_
 simp only [List.length_map,go_sem,reduceIte,zA,zB,zC,zD,zE,zF,reduceCtorEq]
 refine gif (fun hc10 => ?_) (fun hc10 => ?_)
 ·have hne : ¬ a = b := fun e => by subst e; simp at hc10
  have hres := decide_eq_false hne
  simp only [List.length_map,go_sem,reduceIte,zA,zB,zC,zD,zE,zF,reduceCtorEq]
  exact hK _ (by rw [hres])
 ·have hlen : a.length = b.length := by have h9 : (a.length : Int) = b.length := (by simpa using hc10); omega
  simp only [List.length_map,go_sem,reduceIte,zA,zB,zC,zD,zE,zF,reduceCtorEq]
  refine xloopL tt_ok [] [5] 0 [0,1,10] (fun vs => ((a.length : Int) - Go.Eng.intOf (vs.headD .undef)).toNat) (fun vs => ∃ i : Nat, vs = [num i] ∧ i ≤ a.length ∧ a.take i = b.take i) (by omega) (by simp only [List.length_map,go_sem,reduceIte,zA,zB,zC,zD,zE,zF,reduceCtorEq]) (⟨0, rfl, Nat.zero_le _, rfl⟩) fun vs hI Z1 hZ1 => ?_
  obtain ⟨i, rfl, hi, hst⟩ := hI
  simp only [List.length_map,go_sem,reduceIte,zA,zB,zC,zD,zE,zF,reduceCtorEq]
  refine gif (fun hc14 => ?_) (fun hc14 => ?_)
  ·have hlti : i < a.length := by simpa using hc14
   have hwi := i64_succ i (by omega)
   obtain ⟨x, hx⟩ : ∃ x, a[i]? = some x := ⟨_, List.getElem?_eq_getElem hlti⟩
   obtain ⟨y, hy⟩ : ∃ y, b[i]? = some y := ⟨_, List.getElem?_eq_getElem (by omega)⟩
   have hib : (i : Int) < (b.length : Int) := by omega
   simp only [hwi,hx,hy,hib,List.getElem?_map,encU,ev_usneq,List.length_map,go_sem,reduceIte,zA,zB,zC,zD,zE,zF,reduceCtorEq]
   refine xmixL tt_ok mixed_ok [⟨.n, 0, [], [], []⟩, ⟨.n, 0, [], [], []⟩, ⟨.r, 0, [], [], []⟩, ⟨.r, 0, [], [], []⟩, ⟨.n, 0, [], [], []⟩, ⟨.n, 0, [], [], []⟩, ⟨.r, 0, [], [], []⟩, ⟨.r, 0, [], [], []⟩, ⟨.n, 0, [], [], []⟩] 0 (by kernel_rfl) ?_
   simp only [hwi,hx,hy,hib,List.getElem?_map,encU,ev_usneq,List.length_map,go_sem,reduceIte,zA,zB,zC,zD,zE,zF,reduceCtorEq]
   refine gif (fun hc25 => ?_) (fun hc25 => ?_)
   ·have hxy : ¬ x = y := by simpa using hc25
    have hne : ¬ a = b := fun e => by subst e; rw [hx] at hy; exact hxy (Option.some.inj hy)
    have hres := decide_eq_false hne
    simp only [hwi,hx,hy,hib,List.getElem?_map,encU,ev_usneq,List.length_map,go_sem,reduceIte,zA,zB,zC,zD,zE,zF,reduceCtorEq]
    exact hK _ (by rw [hres])
   ·have hxy : x = y := by simpa using hc25
    simp only [hwi,hx,hy,hib,List.getElem?_map,encU,ev_usneq,List.length_map,go_sem,reduceIte,zA,zB,zC,zD,zE,zF,reduceCtorEq]
    refine hZ1 _ (endK (by omega) (by simp only [hwi,hx,hy,hib,List.getElem?_map,encU,ev_usneq,List.length_map,go_sem,reduceIte,zA,zB,zC,zD,zE,zF,reduceCtorEq]) ?_ ?_) <;> simp only [lks,lk,reduceIte,zE]
    ·exact ⟨i + 1, rfl, hlti, by rw [List.take_add_one, List.take_add_one, hst, hx, hy, hxy]⟩
    ·simp only [Go.Eng.intOf,List.headD_cons]; omega
  ·have hgei : i = a.length := by have := of_decide_eq_false hc14; omega
   have heq : a = b := by rw [hgei, List.take_length] at hst; rw [hst, hlen, List.take_length]
   have hres := decide_eq_true heq
   simp only [List.length_map,go_sem,reduceIte,zA,zB,zC,zD,zE,zF,reduceCtorEq]
   exact hK _ (by rw [hres])
end Go.Proofs.YtefbaladomfccaaGreatDoor
end

section
namespace Go.Proofs.YtefbaladomfccaaGreatDoor
open Go.Eng
open Nat renaming reduceAdd → zA, reduceLT → zB, reduceLeDiff → zC, reduceMul → zD, reduceEqDiff → zE, reduceSub → zF
variable [Glob]
set_option maxHeartbeats 4000000
set_option maxRecDepth 100000
theorem niV_ne {k : Tk} {n : Nat} {op : BinOp} {st : St} {dst : Option Tmp} {Q : St → Prop} (h : n ≠ 0) : niV k true n op st dst Q = Q (st.put dst (.sc (.bool (nilAns op false)))) :=
 propext ⟨fun h1 => h1.2 false (fun _ => rfl), fun h1 => ⟨rfl, fun b hb => by rw [hb h]; exact h1⟩⟩
theorem nilAns_f : nilAns .neq false = true := rfl
theorem nilneq (t : Tmp) : lift2 Tryz.prog (opB .neq 72 (.tmp t) (.const (.slice none 0 0))) (.sc (.slice none 0 0)) (.sc (.slice none 0 0)) = some (bl false) := by kernel_rfl
theorem fld0 (k : Int) (r : List V) : fieldOf Tryz.prog tt 109 0 (.agg (V.sc (.int .i64 k) :: r)) = some (V.sc (.int .i64 k)) := by kernel_rfl
def σ2 (k k2 n j : Nat) : Nat := if j = 0 then k else if j = 1 then k2 else n + (j - 2)
theorem fnOkS_two {P : Program} {f : FuncId} {vs : List V} {r : V} {B0 B1 : Blk} (h : FnOkS P f vs [B0, B1] r [B0, B1]) (M : List Blk) (k k2 : Nat) (hv : vs.all (belowV 2) = true) (hm : [B0, B1].all (belowB 2) = true) (hr : belowV 2 r = true)
  (h0 : ∀ σ, renB σ B0 = B0) (h1 : ∀ σ, renB σ B1 = B1) (hk : M[k]? = some B0) (hk2 : M[k2]? = some B1) (hne : k ≠ k2) :
  FnOkS P f (renL (σ2 k k2 M.length) vs) M (renV (σ2 k k2 M.length) r) M := by
 have h3 := h.ren M (σ2 k k2 M.length) 2 rfl hv hm hr hm (by simp) (fun i B hi => by
  match i with
  | 0 => simp at hi; subst hi; rw [h0]; exact hk
  | 1 => simp at hi; subst hi; rw [h1]; exact hk2
  | i + 2 => simp at hi) (fun i j hi hj he => by
  match i, j with
  | 0, 0 => rfl
  | 1, 1 => rfl
  | 0, 1 => exact absurd (by simpa [σ2] using he) hne
  | 1, 0 => exact absurd (by simpa [σ2] using he.symm) hne
  | i + 2, _ => omega
  | _, j + 2 => omega) (fun j hj => by unfold σ2; rw [if_neg (by omega), if_neg (by omega)])
 have hM : putR (σ2 k k2 M.length) 2 [B0, B1] M = M := by
  unfold putR
  simp only [ltb,List.map_nil,List.append_nil,setAll]
  show (M.set k (renB _ B0)).set k2 (renB _ B1) = _
  rw [h0, h1, set_same hk, set_same hk2]
 rwa [hM] at h3
theorem renB_encT (σ : Nat → Nat) (g : Tos) (c : Nat) : renB σ (.map (mkM usV 0 (encT g)) c) = .map (mkM usV 0 (encT g)) c := by
 have key : ∀ (g : Tos) (n : Nat), (mkM usV n (encT g)).map (fun e => (e.1, e.2.1, renV σ e.2.2)) = mkM usV n (encT g) := by
  intro g
  induction g with
  | nil => intro n; rfl
  | cons e r ih =>
   intro n
   show (usV e.1, n, renV σ (bl e.2)) :: (mkM usV (n + 1) (encT r)).map _ = _
   rw [ih (n + 1)]; rfl
 simp only [renB]
 rw [key g 0]
theorem chain_at (g : GD) (T : Tos) (s : Us) (hg : g.length ≤ 1048576) (hgw : ∀ u d, lookU u g = some d → d.wt ≤ 1048576) (hs : isVal (fun v => lookU v g) s) (M : List Blk) (k k2 : Nat) (hk : M[k]? = some (.map (mkM usV 0 (encG g)) (encG g).length)) (hk2 : M[k2]? = some (.map (mkM usV 0 (encT T)) (encT T).length)) (hne : k ≠ k2) :
  ∃ r_, (fun r : V => r = V.sc (.slice none 0 0) ∨ ∃ c : List Us, c ≠ [] ∧ r = V.slice (c.map encU) ∧ Chn (fun v => lookU v g) s (toB T) c) r_ ∧ FnOkS Tryz.prog 40 [.mp k, .agg [str s.1, str s.2], .mp k2] M r_ M := by
 obtain ⟨r, hr, h⟩ := chain_ok g T s hg hgw hs
 have hr0 : ∀ σ, renV σ r = r := fun σ => by
  rcases hr with rfl | ⟨c, -, rfl, -⟩
  ·rfl
  ·exact renV_pure σ (by simp [belowV])
 have hrb : belowV 2 r = true := by
  rcases hr with rfl | ⟨c, -, rfl, -⟩
  ·rfl
  ·simp [belowV]
 have h3 := fnOkS_two h M k k2 (by simp [belowV, belowL, encU]) (by simp [belowB, encG_below, encT_below]) hrb (fun σ => renB_encG σ g _) (fun σ => renB_encT σ T _) hk hk2 hne
 rw [hr0] at h3
 exact ⟨r, hr, by simpa [renL, renV, encU, σ2] using h3⟩
structure Fnd where
 adv : ByteArray
 chain : List Us
def encFnd (f : Fnd) : V := .agg [str f.adv, .slice (f.chain.map encU)]
structure Fits (look : Us → Option Dc) (v : Us) (s : List Sel) (a : Adv) (f : Fnd) : Prop where
 id : f.adv = a.id
 con : s.any (conc a) = true
 chn : Chn look v (fun z => decide (z.1 = a.path) && hasS a.syms z.2) f.chain
inductive Sub (look : Us → Option Dc) (v : Us) (s : List Sel) : List Adv → List Fnd → Prop
 | nil : Sub look v s [] []
 | skip {l fl} (a : Adv) : Sub look v s l fl → Sub look v s (a :: l) fl
 | take {l fl a f} : Fits look v s a f → Sub look v s l fl → Sub look v s (a :: l) (f :: fl)
section
variable {look : Us → Option Dc} {v : Us} {s : List Sel}
theorem Sub.app_skip {l fl} (h : Sub look v s l fl) (a : Adv) : Sub look v s (l ++ [a]) fl := by
 induction h with
 | nil => exact .skip a .nil
 | skip b _ ih => exact .skip b ih
 | take hf _ ih => exact .take hf ih
theorem Sub.app_take {l fl a f} (h : Sub look v s l fl) (hf : Fits look v s a f) : Sub look v s (l ++ [a]) (fl ++ [f]) := by
 induction h with
 | nil => exact .take hf .nil
 | skip b _ ih => exact .skip b ih
 | take hf' _ ih => exact .take hf' ih
theorem Sub.len {l fl} (h : Sub look v s l fl) : fl.length ≤ l.length := by
 induction h with
 | nil => exact Nat.le_refl _
 | skip _ _ ih => simp only [List.length_cons]; omega
 | take _ _ ih => simp only [List.length_cons]; omega
theorem Sub.tail {l fl f} (h : Sub look v s l (f :: fl)) : Sub look v s l fl := by
 generalize hm : f :: fl = m at h
 induction h with
 | nil => cases hm
 | skip a _ ih => exact .skip a (ih hm)
 | take _ h _ => cases hm; exact .skip _ h
theorem Sub.fits {l fl} (h : Sub look v s l fl) : ∀ f ∈ fl, ∃ a ∈ l, Fits look v s a f := by
 induction h with
 | nil => intro f hf; simp at hf
 | skip a _ ih => intro f hf; obtain ⟨b, hb, h⟩ := ih f hf; exact ⟨b, List.mem_cons_of_mem _ hb, h⟩
 | take hf' _ ih =>
  intro f hf
  rcases List.mem_cons.1 hf with rfl | hf
  ·exact ⟨_, List.mem_cons_self .., hf'⟩
  ·obtain ⟨b, hb, h⟩ := ih f hf; exact ⟨b, List.mem_cons_of_mem _ hb, h⟩
theorem Chn.weaken {to to' : Us → Bool} {c : List Us} (h : Chn look v to c) (ht : ∀ z, to z = true → to' z = true) : Chn look v to' c :=
 ⟨h.head, h.link, by obtain ⟨z, h1, h2⟩ := h.last; exact ⟨z, h1, ht z h2⟩, h.val, h.len⟩
end
def putT (u : Us) (b : Bool) : Tos → Tos
 | [] => [(u, b)]
 | e :: r => if e.1 = u then (u, b) :: r else e :: putT u b r
theorem putM_encT (u : Us) (b : Bool) (T : Tos) : putM u (bl b) (encT T) = encT (putT u b T) := by
 have key : ∀ (T : Tos) (n : Nat), (match findM u (encT T) n with | none => encT T ++ [(u, bl b)] | some (i, _) => (encT T).set (i - n) (u, bl b)) = encT (putT u b T) := by
  intro T
  induction T with
  | nil => intro n; rfl
  | cons e r ih =>
   intro n
   have e1 : encT (e :: r) = (e.1, bl e.2) :: encT r := rfl
   rw [e1]
   unfold findM putT
   dsimp only
   by_cases h : e.1 = u
   ·rw [if_pos h, if_pos h]
    dsimp only
    rw [Nat.sub_self]; rfl
   ·rw [if_neg h, if_neg h]
    have h2 := ih (n + 1)
    cases hf : findM u (encT r) (n + 1) with
    | none => rw [hf] at h2; dsimp only at h2 ⊢; rw [List.cons_append, h2]; rfl
    | some x =>
     obtain ⟨i, w⟩ := x
     rw [hf] at h2; dsimp only at h2 ⊢
     have hi := (findM_at hf).1
     rw [show i - n = (i - (n + 1)) + 1 by omega, List.set_cons_succ, h2]; rfl
 unfold putM
 exact key T 0
theorem putTos (u : Us) (b : Bool) (T : Tos) {mem : List Blk} {k : Nat} (hm : mem[k]? = some (.map (mkM usV 0 (encT T)) (encT T).length)) :
  insertV Tryz.prog mem 98 (.mp k) (.agg [str u.1, str u.2]) (bl b) = some (mem.set k (.map (mkM usV 0 (encT (putT u b T))) (encT (putT u b T)).length)) := by
 have h2 := (ktUse map98).put u (bl b) (encT T) hm
 rw [putM_encT] at h2
 exact h2
theorem toB_put {u : Us} {b : Bool} {T : Tos} {z : Us} (h : toB (putT u b T) z = true) : z = u ∨ toB T z = true := by
 unfold toB getA at *
 induction T with
 | nil =>
  unfold putT at h
  by_cases hz : u = z
  ·exact .inl hz.symm
  ·rw [List.find?_cons_of_neg (by simpa using hz)] at h; simp at h
 | cons e r ih =>
  unfold putT at h
  split at h
  ·rename_i he
   by_cases hz : u = z
   ·exact .inl hz.symm
   ·rw [List.find?_cons_of_neg (by simpa using hz)] at h
    right
    rw [List.find?_cons_of_neg (by rw [he]; simpa using hz)]
    exact h
  ·by_cases hz : e.1 = z
   ·rw [List.find?_cons_of_pos (by simpa using hz)] at h ⊢
    exact .inr h
   ·rw [List.find?_cons_of_neg (by simpa using hz)] at h ⊢
    exact ih h
theorem hasS_mem {l : List ByteArray} {i : Nat} {n : ByteArray} (h : l[i]? = some n) : hasS l n = true := by
 unfold hasS; exact List.any_eq_true.2 ⟨n, List.mem_of_getElem? h, decide_eq_true rfl⟩
theorem find_ok (hG : Glob.g = some 0) (p : List Md) (hl : p.length ≤ 1048576) (hw : ∀ m ∈ p, m.wt ≤ 1048576) (hgl : (decG p).length ≤ 1048576) (s : List Sel) (hs : s.length ≤ 1048576) (l : List Adv) (hla : l.length ≤ 1048576) (hab : ∀ a ∈ l, AdB a) (mo nm : ByteArray) : FnOkR Tryz.prog 11 [.slice (p.map encMd), .slice (s.map encSel), .slice (l.map encAdv), str mo, str nm] ([]) (fun (r : V) (m : List Blk) => m = [] ∧ ∃ (F : V) (e : Int), r = V.tup [F, num e] ∧ ((e ≠ 0 ∧ F = V.sc (.slice none 0 0)) ∨ (e = 0 ∧ ∃ v fl, leads (declP p) (mo, nm) = some v ∧ Sub (declP p) v s l fl ∧ F = V.slice (fl.map encFnd)))) := by
 refine vfr tt_ok [33] 114 [.tmp 10, .tmp 11] (0) (by simp) (fn := Tryz.f11) Tryz.func11 rfl Tryz.call11 ⟨rfl, rfl, by simp⟩ fun K hK => ?_
 have hT9 : Tryz.prog.underlying 9 = some .string := by kernel_rfl
 have sl : ∀ (a : ByteArray) (ty : TypeId), liftL Tryz.prog (Builtin.len_ #[9] ty) [.sc (.string a)] = some (num a.size) := fun a ty => ev_slen (P := Tryz.prog) (tt := tt) (T := 9) a hT9 ty
 simp only [encG_below,encT_below,List.length_map,sl,go_sem,reduceIte,zA,zB,zC,zD,zE,zF,reduceCtorEq]
 refine xloopL tt_ok [33] [29] 0 [0,1,2,3,4,27,28] (fun vs => ((l.length : Int) - Go.Eng.intOf (vs.headD .undef)).toNat) (fun vs => ∃ i : Nat, vs = [num i] ∧ i ≤ l.length) (by omega) (by simp only [encG_below,encT_below,List.length_map,sl,go_sem,reduceIte,zA,zB,zC,zD,zE,zF,reduceCtorEq]) (⟨0, rfl, Nat.zero_le _⟩) fun vs hI Z1 hZ1 => ?_
 obtain ⟨i, rfl, hi⟩ := hI
 simp only [encG_below,encT_below,List.length_map,sl,go_sem,reduceIte,zA,zB,zC,zD,zE,zF,reduceCtorEq]
 refine gif (fun hc30 => ?_) (fun hc30 => ?_)
 ·have hlti : i < l.length := by simpa using hc30
  have hwi := i64_succ i (by omega)
  obtain ⟨a, hx⟩ : ∃ a, l[i]? = some a := ⟨_, List.getElem?_eq_getElem hlti⟩
  obtain ⟨hab1, hab2, hab3⟩ := hab a (List.mem_of_getElem? hx)
  simp only [encG_below,encT_below,hwi,hx,List.getElem?_map,encAdv,advCells,List.length_map,sl,go_sem,reduceIte,zA,zB,zC,zD,zE,zF,reduceCtorEq]
  refine cF (by have h := acheck_ok hG a (hab a (List.mem_of_getElem? hx)); simp only [encAdv,advCells] at h; exact h) ?_
  rintro _ ⟨e, rfl⟩
  simp only [encG_below,encT_below,hwi,hx,List.getElem?_map,encAdv,advCells,List.length_map,sl,go_sem,reduceIte,zA,zB,zC,zD,zE,zF,reduceCtorEq]
  refine gif (fun hc36 => ?_) (fun hc36 => ?_)
  ·have he : e ≠ 0 := by simpa using hc36
   have hres : (fun (r : V) (m : List Blk) => m = [] ∧ ∃ (F : V) (e : Int), r = V.tup [F, num e] ∧ ((e ≠ 0 ∧ F = V.sc (.slice none 0 0)) ∨ (e = 0 ∧ ∃ v fl, leads (declP p) (mo, nm) = some v ∧ Sub (declP p) v s l fl ∧ F = V.slice (fl.map encFnd)))) (.tup [.sc (.slice none 0 0), num e]) [] := ⟨rfl, _, e, rfl, .inl ⟨he, rfl⟩⟩
   simp only [encG_below,encT_below,hwi,hx,List.getElem?_map,encAdv,advCells,List.length_map,sl,go_sem,reduceIte,zA,zB,zC,zD,zE,zF,reduceCtorEq]
   exact hK _ _ hres
  ·simp only [encG_below,encT_below,hwi,hx,List.getElem?_map,encAdv,advCells,List.length_map,sl,go_sem,reduceIte,zA,zB,zC,zD,zE,zF,reduceCtorEq]
   refine hZ1 _ (endK (by omega) (by simp only [encG_below,encT_below,hwi,hx,List.getElem?_map,encAdv,advCells,List.length_map,sl,go_sem,reduceIte,zA,zB,zC,zD,zE,zF,reduceCtorEq]) ?_ ?_) <;> simp only [lks,lk,reduceIte,zE]
   ·exact ⟨i + 1, rfl, hlti⟩
   ·simp only [Go.Eng.intOf,List.headD_cons]; omega
 ·simp only [encG_below,encT_below,List.length_map,sl,go_sem,reduceIte,zA,zB,zC,zD,zE,zF,reduceCtorEq]
  refine xloopL tt_ok [33] [15] 0 [0,1,2,3,4,30,36] (fun vs => ((s.length : Int) - Go.Eng.intOf (vs.headD .undef)).toNat) (fun vs => ∃ i : Nat, vs = [num i] ∧ 1 ≤ i) (by omega) (by simp only [encG_below,encT_below,List.length_map,sl,go_sem,reduceIte,zA,zB,zC,zD,zE,zF,reduceCtorEq]) (⟨1, rfl, Nat.le_refl _⟩) fun vs hI Z2 hZ2 => ?_
  obtain ⟨i, rfl, hi⟩ := hI
  simp only [encG_below,encT_below,List.length_map,sl,go_sem,reduceIte,zA,zB,zC,zD,zE,zF,reduceCtorEq]
  refine gif (fun hc42 => ?_) (fun hc42 => ?_)
  ·have hlti : i < s.length := by have := of_decide_eq_true hc42; omega
   have hwi := i64_succ i (by omega)
   obtain ⟨x, hx⟩ : ∃ x, s[i]? = some x := ⟨_, List.getElem?_eq_getElem hlti⟩
   obtain ⟨q, hq⟩ : ∃ q, s[i - 1]? = some q := ⟨_, List.getElem?_eq_getElem (by omega)⟩
   have hwm : IntKind.i64.wrap ((i : Int) - 1) = ((i - 1 : Nat) : Int) := i64_c _ _ (by omega) (by omega)
   have hlm : ((i - 1 : Nat) : Int) < (s.length : Int) := by omega
   simp only [encG_below,encT_below,hwi,hx,hq,hwm,hlm,List.getElem?_map,encSel,List.length_map,sl,go_sem,reduceIte,zA,zB,zC,zD,zE,zF,reduceCtorEq]
   refine xmixL tt_ok mixed_ok [⟨.n, 0, [], [], []⟩, ⟨.n, 0, [], [], []⟩, ⟨.n, 0, [], [], []⟩, ⟨.r, 0, [], [], []⟩, ⟨.n, 0, [], [], []⟩, ⟨.r, 0, [], [], []⟩, ⟨.n, 0, [], [], []⟩, ⟨.n, 0, [], [], []⟩, ⟨.r, 0, [], [], []⟩, ⟨.n, 0, [], [], []⟩, ⟨.r, 0, [], [], []⟩, ⟨.n, 0, [], [], []⟩] 0 (by kernel_rfl) ?_
   simp only [encG_below,encT_below,hwi,hx,hq,hwm,hlm,List.getElem?_map,encSel,List.length_map,sl,go_sem,reduceIte,zA,zB,zC,zD,zE,zF,reduceCtorEq]
   refine gif (fun hc56 => ?_) (fun hc56 => ?_)
   ·have hres : (fun (r : V) (m : List Blk) => m = [] ∧ ∃ (F : V) (e : Int), r = V.tup [F, num e] ∧ ((e ≠ 0 ∧ F = V.sc (.slice none 0 0)) ∨ (e = 0 ∧ ∃ v fl, leads (declP p) (mo, nm) = some v ∧ Sub (declP p) v s l fl ∧ F = V.slice (fl.map encFnd)))) (.tup [.sc (.slice none 0 0), num 1]) [] := ⟨rfl, _, 1, rfl, .inl ⟨by decide, rfl⟩⟩
    simp only [encG_below,encT_below,hwi,hx,hq,hwm,hlm,List.getElem?_map,encSel,List.length_map,sl,go_sem,reduceIte,zA,zB,zC,zD,zE,zF,reduceCtorEq]
    exact hK _ _ hres
   ·simp only [encG_below,encT_below,hwi,hx,hq,hwm,hlm,List.getElem?_map,encSel,List.length_map,sl,go_sem,reduceIte,zA,zB,zC,zD,zE,zF,reduceCtorEq]
    refine hZ2 _ (endK (by omega) (by simp only [encG_below,encT_below,hwi,hx,hq,hwm,hlm,List.getElem?_map,encSel,List.length_map,sl,go_sem,reduceIte,zA,zB,zC,zD,zE,zF,reduceCtorEq]) ?_ ?_) <;> simp only [lks,lk,reduceIte,zE]
    ·exact ⟨i + 1, rfl, by omega⟩
    ·simp only [Go.Eng.intOf,List.headD_cons]; omega
  ·simp only [encG_below,encT_below,List.length_map,sl,go_sem,reduceIte,zA,zB,zC,zD,zE,zF,reduceCtorEq]
   refine cW (newDecls_ok p hl hw) ?_
   rintro _ _ ⟨rfl, rfl⟩
   rcases (by cases h : leads (declP p) (mo, nm) with | none => exact .inr rfl | some v => exact .inl ⟨v, rfl⟩ : (∃ v, leads (declP p) (mo, nm) = some v) ∨ leads (declP p) (mo, nm) = none) with ⟨v, hld⟩ | hld
   ·simp only [encG_below,encT_below,List.length_map,sl,go_sem,reduceIte,zA,zB,zC,zD,zE,zF,reduceCtorEq]
    refine cS (by have h := end_at (decG p) (mo, nm) [.map (mkM usV 0 (encG (decG p))) (encG (decG p)).length] 0 rfl; rw [look_eq, lead_yes hld] at h; exact ⟨_, rfl, h⟩) ?_
    rintro _ rfl
    simp only [encG_below,encT_below,List.length_map,sl,go_sem,reduceIte,zA,zB,zC,zD,zE,zF,reduceCtorEq]
    refine xnil 19 0 2 (by decide) rfl ?_
    refine xloop tt_ok [33] (fun a : Nat × List Fnd => [(1, .slice (s.map encSel)), (16, .mp 0), (17, .ptr 1 0), (19, .ms 2 a.2.length 0 a.2.length), (69, .slice (l.map encAdv)), (70, num l.length), (71, num a.1)]) (fun a : Nat × List Fnd => [.map (mkM usV 0 (encG (decG p))) (encG (decG p)).length, .box [str v.1, str v.2], .rows a.2.length 2 (a.2.map encFnd)]) (fun a => l.length - a.1) (fun a => a.1 ≤ l.length ∧ Sub (declP p) v s (l.take a.1) a.2) ((0, [])) 3 (lies (by omega) (by simp only [encG_below,encT_below,List.length_map,sl,List.map_nil,List.length_nil,Int.cast_ofNat_Int,go_sem,reduceIte,zA,zB,zC,zD,zE,zF,reduceCtorEq] <;> rfl)) (⟨Nat.zero_le _, .nil⟩) ?_
    intro ⟨i, fl⟩ ⟨hi, hS⟩
    try dsimp only at hi hS
    try dsimp only
    have hfl := hS.len
    rw [List.length_take] at hfl
    intro Z3 hZ3
    simp only [encG_below,encT_below,List.length_map,sl,go_sem,reduceIte,zA,zB,zC,zD,zE,zF,reduceCtorEq]
    refine gif (fun hc72 => ?_) (fun hc72 => ?_)
    ·have hlti : i < l.length := by simpa using hc72
     have hwi := i64_succ i (by omega)
     obtain ⟨a, hx⟩ : ∃ a, l[i]? = some a := ⟨_, List.getElem?_eq_getElem hlti⟩
     obtain ⟨hab1, hab2, hab3⟩ := hab a (List.mem_of_getElem? hx)
     have htk : l.take (i + 1) = l.take i ++ [a] := by rw [List.take_add_one, hx]; rfl
     simp only [encG_below,encT_below,hwi,hx,List.getElem?_map,encAdv,advCells,List.length_map,sl,go_sem,reduceIte,zA,zB,zC,zD,zE,zF,reduceCtorEq]
     refine cF (by have h := concs_ok a (hab a (List.mem_of_getElem? hx)).2.1 s hs; simp only [encAdv,advCells] at h; exact h) ?_
     rintro _ rfl
     simp only [encG_below,encT_below,hwi,hx,List.getElem?_map,encAdv,advCells,List.length_map,sl,go_sem,reduceIte,zA,zB,zC,zD,zE,zF,reduceCtorEq]
     refine gif (fun hc78 => ?_) (fun hc78 => ?_)
     ·simp only [encG_below,encT_below,hwi,hx,List.getElem?_map,encAdv,advCells,List.length_map,sl,go_sem,reduceIte,zA,zB,zC,zD,zE,zF,reduceCtorEq]
      refine hZ3 _ ⟨(i + 1, fl), ?_, ?_, lies (by omega) (by (simp only [hwi,encG_below,encT_below,go_sem,reduceIte,zA,zB,zC,zD,zE,zF,reduceCtorEq]))⟩
      ·exact ⟨hlti, by rw [htk]; exact hS.app_skip a⟩
      ·dsimp only; omega
     ·simp only [encG_below,encT_below,hwi,hx,List.getElem?_map,encAdv,advCells,List.length_map,sl,go_sem,reduceIte,zA,zB,zC,zD,zE,zF,reduceCtorEq]
      refine xloop tt_ok [33] (fun b : Nat × Tos => [(1, .slice (s.map encSel)), (16, .mp 0), (17, .ptr 1 0), (19, .ms 2 fl.length 0 fl.length), (21, .ptr 3 0), (22, .mp 4), (69, .slice (l.map encAdv)), (70, num l.length), (71, num i), (81, .slice (a.syms.map str)), (82, num a.syms.length), (83, num b.1)]) (fun b : Nat × Tos => [.map (mkM usV 0 (encG (decG p))) (encG (decG p)).length, .box [str v.1, str v.2], .rows fl.length 2 (fl.map encFnd), .box [str a.id, str a.path, .slice (a.set.map encSpn), .slice (a.syms.map str), str a.note], .map (mkM usV 0 (encT b.2)) (encT b.2).length]) (fun b => a.syms.length - b.1) (fun b => b.1 ≤ a.syms.length ∧ ∀ z, toB b.2 z = true → (decide (z.1 = a.path) && hasS a.syms z.2) = true) ((0, [])) 5 (lies (by omega) (by simp only [encG_below,encT_below,hwi,hx,List.getElem?_map,encAdv,advCells,List.length_map,sl,encT,List.map_nil,mkM,List.length_nil,Int.cast_ofNat_Int,go_sem,reduceIte,zA,zB,zC,zD,zE,zF,reduceCtorEq] <;> rfl)) (⟨Nat.zero_le _, fun z hz => by cases hz⟩) ?_
      intro ⟨j, T⟩ ⟨hj, hT⟩
      try dsimp only at hj hT
      try dsimp only
      intro Z4 hZ4
      simp only [encG_below,encT_below,hwi,hx,List.getElem?_map,encAdv,advCells,List.length_map,sl,go_sem,reduceIte,zA,zB,zC,zD,zE,zF,reduceCtorEq]
      refine gif (fun hc84 => ?_) (fun hc84 => ?_)
      ·have hltj : j < a.syms.length := by simpa using hc84
       have hwj := i64_succ j (by omega)
       obtain ⟨n, hn⟩ : ∃ n, a.syms[j]? = some n := ⟨_, List.getElem?_eq_getElem hltj⟩
       rcases hlu : lookU (a.path, n) (decG p) with _ | d
       ·have hlk := fun B1 B2 B3 B4 B5 B6 => lookD (a.path, n) (decG p) (mem := [.map (mkM usV 0 (encG (decG p))) (encG (decG p)).length, B1, B2, B3, B4, B5, B6]) (b := 0) rfl false
        have hpt := fun B0 B1 B2 B3 B5 B6 b => putTos (a.path, n) b T (mem := [B0, B1, B2, B3, .map (mkM usV 0 (encT T)) (encT T).length, B5, B6]) (k := 4) rfl
        simp only [encG_below,encT_below,hwi,hx,List.getElem?_map,encAdv,advCells,hwj,hn,List.getElem?_map,fld0,hlk,hpt,hlu,Option.isSome_none,Option.map_none,Option.getD_none,okV,List.length_map,sl,go_sem,reduceIte,zA,zB,zC,zD,zE,zF,reduceCtorEq]
        refine xmixL tt_ok mixed_ok [⟨.n, 0, [], [], []⟩, ⟨.r, 0, [], [], []⟩, ⟨.n, 0, [], [], []⟩, ⟨.r, 0, [], [], []⟩, ⟨.r, 0, [], [], []⟩, ⟨.n, 0, [], [], []⟩, ⟨.n, 0, [], [], []⟩, ⟨.w, 0, [], [], []⟩] 1 (by kernel_rfl) ?_
        simp only [encG_below,encT_below,hwi,hx,List.getElem?_map,encAdv,advCells,hwj,hn,List.getElem?_map,fld0,hlk,hpt,hlu,Option.isSome_none,Option.map_none,Option.getD_none,okV,List.length_map,sl,go_sem,reduceIte,zA,zB,zC,zD,zE,zF,reduceCtorEq]
        refine hZ4 _ ⟨(j + 1, putT (a.path, n) (decide ((0 : Int) = 1)) T), ?_, ?_, lies (by omega) (by (simp only [hwj,encG_below,encT_below,go_sem,reduceIte,zA,zB,zC,zD,zE,zF,reduceCtorEq]))⟩
        ·refine ⟨hltj, fun z hz => ?_⟩
         rcases toB_put hz with rfl | hz
         ·rw [decide_eq_true rfl, hasS_mem hn]; rfl
         ·exact hT z hz
        ·dsimp only; omega
       ·have hlk := fun B1 B2 B3 B4 B5 B6 => lookD (a.path, n) (decG p) (mem := [.map (mkM usV 0 (encG (decG p))) (encG (decG p)).length, B1, B2, B3, B4, B5, B6]) (b := 0) rfl false
        have hpt := fun B0 B1 B2 B3 B5 B6 b => putTos (a.path, n) b T (mem := [B0, B1, B2, B3, .map (mkM usV 0 (encT T)) (encT T).length, B5, B6]) (k := 4) rfl
        simp only [encG_below,encT_below,hwi,hx,List.getElem?_map,encAdv,advCells,hwj,hn,List.getElem?_map,fld0,hlk,hpt,hlu,Option.isSome_some,Option.map_some,Option.getD_some,okV,encDc_eq,dcCells,tyCells,exCells,List.cons_append,List.nil_append,List.length_map,sl,go_sem,reduceIte,zA,zB,zC,zD,zE,zF,reduceCtorEq]
        refine xmixL tt_ok mixed_ok [⟨.n, 0, [], [], []⟩, ⟨.r, 0, [], [], []⟩, ⟨.n, 0, [], [], []⟩, ⟨.r, 0, [], [], []⟩, ⟨.r, 0, [], [], []⟩, ⟨.n, 0, [], [], []⟩, ⟨.n, 0, [], [], []⟩, ⟨.w, 0, [], [], []⟩] 1 (by kernel_rfl) ?_
        simp only [encG_below,encT_below,hwi,hx,List.getElem?_map,encAdv,advCells,hwj,hn,List.getElem?_map,fld0,hlk,hpt,hlu,Option.isSome_some,Option.map_some,Option.getD_some,okV,encDc_eq,dcCells,tyCells,exCells,List.cons_append,List.nil_append,List.length_map,sl,go_sem,reduceIte,zA,zB,zC,zD,zE,zF,reduceCtorEq]
        refine hZ4 _ ⟨(j + 1, putT (a.path, n) (decide (d.kind = 1)) T), ?_, ?_, lies (by omega) (by (simp only [hwj,encG_below,encT_below,go_sem,reduceIte,zA,zB,zC,zD,zE,zF,reduceCtorEq]))⟩
        ·refine ⟨hltj, fun z hz => ?_⟩
         rcases toB_put hz with rfl | hz
         ·rw [decide_eq_true rfl, hasS_mem hn]; rfl
         ·exact hT z hz
        ·dsimp only; omega
      ·have hcon : s.any (conc a) = true := by simpa using hc78
       obtain ⟨rc, hrc, hcall⟩ := chain_at (decG p) T v hgl (fun u d h => declP_wt hw ((congrFun (look_eq p) u).symm.trans h)) (by rw [look_eq]; exact leads_some hld) [.map (mkM usV 0 (encG (decG p))) (encG (decG p)).length, .box [str v.1, str v.2], .rows fl.length 2 (fl.map encFnd), .box [str a.id, str a.path, .slice (a.set.map encSpn), .slice (a.syms.map str), str a.note], .map (mkM usV 0 (encT T)) (encT T).length] 0 4 rfl rfl (by decide)
       rcases hrc with rfl | ⟨c, hc0, rfl, hch⟩
       ·simp only [encG_below,encT_below,hwi,hx,List.getElem?_map,encAdv,advCells,nilneq,List.length_map,sl,go_sem,reduceIte,zA,zB,zC,zD,zE,zF,reduceCtorEq]
        refine cS (⟨_, rfl, hcall⟩) ?_
        rintro _ rfl
        simp only [encG_below,encT_below,hwi,hx,List.getElem?_map,encAdv,advCells,nilneq,List.length_map,sl,go_sem,reduceIte,zA,zB,zC,zD,zE,zF,reduceCtorEq]
        refine hZ3 _ ⟨(i + 1, fl), ?_, ?_, lies (by omega) (by (simp only [hwi,encG_below,encT_below,go_sem,reduceIte,zA,zB,zC,zD,zE,zF,reduceCtorEq]))⟩
        ·exact ⟨hlti, by rw [htk]; exact hS.app_skip a⟩
        ·dsimp only; omega
       ·rw [look_eq] at hch
        have hcl : c.length ≠ 0 := fun e => hc0 (List.length_eq_zero_iff.1 e)
        have hcl2 : (c.map encU).length ≠ 0 := by rw [List.length_map]; exact hcl
        have hfit : Fits (declP p) v s a ⟨a.id, c⟩ := ⟨rfl, hcon, hch.weaken hT⟩
        have hbl : fl.length + 1 ≤ 34359738368 := by omega
        simp only [encG_below,encT_below,hwi,hx,List.getElem?_map,encAdv,advCells,↓niV_ne hcl2,↓niV_ne hcl,nilAns_f,hbl,first2,List.length_map,sl,go_sem,reduceIte,zA,zB,zC,zD,zE,zF,reduceCtorEq]
        refine cS (⟨_, rfl, hcall⟩) ?_
        rintro _ rfl
        simp only [encG_below,encT_below,hwi,hx,List.getElem?_map,encAdv,advCells,↓niV_ne hcl2,↓niV_ne hcl,nilAns_f,hbl,first2,List.length_map,sl,go_sem,reduceIte,zA,zB,zC,zD,zE,zF,reduceCtorEq]
        refine hZ3 _ ⟨(i + 1, fl ++ [⟨a.id, c⟩]), ?_, ?_, lies (by omega) (by (simp only [hwi,List.length_map,map1,len1,encFnd,encG_below,encT_below,go_sem,reduceIte,zA,zB,zC,zD,zE,zF,reduceCtorEq]))⟩
        ·exact ⟨hlti, by rw [htk]; exact hS.app_take hfit⟩
        ·dsimp only; omega
    ·have hgei : i = l.length := by have := of_decide_eq_false hc72; omega
     rw [hgei, List.take_length] at hS
     have hres : (fun (r : V) (m : List Blk) => m = [] ∧ ∃ (F : V) (e : Int), r = V.tup [F, num e] ∧ ((e ≠ 0 ∧ F = V.sc (.slice none 0 0)) ∨ (e = 0 ∧ ∃ v fl, leads (declP p) (mo, nm) = some v ∧ Sub (declP p) v s l fl ∧ F = V.slice (fl.map encFnd)))) (.tup [.slice (fl.map encFnd), num 0]) [] := ⟨rfl, _, 0, rfl, .inr ⟨rfl, v, fl, hld, hS, rfl⟩⟩
     simp only [encG_below,encT_below,List.length_map,sl,go_sem,reduceIte,zA,zB,zC,zD,zE,zF,reduceCtorEq]
     refine xfrz (v' := .slice (fl.map encFnd)) 19 (by decide) rfl (by first | (simp only [pur1,purCell,List.getElem?_cons_succ,List.getElem?_cons_zero]; simp; exact List.take_of_length_le (by simp)) | (simp [lk, pur1, purCell]; exact List.take_of_length_le (by simp)) | simp [lk, pur1, purCell, List.take_of_length_le]) ?_
     refine xgo tt_ok [33] ?_
     simp only [encG_below,encT_below,List.length_map,sl,go_sem,reduceIte,zA,zB,zC,zD,zE,zF,reduceCtorEq]
     exact hK _ _ hres
   ·have hres : (fun (r : V) (m : List Blk) => m = [] ∧ ∃ (F : V) (e : Int), r = V.tup [F, num e] ∧ ((e ≠ 0 ∧ F = V.sc (.slice none 0 0)) ∨ (e = 0 ∧ ∃ v fl, leads (declP p) (mo, nm) = some v ∧ Sub (declP p) v s l fl ∧ F = V.slice (fl.map encFnd)))) (.tup [.sc (.slice none 0 0), num 6]) [] := ⟨rfl, _, 6, rfl, .inl ⟨by decide, rfl⟩⟩
    simp only [encG_below,encT_below,List.length_map,sl,go_sem,reduceIte,zA,zB,zC,zD,zE,zF,reduceCtorEq]
    refine cS (by have h := end_at (decG p) (mo, nm) [.map (mkM usV 0 (encG (decG p))) (encG (decG p)).length] 0 rfl; rw [look_eq, lead_no hld] at h; exact ⟨_, rfl, h⟩) ?_
    rintro _ rfl
    simp only [encG_below,encT_below,List.length_map,sl,go_sem,reduceIte,zA,zB,zC,zD,zE,zF,reduceCtorEq]
    exact hK _ _ hres
end Go.Proofs.YtefbaladomfccaaGreatDoor
end

section
namespace Go.Proofs.YtefbaladomfccaaGreatDoor
open Go.Eng
open Nat renaming reduceAdd → zA, reduceLT → zB, reduceLeDiff → zC, reduceMul → zD, reduceEqDiff → zE, reduceSub → zF
variable [Glob]
set_option maxHeartbeats 4000000
set_option maxRecDepth 100000
theorem tys_snoc (ts : List Ty) (k : Int) (m n : ByteArray) (a : List Ty) (b : List Fd) : encTys ts ++ [V.agg [num k, str m, str n, .slice (encTys a), .slice (encFds b)]] = encTys (ts ++ [.mk k m n a b]) := by simp [encTys_map, encTy]
theorem first5 (a b c d e : V) (r : List V) : firstOk (.agg [a, b, c, d, e] :: r) 0 5 = true := rfl
theorem first_tyM (ts : List Ty) (n : Nat) : firstOk (ts.map encTy) n 5 = true := by rw [← encTys_map]; exact first_ty ts n
theorem mapT1 {α β : Type} (f : α → β) (l : List α) (a : α) : (l ++ [a]).map f = l.map f ++ [f a] := by simp
theorem lenT1 {α : Type} (l : List α) (a : α) : (l ++ [a]).length = l.length + 1 := by simp
def ownT (e : Ex) (j : Nat) : List Ty := e.types ++ (e.labels.take j).map Lb.ty
def Ex.own (e : Ex) : List Ty := if e.kind = 8 then ownT e e.labels.length else e.types
theorem ownT_zero (e : Ex) : ownT e 0 = e.types := by simp [ownT]
theorem ownT_succ {e : Ex} {j : Nat} {l : Lb} (h : e.labels[j]? = some l) : ownT e (j + 1) = ownT e j ++ [l.ty] := by unfold ownT; rw [List.take_add_one, h]; simp
theorem ownT_le (e : Ex) (j : Nat) : (ownT e j).length ≤ e.types.length + e.labels.length := by unfold ownT; rw [List.length_append, List.length_map, List.length_take]; omega
theorem own_le (e : Ex) : e.own.length ≤ e.types.length + e.labels.length := by
 unfold Ex.own; split
 ·exact ownT_le e _
 ·omega
theorem own_wt {e : Ex} {t : Ty} (h : t ∈ e.own) : t.wt ≤ e.wt := by
 unfold Ex.own ownT at h
 have key : ∀ {t : Ty}, t ∈ e.types ++ (e.labels.take e.labels.length).map Lb.ty → t.wt ≤ e.wt := fun {t} h => by
  rcases List.mem_append.1 h with h | h
  ·exact Nat.le_of_lt (Ex.wt_type h)
  ·obtain ⟨l, hl, rfl⟩ := List.mem_map.1 h
   have := Ex.wt_label (List.mem_of_mem_take hl)
   unfold Lb.wt at this; omega
 split at h
 ·exact key h
 ·exact Nat.le_of_lt (Ex.wt_type h)
theorem tparts_ok (t : Ty) (hl : t.args.length ≤ 1048576) (hl2 : t.flds.length ≤ 1048576) : ∃ r_, (fun w => w = .slice (encTys t.parts)) r_ ∧ FnOk Tryz.prog 129 [encTy t] r_ := by
 refine vfn tt_ok [] 26 [.tmp 2] (fn := Tryz.f129) Tryz.func129 rfl Tryz.call129 ⟨rfl, rfl, by simp⟩ fun K hK => ?_
 obtain ⟨k, m, n, ts, fs⟩ := t
 simp only [Ty.args,Ty.flds] at hl hl2
 simp only [encTy]
 have hb1 : ts.length ≤ 34359738368 := by omega
 simp only [length_encTys,length_encFds,first_ty,hb1,go_sem,reduceIte,zA,zB,zC,zD,zE,zF,reduceCtorEq]
 refine xloop tt_ok [] (fun i : Nat => [(1, .ptr 0 0), (3, .ms 1 (i + 1) 0 (ts.length + i)), (4, num i)]) (fun i : Nat => [.box [num k, str m, str n, .slice (encTys ts), .slice (encFds fs)], .rows (i + 1) 5 (encTys (ts ++ (fs.take i).map Fd.ty))]) (fun i => fs.length - i) (fun i => i ≤ fs.length) (0) 2 (lies (by omega) (by simp only [length_encTys,length_encFds,first_ty,hb1,List.take_zero,List.map_nil,List.append_nil,Int.cast_ofNat_Int,go_sem,reduceIte,zA,zB,zC,zD,zE,zF,reduceCtorEq] <;> rfl)) (Nat.zero_le _) ?_
 intro i hi
 try dsimp only at hi
 try dsimp only
 have hw := i64_succ i (by omega)
 intro Z1 hZ1
 simp only [hw,length_encTys,length_encFds,first_ty,hb1,go_sem,reduceIte,zA,zB,zC,zD,zE,zF,reduceCtorEq]
 refine gif (fun hc13 => ?_) (fun hc13 => ?_)
 ·have hlt : i < fs.length := by simpa using hc13
  obtain ⟨g, hg⟩ : ∃ g, fs[i]? = some g := ⟨_, List.getElem?_eq_getElem hlt⟩
  have hft : (fs.take (i + 1)).map Fd.ty = (fs.take i).map Fd.ty ++ [g.ty] := by rw [List.take_add_one, hg]; simp
  obtain ⟨gn, ⟨gk, gm, gn2, gts, gfs⟩, go⟩ := g
  dsimp only [Fd.ty] at hft
  have hb2 : ts.length + i + 1 ≤ 34359738368 := by omega
  have hlen : (encTys (ts ++ (fs.take i).map Fd.ty)).length = ts.length + i := by rw [length_encTys, List.length_append, List.length_map, List.length_take]; omega
  have hlen2 : (encTys (ts ++ (fs.take i).map Fd.ty ++ [.mk gk gm gn2 gts gfs])).length = ts.length + (i + 1) := by rw [length_encTys, List.length_append, List.length_append, List.length_map, List.length_take, List.length_singleton]; omega
  simp only [hw,get_encFds,hg,encFd,hb2,hlen,length_encTys,length_encFds,first_ty,hb1,go_sem,reduceIte,zA,zB,zC,zD,zE,zF,reduceCtorEq]
  refine hZ1 _ ⟨i + 1, ?_, ?_, lies (by omega) (by (simp only [hw,hft,← List.append_assoc,tys_snoc,hlen2,Nat.add_assoc,go_sem,reduceIte,zA,zB,zC,zD,zE,zF,reduceCtorEq]))⟩
  ·exact hlt
  ·omega
 ·have hge : ¬ i < fs.length := by simpa using hc13
  obtain rfl : i = fs.length := by omega
  rw [List.take_length]
  have htl : (ts ++ fs.map Fd.ty).length = ts.length + fs.length := by rw [List.length_append, List.length_map]
  have htk : List.take (ts.length + fs.length) (encTys (ts ++ List.map Fd.ty fs)) = encTys (ts ++ List.map Fd.ty fs) := List.take_of_length_le (by rw [length_encTys, htl]; exact Nat.le_refl _)
  simp only [hw,htl,htk,Nat.le_refl,length_encTys,length_encFds,first_ty,hb1,go_sem,reduceIte,zA,zB,zC,zD,zE,zF,reduceCtorEq]
  exact hK _ rfl
theorem tsize_step (N : Nat) (ih : ∀ t : Ty, t.size ≤ N → ∃ r_, (fun w => w = num (t.size)) r_ ∧ FnOk Tryz.prog 85 [encTy t] r_) (t : Ty) (hN : t.size ≤ N + 1) (hb : N + 1 ≤ 1048576) : ∃ r_, (fun w => w = num (t.size)) r_ ∧ FnOk Tryz.prog 85 [encTy t] r_ := by
 refine vfn tt_ok [] 22 [.tmp 2] (fn := Tryz.f85) Tryz.func85 rfl Tryz.call85 ⟨rfl, rfl, by simp⟩ fun K hK => ?_
 have hsz := t.size_parts
 obtain ⟨ps, hps⟩ : ∃ x, x = t.parts := ⟨_, rfl⟩
 rw [← hps] at hsz
 have hlen := length_le_sum Ty.size (fun t => t.size_pos) ps
 have hpl : ps.length = t.args.length + t.flds.length := by rw [hps]; unfold Ty.parts; rw [List.length_append, List.length_map]
 have hpc := tparts_ok t (by omega) (by omega)
 rw [encTy_eq, ← hps] at hpc
 rw [encTy_eq]
 simp only [tyCells] at hpc ⊢
 simp only [length_encTys,go_sem,reduceIte,zA,zB,zC,zD,zE,zF,reduceCtorEq]
 refine cF (hpc) ?_
 rintro _ rfl
 simp only [length_encTys,go_sem,reduceIte,zA,zB,zC,zD,zE,zF,reduceCtorEq]
 refine xloopL tt_ok [] [5,3] 1 [2,4] (fun vs => ((ps.length : Int) - Go.Eng.intOf (vs.headD .undef)).toNat) (fun vs => ∃ i : Nat, vs = [num i, num ((1 + sumBy Ty.size (ps.take i) : Nat) : Int)] ∧ i ≤ ps.length) (by omega) (by simp only [length_encTys,go_sem,reduceIte,zA,zB,zC,zD,zE,zF,reduceCtorEq]) (⟨0, by first | rfl | simp [sumBy, lks, lk], Nat.zero_le _⟩) fun vs hI Z1 hZ1 => ?_
 obtain ⟨i, rfl, hi⟩ := hI
 simp only [length_encTys,go_sem,reduceIte,zA,zB,zC,zD,zE,zF,reduceCtorEq]
 refine gif (fun hc11 => ?_) (fun hc11 => ?_)
 ·have hlt : i < ps.length := by simpa using hc11
  obtain ⟨x, hx⟩ : ∃ x, ps[i]? = some x := ⟨_, List.getElem?_eq_getElem hlt⟩
  have hst := sumBy_take_succ Ty.size hx
  have hsl := sumBy_take_le Ty.size ps (i + 1)
  have hsp := x.size_pos
  have hw := i64_succ i (by omega)
  have hwa := i64_add (1 + sumBy Ty.size (ps.take i)) x.size (by omega)
  obtain ⟨k2, m2, n2, a2, f2⟩ := x
  simp only [get_encTys,hx,encTy,hw,hwa,length_encTys,go_sem,reduceIte,zA,zB,zC,zD,zE,zF,reduceCtorEq]
  refine cF (by have h := ih (.mk k2 m2 n2 a2 f2) (by omega); simp only [encTy] at h; exact h) ?_
  rintro _ rfl
  simp only [get_encTys,hx,encTy,hw,hwa,length_encTys,go_sem,reduceIte,zA,zB,zC,zD,zE,zF,reduceCtorEq]
  refine hZ1 _ (endK (by omega) (by simp only [get_encTys,hx,encTy,hw,hwa,length_encTys,go_sem,reduceIte,zA,zB,zC,zD,zE,zF,reduceCtorEq]) ?_ ?_) <;> simp only [lks,lk,reduceIte,zE]
  ·exact ⟨i + 1, by rw [hst, ← Nat.add_assoc], hlt⟩
  ·simp only [Go.Eng.intOf,List.headD_cons]; omega
 ·have hge : ¬ i < ps.length := by simpa using hc11
  obtain rfl : i = ps.length := by omega
  rw [List.take_length, ← hsz]
  simp only [length_encTys,go_sem,reduceIte,zA,zB,zC,zD,zE,zF,reduceCtorEq]
  exact hK _ rfl
theorem tsize_ok : ∀ (N : Nat) (t : Ty), t.size ≤ N → N ≤ 1048576 → ∃ r_, (fun w => w = num (t.size)) r_ ∧ FnOk Tryz.prog 85 [encTy t] r_ := by
 intro N
 induction N with
 | zero => intro t h; have := t.size_pos; omega
 | succ N ih => intro t h hb; exact tsize_step N (fun t ht => ih t ht (by omega)) t h hb
theorem etys_ok (e : Ex) (hw : e.wt ≤ 1048576) : ∃ r_, (fun w => w = .slice (e.own.map encTy)) r_ ∧ FnOk Tryz.prog 130 [encEx e] r_ := by
 refine vfn tt_ok [] 29 [.tmp 2] (fn := Tryz.f130) Tryz.func130 rfl Tryz.call130 ⟨rfl, rfl, by simp⟩ fun K hK => ?_
 have hln := e.wt_lens
 rw [encEx_eq]
 simp only [exCells,encTys_map]
 have hl0 : e.types.length ≤ 34359738368 := by omega
 simp only [hl0,List.length_map,first_tyM,first5,go_sem,reduceIte,zA,zB,zC,zD,zE,zF,reduceCtorEq]
 refine gif (fun hc11 => ?_) (fun hc11 => ?_)
 ·have h8 : e.kind = 8 := of_decide_eq_true hc11
  simp only [hl0,List.length_map,first_tyM,first5,go_sem,reduceIte,zA,zB,zC,zD,zE,zF,reduceCtorEq]
  refine xloop tt_ok [] (fun a : Nat × Nat => [(1, .ptr 0 0), (3, .ms 1 a.2 0 (ownT e a.1).length), (4, num a.1)]) (fun a : Nat × Nat => [.box [num e.kind, str e.mod, str e.name, str e.text, num e.num, .slice (e.types.map encTy), .slice (e.labels.map encLb), .slice (encExs e.kids)], .rows a.2 5 ((ownT e a.1).map encTy)]) (fun a => e.labels.length - a.1) (fun a => a.1 ≤ e.labels.length) ((0, 1)) 2 (lies (by omega) (by simp only [hl0,List.length_map,first_tyM,first5,ownT_zero,List.length_map,Int.cast_ofNat_Int,go_sem,reduceIte,zA,zB,zC,zD,zE,zF,reduceCtorEq] <;> rfl)) (Nat.zero_le _) ?_
  intro ⟨j, w⟩ hj
  try dsimp only at hj
  try dsimp only
  intro Z1 hZ1
  simp only [hl0,List.length_map,first_tyM,first5,go_sem,reduceIte,zA,zB,zC,zD,zE,zF,reduceCtorEq]
  refine gif (fun hc16 => ?_) (fun hc16 => ?_)
  ·have hltj : j < e.labels.length := by simpa using hc16
   have hwj := i64_succ j (by omega)
   obtain ⟨p, hp⟩ : ∃ p, e.labels[j]? = some p := ⟨_, List.getElem?_eq_getElem hltj⟩
   have hle := ownT_le e j
   have hbl : (ownT e j).length + 1 ≤ 34359738368 := by omega
   simp only [hl0,hp,hbl,List.getElem?_map,encLb,tyCells,List.cons_append,List.nil_append,List.length_map,first_tyM,first5,go_sem,reduceIte,zA,zB,zC,zD,zE,zF,reduceCtorEq]
   refine hZ1 _ ⟨(j + 1, w + 1), ?_, ?_, lies (by omega) (by (simp only [List.length_map,hwj,ownT_succ hp,lenT1,mapT1,encTy_eq,tyCells,go_sem,reduceIte,zA,zB,zC,zD,zE,zF,reduceCtorEq]))⟩
   ·exact hltj
   ·dsimp only; omega
  ·have hgej : j = e.labels.length := by have := of_decide_eq_false hc16; omega
   have hres : ownT e j = e.own := by rw [hgej]; unfold Ex.own; rw [if_pos h8]
   rw [hres]
   simp only [hl0,List.length_map,first_tyM,first5,go_sem,reduceIte,zA,zB,zC,zD,zE,zF,reduceCtorEq]
   try rw [List.take_of_length_le (by simp)]
   exact hK _ rfl
 ·have h8 : ¬ e.kind = 8 := of_decide_eq_false hc11
  have hres : e.types = e.own := by unfold Ex.own; rw [if_neg h8]
  rw [hres]
  simp only [hl0,List.length_map,first_tyM,first5,go_sem,reduceIte,zA,zB,zC,zD,zE,zF,reduceCtorEq]
  try rw [List.take_of_length_le (by simp)]
  exact hK _ rfl
theorem esize_step (N : Nat) (ih : ∀ e : Ex, e.wt ≤ N → ∃ r_, (fun w => ∃ n : Int, w = num n) r_ ∧ FnOk Tryz.prog 86 [encEx e] r_) (e : Ex) (hN : e.wt ≤ N + 1) (hb : N + 1 ≤ 1048576) : ∃ r_, (fun w => ∃ n : Int, w = num n) r_ ∧ FnOk Tryz.prog 86 [encEx e] r_ := by
 refine vfn tt_ok [] 38 [.tmp 2] (fn := Tryz.f86) Tryz.func86 rfl Tryz.call86 ⟨rfl, rfl, by simp⟩ fun K hK => ?_
 have hln := e.wt_lens
 have hol := own_le e
 rw [encEx_eq]
 simp only [exCells]
 simp only [List.length_map,length_encExs,go_sem,reduceIte,zA,zB,zC,zD,zE,zF,reduceCtorEq]
 refine cF (by have h := etys_ok e (by omega); rw [encEx_eq] at h; simp only [exCells] at h; exact h) ?_
 rintro _ rfl
 simp only [List.length_map,length_encExs,go_sem,reduceIte,zA,zB,zC,zD,zE,zF,reduceCtorEq]
 refine xloopL tt_ok [] [5,3] 1 [1,2,4] (fun vs => ((e.own.length : Int) - Go.Eng.intOf (vs.headD .undef)).toNat) (fun vs => ∃ (i : Nat) (n : Int), vs = [num i, num n] ∧ i ≤ e.own.length) (by omega) (by simp only [List.length_map,length_encExs,go_sem,reduceIte,zA,zB,zC,zD,zE,zF,reduceCtorEq]) (⟨0, _, rfl, Nat.zero_le _⟩) fun vs hI Z1 hZ1 => ?_
 obtain ⟨i, n, rfl, hi⟩ := hI
 simp only [List.length_map,length_encExs,go_sem,reduceIte,zA,zB,zC,zD,zE,zF,reduceCtorEq]
 refine gif (fun hc12 => ?_) (fun hc12 => ?_)
 ·have hlti : i < e.own.length := by simpa using hc12
  have hwi := i64_succ i (by omega)
  obtain ⟨t, ht⟩ : ∃ t, e.own[i]? = some t := ⟨_, List.getElem?_eq_getElem hlti⟩
  simp only [hwi,ht,List.getElem?_map,encTy_eq,tyCells,List.length_map,length_encExs,go_sem,reduceIte,zA,zB,zC,zD,zE,zF,reduceCtorEq]
  refine cF (by have h := tsize_ok 1048576 t (by have h1 := t.size_le_wt; have h2 := own_wt (List.mem_of_getElem? ht); omega) (Nat.le_refl _); simp only [encTy_eq,tyCells] at h; exact h) ?_
  rintro _ rfl
  simp only [hwi,ht,List.getElem?_map,encTy_eq,tyCells,List.length_map,length_encExs,go_sem,reduceIte,zA,zB,zC,zD,zE,zF,reduceCtorEq]
  refine hZ1 _ (endK (by omega) (by simp only [hwi,ht,List.getElem?_map,encTy_eq,tyCells,List.length_map,length_encExs,go_sem,reduceIte,zA,zB,zC,zD,zE,zF,reduceCtorEq]) ?_ ?_) <;> simp only [lks,lk,reduceIte,zE]
  ·exact ⟨i + 1, _, rfl, hlti⟩
  ·simp only [Go.Eng.intOf,List.headD_cons]; omega
 ·have hgei : i = e.own.length := by have := of_decide_eq_false hc12; omega
  simp only [List.length_map,length_encExs,go_sem,reduceIte,zA,zB,zC,zD,zE,zF,reduceCtorEq]
  refine xloopL tt_ok [] [6,3] 1 [1,2,12] (fun vs => ((e.kids.length : Int) - Go.Eng.intOf (vs.headD .undef)).toNat) (fun vs => ∃ (i : Nat) (n : Int), vs = [num i, num n] ∧ i ≤ e.kids.length) (by omega) (by simp only [List.length_map,length_encExs,go_sem,reduceIte,zA,zB,zC,zD,zE,zF,reduceCtorEq]) (⟨0, _, rfl, Nat.zero_le _⟩) fun vs hI Z2 hZ2 => ?_
  obtain ⟨i, n, rfl, hi⟩ := hI
  simp only [List.length_map,length_encExs,go_sem,reduceIte,zA,zB,zC,zD,zE,zF,reduceCtorEq]
  refine gif (fun hc26 => ?_) (fun hc26 => ?_)
  ·have hlti : i < e.kids.length := by simpa using hc26
   have hwi := i64_succ i (by omega)
   obtain ⟨y, hy⟩ : ∃ y, e.kids[i]? = some y := ⟨_, List.getElem?_eq_getElem hlti⟩
   simp only [hwi,hy,get_encExs,encEx_eq,exCells,List.length_map,length_encExs,go_sem,reduceIte,zA,zB,zC,zD,zE,zF,reduceCtorEq]
   refine cF (by have h := ih y (by have h1 := Ex.wt_kid (List.mem_of_getElem? hy); omega); rw [encEx_eq] at h; simp only [exCells] at h; exact h) ?_
   rintro _ ⟨m, rfl⟩
   simp only [hwi,hy,get_encExs,encEx_eq,exCells,List.length_map,length_encExs,go_sem,reduceIte,zA,zB,zC,zD,zE,zF,reduceCtorEq]
   refine hZ2 _ (endK (by omega) (by simp only [hwi,hy,get_encExs,encEx_eq,exCells,List.length_map,length_encExs,go_sem,reduceIte,zA,zB,zC,zD,zE,zF,reduceCtorEq]) ?_ ?_) <;> simp only [lks,lk,reduceIte,zE]
   ·exact ⟨i + 1, _, rfl, hlti⟩
   ·simp only [Go.Eng.intOf,List.headD_cons]; omega
  ·have hgei : i = e.kids.length := by have := of_decide_eq_false hc26; omega
   simp only [List.length_map,length_encExs,go_sem,reduceIte,zA,zB,zC,zD,zE,zF,reduceCtorEq]
   exact hK _ ⟨_, rfl⟩
theorem esize_ok : ∀ (N : Nat) (e : Ex), e.wt ≤ N → N ≤ 1048576 → ∃ r_, (fun w => ∃ n : Int, w = num n) r_ ∧ FnOk Tryz.prog 86 [encEx e] r_ := by
 intro N
 induction N with
 | zero => intro e h; have := e.wt_pos; omega
 | succ N ih => intro e h hb; exact esize_step N (fun e he => ih e he (by omega)) e h hb
end Go.Proofs.YtefbaladomfccaaGreatDoor
end

section
namespace Go.Proofs.YtefbaladomfccaaGreatDoor
open Go.Eng
open Nat renaming reduceAdd → zA, reduceLT → zB, reduceLeDiff → zC, reduceMul → zD, reduceEqDiff → zE, reduceSub → zF
variable [Glob]
set_option maxHeartbeats 4000000
set_option maxRecDepth 100000
theorem pm_le {d : Dc} {j : Nat} {p : Pm} (h : d.params[j]? = some p) : p.bound.wt ≤ sumBy Pm.wt d.params := by
 have := mem_sum Pm.wt (List.mem_of_getElem? h)
 unfold Pm.wt at this ⊢; omega
theorem eqts_ok (l m : List Ty) (hl : l.length ≤ 1048576) (hh : ∀ t ∈ l, ∀ u ∈ m, ∃ r_, isB r_ ∧ FnOk Tryz.prog 131 [encTy t, encTy u] r_) : ∃ r_, isB r_ ∧ FnOk Tryz.prog 181 [.slice (l.map encTy), .slice (m.map encTy)] r_ := by
 refine vfn tt_ok [] 27 [.tmp 4] (fn := Tryz.f181) Tryz.func181 rfl Tryz.call181 ⟨rfl, rfl, by simp⟩ fun K hK => ?_
 simp only [List.length_map,go_sem,reduceIte,zA,zB,zC,zD,zE,zF,reduceCtorEq]
 refine gif (fun hc10 => ?_) (fun hc10 => ?_)
 ·simp only [List.length_map,go_sem,reduceIte,zA,zB,zC,zD,zE,zF,reduceCtorEq]
  exact hK _ ⟨_, rfl⟩
 ·have hlen : l.length = m.length := by have h9 : (l.length : Int) = m.length := (by simpa using hc10); omega
  simp only [List.length_map,go_sem,reduceIte,zA,zB,zC,zD,zE,zF,reduceCtorEq]
  refine xloopL tt_ok [] [5] 0 [0,1,10] (fun vs => ((l.length : Int) - Go.Eng.intOf (vs.headD .undef)).toNat) (fun vs => ∃ i : Nat, vs = [num i] ∧ i ≤ l.length) (by omega) (by simp only [List.length_map,go_sem,reduceIte,zA,zB,zC,zD,zE,zF,reduceCtorEq]) (⟨0, rfl, Nat.zero_le _⟩) fun vs hI Z1 hZ1 => ?_
  obtain ⟨i, rfl, hi⟩ := hI
  simp only [List.length_map,go_sem,reduceIte,zA,zB,zC,zD,zE,zF,reduceCtorEq]
  refine gif (fun hc14 => ?_) (fun hc14 => ?_)
  ·have hlti : i < l.length := by simpa using hc14
   have hwi := i64_succ i (by omega)
   obtain ⟨x, hx⟩ : ∃ x, l[i]? = some x := ⟨_, List.getElem?_eq_getElem hlti⟩
   obtain ⟨y, hy⟩ : ∃ y, m[i]? = some y := ⟨_, List.getElem?_eq_getElem (by omega)⟩
   simp only [hwi,hx,hy,List.getElem?_map,encTy_eq,tyCells,List.length_map,go_sem,reduceIte,zA,zB,zC,zD,zE,zF,reduceCtorEq]
   refine xmixL tt_ok mixed_ok [⟨.n, 0, [], [], []⟩, ⟨.n, 0, [], [], []⟩, ⟨.r, 0, [], [], []⟩, ⟨.r, 0, [], [], []⟩, ⟨.n, 0, [], [], []⟩, ⟨.n, 0, [], [], []⟩, ⟨.r, 0, [], [], []⟩, ⟨.r, 0, [], [], []⟩, ⟨.n, 0, [], [], []⟩, ⟨.n, 0, [], [], []⟩] 0 (by kernel_rfl) ?_
   simp only [hwi,hx,hy,List.getElem?_map,encTy_eq,tyCells,List.length_map,go_sem,reduceIte,zA,zB,zC,zD,zE,zF,reduceCtorEq]
   refine cG (by have h := hh x (List.mem_of_getElem? hx) y (List.mem_of_getElem? hy); simp only [encTy_eq,tyCells] at h; exact h) ?_
   rintro _ ⟨b, rfl⟩
   simp only [hwi,hx,hy,List.getElem?_map,encTy_eq,tyCells,List.length_map,go_sem,reduceIte,zA,zB,zC,zD,zE,zF,reduceCtorEq]
   refine gif (fun hc26 => ?_) (fun hc26 => ?_)
   ·simp only [hwi,hx,hy,List.getElem?_map,encTy_eq,tyCells,List.length_map,go_sem,reduceIte,zA,zB,zC,zD,zE,zF,reduceCtorEq]
    exact hK _ ⟨_, rfl⟩
   ·simp only [hwi,hx,hy,List.getElem?_map,encTy_eq,tyCells,List.length_map,go_sem,reduceIte,zA,zB,zC,zD,zE,zF,reduceCtorEq]
    refine hZ1 _ (endK (by omega) (by simp only [hwi,hx,hy,List.getElem?_map,encTy_eq,tyCells,List.length_map,go_sem,reduceIte,zA,zB,zC,zD,zE,zF,reduceCtorEq]) ?_ ?_) <;> simp only [lks,lk,reduceIte,zE]
    ·exact ⟨i + 1, rfl, hlti⟩
    ·simp only [Go.Eng.intOf,List.headD_cons]; omega
  ·have hgei : i = l.length := by have := of_decide_eq_false hc14; omega
   simp only [List.length_map,go_sem,reduceIte,zA,zB,zC,zD,zE,zF,reduceCtorEq]
   exact hK _ ⟨_, rfl⟩
theorem eqty_step (N : Nat) (ih : ∀ t u : Ty, t.wt ≤ N → ∃ r_, isB r_ ∧ FnOk Tryz.prog 131 [encTy t, encTy u] r_) (t u : Ty) (hN : t.wt ≤ N + 1) (hb : N + 1 ≤ 1048576) : ∃ r_, isB r_ ∧ FnOk Tryz.prog 131 [encTy t, encTy u] r_ := by
 refine vfn tt_ok [] 90 [.tmp 4] (fn := Tryz.f131) Tryz.func131 rfl Tryz.call131 ⟨rfl, rfl, by simp⟩ fun K hK => ?_
 have hln := t.wt_lens
 simp only [encTy_eq,tyCells,encTys_map]
 simp only [List.length_map,length_encFds,go_sem,reduceIte,zA,zB,zC,zD,zE,zF,reduceCtorEq]
 refine gif (fun hb1_5 => ?_) (fun hb1_5 => ?_)
 ·simp only [List.length_map,length_encFds,go_sem,reduceIte,zA,zB,zC,zD,zE,zF,reduceCtorEq]
  exact hK _ ⟨_, rfl⟩
 ·simp only [List.length_map,length_encFds,go_sem,reduceIte,zA,zB,zC,zD,zE,zF,reduceCtorEq]
  refine gif (fun hb1_12 => ?_) (fun hb1_12 => ?_)
  ·simp only [List.length_map,length_encFds,go_sem,reduceIte,zA,zB,zC,zD,zE,zF,reduceCtorEq]
   exact hK _ ⟨_, rfl⟩
  ·simp only [List.length_map,length_encFds,go_sem,reduceIte,zA,zB,zC,zD,zE,zF,reduceCtorEq]
   refine gif (fun hb1_19 => ?_) (fun hb1_19 => ?_)
   ·simp only [List.length_map,length_encFds,go_sem,reduceIte,zA,zB,zC,zD,zE,zF,reduceCtorEq]
    exact hK _ ⟨_, rfl⟩
   ·simp only [List.length_map,length_encFds,go_sem,reduceIte,zA,zB,zC,zD,zE,zF,reduceCtorEq]
    refine gif (fun hc33 => ?_) (fun hc33 => ?_)
    ·simp only [List.length_map,length_encFds,go_sem,reduceIte,zA,zB,zC,zD,zE,zF,reduceCtorEq]
     exact hK _ ⟨_, rfl⟩
    ·have hlen : t.flds.length = u.flds.length := by have h9 : (t.flds.length : Int) = u.flds.length := (by simpa using hc33); omega
     simp only [List.length_map,length_encFds,go_sem,reduceIte,zA,zB,zC,zD,zE,zF,reduceCtorEq]
     refine xloopL tt_ok [] [5] 2 [2,3,33] (fun vs => ((t.flds.length : Int) - Go.Eng.intOf (vs.headD .undef)).toNat) (fun vs => ∃ i : Nat, vs = [num i] ∧ i ≤ t.flds.length) (by omega) (by simp only [List.length_map,length_encFds,go_sem,reduceIte,zA,zB,zC,zD,zE,zF,reduceCtorEq]) (⟨0, rfl, Nat.zero_le _⟩) fun vs hI Z1 hZ1 => ?_
     obtain ⟨i, rfl, hi⟩ := hI
     simp only [List.length_map,length_encFds,go_sem,reduceIte,zA,zB,zC,zD,zE,zF,reduceCtorEq]
     refine gif (fun hc38 => ?_) (fun hc38 => ?_)
     ·have hlti : i < t.flds.length := by simpa using hc38
      have hwi := i64_succ i (by omega)
      obtain ⟨x, hx⟩ : ∃ x, t.flds[i]? = some x := ⟨_, List.getElem?_eq_getElem hlti⟩
      obtain ⟨y, hy⟩ : ∃ y, u.flds[i]? = some y := ⟨_, List.getElem?_eq_getElem (by omega)⟩
      simp only [ltb,hwi,hx,hy,get_encFds,encFd_eq,tyCells,encTys_map,List.length_map,length_encFds,go_sem,reduceIte,zA,zB,zC,zD,zE,zF,reduceCtorEq]
      refine xmixL tt_ok mixed_ok [⟨.n, 0, [], [], []⟩, ⟨.r, 0, [], [], []⟩, ⟨.n, 0, [], [], []⟩, ⟨.r, 0, [], [], []⟩, ⟨.n, 0, [], [], []⟩, ⟨.r, 0, [], [], []⟩, ⟨.n, 0, [], [], []⟩, ⟨.r, 0, [], [], []⟩, ⟨.n, 0, [], [], []⟩, ⟨.r, 0, [], [], []⟩, ⟨.n, 0, [], [], []⟩, ⟨.r, 0, [], [], []⟩, ⟨.n, 0, [], [], []⟩, ⟨.n, 0, [], [], []⟩, ⟨.n, 0, [], [], []⟩, ⟨.r, 0, [], [], []⟩, ⟨.n, 0, [], [], []⟩, ⟨.r, 0, [], [], []⟩, ⟨.n, 0, [], [], []⟩, ⟨.r, 0, [], [], []⟩, ⟨.n, 0, [], [], []⟩, ⟨.r, 0, [], [], []⟩, ⟨.n, 0, [], [], []⟩, ⟨.r, 0, [], [], []⟩, ⟨.n, 0, [], [], []⟩, ⟨.r, 0, [], [], []⟩, ⟨.n, 0, [], [], []⟩, ⟨.n, 0, [], [], []⟩, ⟨.n, 0, [], [], []⟩, ⟨.n, 0, [], [], []⟩, ⟨.r, 0, [], [], []⟩, ⟨.n, 0, [], [], []⟩, ⟨.r, 0, [], [], []⟩, ⟨.n, 0, [], [], []⟩, ⟨.r, 0, [], [], []⟩, ⟨.n, 0, [], [], []⟩, ⟨.r, 0, [], [], []⟩, ⟨.n, 0, [], [], []⟩, ⟨.r, 0, [], [], []⟩, ⟨.n, 0, [], [], []⟩, ⟨.r, 0, [], [], []⟩, ⟨.n, 0, [], [], []⟩, ⟨.n, 0, [], [], []⟩, ⟨.n, 0, [], [], []⟩] 0 (by kernel_rfl) ?_
      simp only [ltb,hwi,hx,hy,get_encFds,encFd_eq,tyCells,encTys_map,List.length_map,length_encFds,go_sem,reduceIte,zA,zB,zC,zD,zE,zF,reduceCtorEq]
      refine gif (fun hb6_13 => ?_) (fun hb6_13 => ?_)
      ·simp only [ltb,hwi,hx,hy,get_encFds,encFd_eq,tyCells,encTys_map,List.length_map,length_encFds,go_sem,reduceIte,zA,zB,zC,zD,zE,zF,reduceCtorEq]
       exact hK _ ⟨_, rfl⟩
      ·simp only [ltb,hwi,hx,hy,get_encFds,encFd_eq,tyCells,encTys_map,List.length_map,length_encFds,go_sem,reduceIte,zA,zB,zC,zD,zE,zF,reduceCtorEq]
       refine gif (fun hb6_28 => ?_) (fun hb6_28 => ?_)
       ·simp only [ltb,hwi,hx,hy,get_encFds,encFd_eq,tyCells,encTys_map,List.length_map,length_encFds,go_sem,reduceIte,zA,zB,zC,zD,zE,zF,reduceCtorEq]
        exact hK _ ⟨_, rfl⟩
       ·simp only [ltb,hwi,hx,hy,get_encFds,encFd_eq,tyCells,encTys_map,List.length_map,length_encFds,go_sem,reduceIte,zA,zB,zC,zD,zE,zF,reduceCtorEq]
        refine cG (by have h := ih x.ty y.ty (by have h1 := Ty.wt_fld (List.mem_of_getElem? hx); omega); simp only [encTy_eq,tyCells,encTys_map] at h; exact h) ?_
        rintro _ ⟨b, rfl⟩
        simp only [ltb,hwi,hx,hy,get_encFds,encFd_eq,tyCells,encTys_map,List.length_map,length_encFds,go_sem,reduceIte,zA,zB,zC,zD,zE,zF,reduceCtorEq]
        refine gif (fun hc84 => ?_) (fun hc84 => ?_)
        ·simp only [ltb,hwi,hx,hy,get_encFds,encFd_eq,tyCells,encTys_map,List.length_map,length_encFds,go_sem,reduceIte,zA,zB,zC,zD,zE,zF,reduceCtorEq]
         exact hK _ ⟨_, rfl⟩
        ·simp only [ltb,hwi,hx,hy,get_encFds,encFd_eq,tyCells,encTys_map,List.length_map,length_encFds,go_sem,reduceIte,zA,zB,zC,zD,zE,zF,reduceCtorEq]
         refine hZ1 _ (endK (by omega) (by simp only [ltb,hwi,hx,hy,get_encFds,encFd_eq,tyCells,encTys_map,List.length_map,length_encFds,go_sem,reduceIte,zA,zB,zC,zD,zE,zF,reduceCtorEq]) ?_ ?_) <;> simp only [lks,lk,reduceIte,zE]
         ·exact ⟨i + 1, rfl, hlti⟩
         ·simp only [Go.Eng.intOf,List.headD_cons]; omega
     ·have hgei : i = t.flds.length := by have := of_decide_eq_false hc38; omega
      simp only [List.length_map,length_encFds,go_sem,reduceIte,zA,zB,zC,zD,zE,zF,reduceCtorEq]
      refine cF (eqts_ok t.args u.args (by omega) (fun a ha b _ => ih a b (by have h1 := Ty.wt_arg ha; omega))) ?_
      rintro _ ⟨b, rfl⟩
      simp only [List.length_map,length_encFds,go_sem,reduceIte,zA,zB,zC,zD,zE,zF,reduceCtorEq]
      exact hK _ ⟨_, rfl⟩
theorem eqty_ok : ∀ (N : Nat) (t u : Ty), t.wt ≤ N → N ≤ 1048576 → ∃ r_, isB r_ ∧ FnOk Tryz.prog 131 [encTy t, encTy u] r_ := by
 intro N
 induction N with
 | zero => intro t u h; have := t.wt_pos; omega
 | succ N ih => intro t u h hb; exact eqty_step N (fun t u ht => ih t u ht (by omega)) t u h hb
theorem transp_ok (d : Dc) (hw : d.wt ≤ 1048576) : ∃ r_, isB r_ ∧ FnOk Tryz.prog 87 [encDc d] r_ := by
 refine vfn tt_ok [] 15 [.tmp 2] (fn := Tryz.f87) Tryz.func87 rfl Tryz.call87 ⟨rfl, rfl, by simp⟩ fun K hK => ?_
 have hd : 1 + d.lower.wt + d.upper.wt ≤ d.wt := by unfold Dc.wt; omega
 rw [encDc_eq]
 simp only [ltb,dcCells,tyCells,exCells]
 simp only [go_sem,reduceIte,zA,zB,zC,zD,zE,zF,reduceCtorEq]
 refine cF (by have h := eqty_ok 1048576 d.lower d.type (by omega) (Nat.le_refl _); simp only [encTy_eq,tyCells] at h; exact h) ?_
 rintro _ ⟨b, rfl⟩
 simp only [go_sem,reduceIte,zA,zB,zC,zD,zE,zF,reduceCtorEq]
 refine gif (fun hb1_5 => ?_) (fun hb1_5 => ?_)
 ·simp only [go_sem,reduceIte,zA,zB,zC,zD,zE,zF,reduceCtorEq]
  refine cF (by have h := eqty_ok 1048576 d.upper d.type (by omega) (Nat.le_refl _); simp only [encTy_eq,tyCells] at h; exact h) ?_
  rintro _ ⟨b2, rfl⟩
  simp only [go_sem,reduceIte,zA,zB,zC,zD,zE,zF,reduceCtorEq]
  exact hK _ ⟨_, rfl⟩
 ·simp only [go_sem,reduceIte,zA,zB,zC,zD,zE,zF,reduceCtorEq]
  exact hK _ ⟨_, rfl⟩
theorem msize_ok (m : Md) (hw : m.wt ≤ 1048576) : ∃ r_, (fun w => ∃ n : Int, w = num n) r_ ∧ FnOk Tryz.prog 37 [encMd m] r_ := by
 refine vfn tt_ok [] 78 [.tmp 2] (fn := Tryz.f37) Tryz.func37 rfl Tryz.call37 ⟨rfl, rfl, by simp⟩ fun K hK => ?_
 have hi1 := length_le_sum Im.wt Im.wt_pos m.imports
 have hd1 := length_le_sum Dc.wt Dc.wt_pos m.decls
 have hmw : m.wt = 1 + m.path.size + sumBy Im.wt m.imports + sumBy Dc.wt m.decls := rfl
 rw [encMd_eq]
 simp only [mdCells]
 simp only [List.length_map,go_sem,reduceIte,zA,zB,zC,zD,zE,zF,reduceCtorEq]
 refine xloopL tt_ok [] [4,3] 1 [1,2] (fun vs => ((m.decls.length : Int) - Go.Eng.intOf (vs.headD .undef)).toNat) (fun vs => ∃ (i : Nat) (n : Int), vs = [num i, num n] ∧ i ≤ m.decls.length) (by omega) (by simp only [List.length_map,go_sem,reduceIte,zA,zB,zC,zD,zE,zF,reduceCtorEq]) (⟨0, _, rfl, Nat.zero_le _⟩) fun vs hI Z1 hZ1 => ?_
 obtain ⟨i, n, rfl, hi⟩ := hI
 simp only [List.length_map,go_sem,reduceIte,zA,zB,zC,zD,zE,zF,reduceCtorEq]
 refine gif (fun hc15 => ?_) (fun hc15 => ?_)
 ·have hlti : i < m.decls.length := by simpa using hc15
  have hwi := i64_succ i (by omega)
  obtain ⟨d, hx⟩ : ∃ d, m.decls[i]? = some d := ⟨_, List.getElem?_eq_getElem hlti⟩
  have hdm := mem_sum Dc.wt (List.mem_of_getElem? hx)
  have hd : 1 + d.lower.wt + d.upper.wt + d.type.wt + d.expr.wt + sumBy Pm.wt d.params ≤ d.wt := by unfold Dc.wt; omega
  have hpl := length_le_sum Pm.wt Pm.wt_pos d.params
  simp only [hwi,hx,List.getElem?_map,encDc_eq,dcCells,tyCells,exCells,List.cons_append,List.nil_append,List.length_map,go_sem,reduceIte,zA,zB,zC,zD,zE,zF,reduceCtorEq]
  refine gif (fun hc31 => ?_) (fun hc31 => ?_)
  ·simp only [hwi,hx,List.getElem?_map,encDc_eq,dcCells,tyCells,exCells,List.cons_append,List.nil_append,List.length_map,go_sem,reduceIte,zA,zB,zC,zD,zE,zF,reduceCtorEq]
   refine xloopL tt_ok [] [6,3] 2 [1,2,4,5,11,12,13,14,15,18,19,20,21,22,23,24,25,26,27,28,29,30,31] (fun vs => ((d.params.length : Int) - Go.Eng.intOf (vs.headD .undef)).toNat) (fun vs => ∃ (j : Nat) (n : Int), vs = [num j, num n] ∧ j ≤ d.params.length) (by omega) (by simp only [hwi,hx,List.getElem?_map,encDc_eq,dcCells,tyCells,exCells,List.cons_append,List.nil_append,List.length_map,go_sem,reduceIte,zA,zB,zC,zD,zE,zF,reduceCtorEq]) (⟨0, _, rfl, Nat.zero_le _⟩) fun vs hI Z2 hZ2 => ?_
   obtain ⟨j, n2, rfl, hj⟩ := hI
   simp only [hwi,hx,List.getElem?_map,encDc_eq,dcCells,tyCells,exCells,List.cons_append,List.nil_append,List.length_map,go_sem,reduceIte,zA,zB,zC,zD,zE,zF,reduceCtorEq]
   refine gif (fun hc36 => ?_) (fun hc36 => ?_)
   ·have hltj : j < d.params.length := by simpa using hc36
    have hwj := i64_succ j (by omega)
    obtain ⟨p, hp⟩ : ∃ p, d.params[j]? = some p := ⟨_, List.getElem?_eq_getElem hltj⟩
    simp only [hwi,hx,List.getElem?_map,encDc_eq,dcCells,tyCells,exCells,List.cons_append,List.nil_append,hwj,hp,encPm,List.length_map,go_sem,reduceIte,zA,zB,zC,zD,zE,zF,reduceCtorEq]
    refine cF (by have h := tsize_ok 1048576 p.bound (by have h1 := (p.bound).size_le_wt; have h2 := pm_le hp; omega) (Nat.le_refl _); simp only [encTy_eq,tyCells] at h; exact h) ?_
    rintro _ rfl
    simp only [hwi,hx,List.getElem?_map,encDc_eq,dcCells,tyCells,exCells,List.cons_append,List.nil_append,hwj,hp,encPm,List.length_map,go_sem,reduceIte,zA,zB,zC,zD,zE,zF,reduceCtorEq]
    refine hZ2 _ (endK (by omega) (by simp only [hwi,hx,List.getElem?_map,encDc_eq,dcCells,tyCells,exCells,List.cons_append,List.nil_append,hwj,hp,encPm,List.length_map,go_sem,reduceIte,zA,zB,zC,zD,zE,zF,reduceCtorEq]) ?_ ?_) <;> simp only [lks,lk,reduceIte,zE]
    ·exact ⟨j + 1, _, rfl, hltj⟩
    ·simp only [Go.Eng.intOf,List.headD_cons]; omega
   ·have hgej : j = d.params.length := by have := of_decide_eq_false hc36; omega
    simp only [hwi,hx,List.getElem?_map,encDc_eq,dcCells,tyCells,exCells,List.cons_append,List.nil_append,List.length_map,go_sem,reduceIte,zA,zB,zC,zD,zE,zF,reduceCtorEq]
    refine xmixL tt_ok mixed_ok [⟨.n, 0, [], [], []⟩, ⟨.n, 0, [], [], []⟩, ⟨.r, 0, [], [], []⟩, ⟨.n, 0, [], [], []⟩, ⟨.n, 0, [], [], []⟩, ⟨.n, 0, [], [], []⟩, ⟨.r, 0, [], [], []⟩, ⟨.n, 0, [], [], []⟩, ⟨.n, 0, [], [], []⟩, ⟨.n, 0, [], [], []⟩] 0 (by kernel_rfl) ?_
    simp only [hwi,hx,List.getElem?_map,encDc_eq,dcCells,tyCells,exCells,List.cons_append,List.nil_append,List.length_map,go_sem,reduceIte,zA,zB,zC,zD,zE,zF,reduceCtorEq]
    refine cG (by have h := tsize_ok 1048576 d.type (by have h1 := (d.type).size_le_wt; have h2 := hd; omega) (Nat.le_refl _); simp only [encTy_eq,tyCells] at h; exact h) ?_
    rintro _ rfl
    simp only [hwi,hx,List.getElem?_map,encDc_eq,dcCells,tyCells,exCells,List.cons_append,List.nil_append,List.length_map,go_sem,reduceIte,zA,zB,zC,zD,zE,zF,reduceCtorEq]
    refine cG (by have h := esize_ok 1048576 d.expr (by omega) (Nat.le_refl _); rw [encEx_eq] at h; simp only [exCells] at h; exact h) ?_
    rintro _ ⟨m2, rfl⟩
    simp only [hwi,hx,List.getElem?_map,encDc_eq,dcCells,tyCells,exCells,List.cons_append,List.nil_append,List.length_map,go_sem,reduceIte,zA,zB,zC,zD,zE,zF,reduceCtorEq]
    refine gif (fun hc59 => ?_) (fun hc59 => ?_)
    ·simp only [hwi,hx,List.getElem?_map,encDc_eq,dcCells,tyCells,exCells,List.cons_append,List.nil_append,List.length_map,go_sem,reduceIte,zA,zB,zC,zD,zE,zF,reduceCtorEq]
     refine cF (by have h := tsize_ok 1048576 d.type (by have h1 := (d.type).size_le_wt; have h2 := hd; omega) (Nat.le_refl _); simp only [encTy_eq,tyCells] at h; exact h) ?_
     rintro _ rfl
     simp only [hwi,hx,List.getElem?_map,encDc_eq,dcCells,tyCells,exCells,List.cons_append,List.nil_append,List.length_map,go_sem,reduceIte,zA,zB,zC,zD,zE,zF,reduceCtorEq]
     refine cF (by have h := transp_ok d (by omega); rw [encDc_eq] at h; simp only [ltb,dcCells,tyCells,exCells] at h; exact h) ?_
     rintro _ ⟨b, rfl⟩
     simp only [hwi,hx,List.getElem?_map,encDc_eq,dcCells,tyCells,exCells,List.cons_append,List.nil_append,List.length_map,go_sem,reduceIte,zA,zB,zC,zD,zE,zF,reduceCtorEq]
     refine gif (fun hc67 => ?_) (fun hc67 => ?_)
     ·simp only [hwi,hx,List.getElem?_map,encDc_eq,dcCells,tyCells,exCells,List.cons_append,List.nil_append,List.length_map,go_sem,reduceIte,zA,zB,zC,zD,zE,zF,reduceCtorEq]
      refine xmixL tt_ok mixed_ok [⟨.n, 0, [], [], []⟩, ⟨.n, 0, [], [], []⟩, ⟨.r, 0, [], [], []⟩, ⟨.n, 0, [], [], []⟩, ⟨.n, 0, [], [], []⟩, ⟨.n, 0, [], [], []⟩, ⟨.r, 0, [], [], []⟩, ⟨.n, 0, [], [], []⟩, ⟨.n, 0, [], [], []⟩, ⟨.n, 0, [], [], []⟩] 0 (by kernel_rfl) ?_
      simp only [hwi,hx,List.getElem?_map,encDc_eq,dcCells,tyCells,exCells,List.cons_append,List.nil_append,List.length_map,go_sem,reduceIte,zA,zB,zC,zD,zE,zF,reduceCtorEq]
      refine cG (by have h := tsize_ok 1048576 d.lower (by have h1 := (d.lower).size_le_wt; have h2 := hd; omega) (Nat.le_refl _); simp only [encTy_eq,tyCells] at h; exact h) ?_
      rintro _ rfl
      simp only [hwi,hx,List.getElem?_map,encDc_eq,dcCells,tyCells,exCells,List.cons_append,List.nil_append,List.length_map,go_sem,reduceIte,zA,zB,zC,zD,zE,zF,reduceCtorEq]
      refine cG (by have h := tsize_ok 1048576 d.upper (by have h1 := (d.upper).size_le_wt; have h2 := hd; omega) (Nat.le_refl _); simp only [encTy_eq,tyCells] at h; exact h) ?_
      rintro _ rfl
      simp only [hwi,hx,List.getElem?_map,encDc_eq,dcCells,tyCells,exCells,List.cons_append,List.nil_append,List.length_map,go_sem,reduceIte,zA,zB,zC,zD,zE,zF,reduceCtorEq]
      refine hZ1 _ (endK (by omega) (by simp only [hwi,hx,List.getElem?_map,encDc_eq,dcCells,tyCells,exCells,List.cons_append,List.nil_append,List.length_map,go_sem,reduceIte,zA,zB,zC,zD,zE,zF,reduceCtorEq]) ?_ ?_) <;> simp only [lks,lk,reduceIte,zE]
      ·exact ⟨i + 1, _, rfl, hlti⟩
      ·simp only [Go.Eng.intOf,List.headD_cons]; omega
     ·simp only [hwi,hx,List.getElem?_map,encDc_eq,dcCells,tyCells,exCells,List.cons_append,List.nil_append,List.length_map,go_sem,reduceIte,zA,zB,zC,zD,zE,zF,reduceCtorEq]
      refine hZ1 _ (endK (by omega) (by simp only [hwi,hx,List.getElem?_map,encDc_eq,dcCells,tyCells,exCells,List.cons_append,List.nil_append,List.length_map,go_sem,reduceIte,zA,zB,zC,zD,zE,zF,reduceCtorEq]) ?_ ?_) <;> simp only [lks,lk,reduceIte,zE]
      ·exact ⟨i + 1, _, rfl, hlti⟩
      ·simp only [Go.Eng.intOf,List.headD_cons]; omega
    ·simp only [hwi,hx,List.getElem?_map,encDc_eq,dcCells,tyCells,exCells,List.cons_append,List.nil_append,List.length_map,go_sem,reduceIte,zA,zB,zC,zD,zE,zF,reduceCtorEq]
     refine hZ1 _ (endK (by omega) (by simp only [hwi,hx,List.getElem?_map,encDc_eq,dcCells,tyCells,exCells,List.cons_append,List.nil_append,List.length_map,go_sem,reduceIte,zA,zB,zC,zD,zE,zF,reduceCtorEq]) ?_ ?_) <;> simp only [lks,lk,reduceIte,zE]
     ·exact ⟨i + 1, _, rfl, hlti⟩
     ·simp only [Go.Eng.intOf,List.headD_cons]; omega
  ·simp only [hwi,hx,List.getElem?_map,encDc_eq,dcCells,tyCells,exCells,List.cons_append,List.nil_append,List.length_map,go_sem,reduceIte,zA,zB,zC,zD,zE,zF,reduceCtorEq]
   refine gif (fun hc59 => ?_) (fun hc59 => ?_)
   ·simp only [hwi,hx,List.getElem?_map,encDc_eq,dcCells,tyCells,exCells,List.cons_append,List.nil_append,List.length_map,go_sem,reduceIte,zA,zB,zC,zD,zE,zF,reduceCtorEq]
    refine cF (by have h := tsize_ok 1048576 d.type (by have h1 := (d.type).size_le_wt; have h2 := hd; omega) (Nat.le_refl _); simp only [encTy_eq,tyCells] at h; exact h) ?_
    rintro _ rfl
    simp only [hwi,hx,List.getElem?_map,encDc_eq,dcCells,tyCells,exCells,List.cons_append,List.nil_append,List.length_map,go_sem,reduceIte,zA,zB,zC,zD,zE,zF,reduceCtorEq]
    refine cF (by have h := transp_ok d (by omega); rw [encDc_eq] at h; simp only [ltb,dcCells,tyCells,exCells] at h; exact h) ?_
    rintro _ ⟨b, rfl⟩
    simp only [hwi,hx,List.getElem?_map,encDc_eq,dcCells,tyCells,exCells,List.cons_append,List.nil_append,List.length_map,go_sem,reduceIte,zA,zB,zC,zD,zE,zF,reduceCtorEq]
    refine gif (fun hc67 => ?_) (fun hc67 => ?_)
    ·simp only [hwi,hx,List.getElem?_map,encDc_eq,dcCells,tyCells,exCells,List.cons_append,List.nil_append,List.length_map,go_sem,reduceIte,zA,zB,zC,zD,zE,zF,reduceCtorEq]
     refine xmixL tt_ok mixed_ok [⟨.n, 0, [], [], []⟩, ⟨.n, 0, [], [], []⟩, ⟨.r, 0, [], [], []⟩, ⟨.n, 0, [], [], []⟩, ⟨.n, 0, [], [], []⟩, ⟨.n, 0, [], [], []⟩, ⟨.r, 0, [], [], []⟩, ⟨.n, 0, [], [], []⟩, ⟨.n, 0, [], [], []⟩, ⟨.n, 0, [], [], []⟩] 0 (by kernel_rfl) ?_
     simp only [hwi,hx,List.getElem?_map,encDc_eq,dcCells,tyCells,exCells,List.cons_append,List.nil_append,List.length_map,go_sem,reduceIte,zA,zB,zC,zD,zE,zF,reduceCtorEq]
     refine cG (by have h := tsize_ok 1048576 d.lower (by have h1 := (d.lower).size_le_wt; have h2 := hd; omega) (Nat.le_refl _); simp only [encTy_eq,tyCells] at h; exact h) ?_
     rintro _ rfl
     simp only [hwi,hx,List.getElem?_map,encDc_eq,dcCells,tyCells,exCells,List.cons_append,List.nil_append,List.length_map,go_sem,reduceIte,zA,zB,zC,zD,zE,zF,reduceCtorEq]
     refine cG (by have h := tsize_ok 1048576 d.upper (by have h1 := (d.upper).size_le_wt; have h2 := hd; omega) (Nat.le_refl _); simp only [encTy_eq,tyCells] at h; exact h) ?_
     rintro _ rfl
     simp only [hwi,hx,List.getElem?_map,encDc_eq,dcCells,tyCells,exCells,List.cons_append,List.nil_append,List.length_map,go_sem,reduceIte,zA,zB,zC,zD,zE,zF,reduceCtorEq]
     refine hZ1 _ (endK (by omega) (by simp only [hwi,hx,List.getElem?_map,encDc_eq,dcCells,tyCells,exCells,List.cons_append,List.nil_append,List.length_map,go_sem,reduceIte,zA,zB,zC,zD,zE,zF,reduceCtorEq]) ?_ ?_) <;> simp only [lks,lk,reduceIte,zE]
     ·exact ⟨i + 1, _, rfl, hlti⟩
     ·simp only [Go.Eng.intOf,List.headD_cons]; omega
    ·simp only [hwi,hx,List.getElem?_map,encDc_eq,dcCells,tyCells,exCells,List.cons_append,List.nil_append,List.length_map,go_sem,reduceIte,zA,zB,zC,zD,zE,zF,reduceCtorEq]
     refine hZ1 _ (endK (by omega) (by simp only [hwi,hx,List.getElem?_map,encDc_eq,dcCells,tyCells,exCells,List.cons_append,List.nil_append,List.length_map,go_sem,reduceIte,zA,zB,zC,zD,zE,zF,reduceCtorEq]) ?_ ?_) <;> simp only [lks,lk,reduceIte,zE]
     ·exact ⟨i + 1, _, rfl, hlti⟩
     ·simp only [Go.Eng.intOf,List.headD_cons]; omega
   ·simp only [hwi,hx,List.getElem?_map,encDc_eq,dcCells,tyCells,exCells,List.cons_append,List.nil_append,List.length_map,go_sem,reduceIte,zA,zB,zC,zD,zE,zF,reduceCtorEq]
    refine hZ1 _ (endK (by omega) (by simp only [hwi,hx,List.getElem?_map,encDc_eq,dcCells,tyCells,exCells,List.cons_append,List.nil_append,List.length_map,go_sem,reduceIte,zA,zB,zC,zD,zE,zF,reduceCtorEq]) ?_ ?_) <;> simp only [lks,lk,reduceIte,zE]
    ·exact ⟨i + 1, _, rfl, hlti⟩
    ·simp only [Go.Eng.intOf,List.headD_cons]; omega
 ·have hgei : i = m.decls.length := by have := of_decide_eq_false hc15; omega
  simp only [List.length_map,go_sem,reduceIte,zA,zB,zC,zD,zE,zF,reduceCtorEq]
  exact hK _ ⟨_, rfl⟩
theorem small_ok (p : List Md) (hl : p.length ≤ 1048576) (hw : ∀ m ∈ p, m.wt ≤ 1048576) : ∃ r_, isB r_ ∧ FnOk Tryz.prog 9 [.slice (p.map encMd)] r_ := by
 refine vfn tt_ok [] 25 [.tmp 2] (fn := Tryz.f9) Tryz.func9 rfl Tryz.call9 ⟨rfl, rfl, by simp⟩ fun K hK => ?_
 simp only [List.length_map,go_sem,reduceIte,zA,zB,zC,zD,zE,zF,reduceCtorEq]
 refine xloopL tt_ok [] [4,3] 0 [0,2] (fun vs => ((p.length : Int) - Go.Eng.intOf (vs.headD .undef)).toNat) (fun vs => ∃ (i : Nat) (n : Int), vs = [num i, num n] ∧ i ≤ p.length) (by omega) (by simp only [List.length_map,go_sem,reduceIte,zA,zB,zC,zD,zE,zF,reduceCtorEq]) (⟨0, _, rfl, Nat.zero_le _⟩) fun vs hI Z1 hZ1 => ?_
 obtain ⟨i, n, rfl, hi⟩ := hI
 simp only [List.length_map,go_sem,reduceIte,zA,zB,zC,zD,zE,zF,reduceCtorEq]
 refine gif (fun hc8 => ?_) (fun hc8 => ?_)
 ·have hlti : i < p.length := by simpa using hc8
  have hwi := i64_succ i (by omega)
  obtain ⟨m, hx⟩ : ∃ m, p[i]? = some m := ⟨_, List.getElem?_eq_getElem hlti⟩
  simp only [hwi,hx,List.getElem?_map,encMd_eq,mdCells,List.length_map,go_sem,reduceIte,zA,zB,zC,zD,zE,zF,reduceCtorEq]
  refine cF (by have h := msize_ok m (hw m (List.mem_of_getElem? hx)); rw [encMd_eq] at h; simp only [mdCells] at h; exact h) ?_
  rintro _ ⟨n2, rfl⟩
  simp only [hwi,hx,List.getElem?_map,encMd_eq,mdCells,List.length_map,go_sem,reduceIte,zA,zB,zC,zD,zE,zF,reduceCtorEq]
  refine hZ1 _ (endK (by omega) (by simp only [hwi,hx,List.getElem?_map,encMd_eq,mdCells,List.length_map,go_sem,reduceIte,zA,zB,zC,zD,zE,zF,reduceCtorEq]) ?_ ?_) <;> simp only [lks,lk,reduceIte,zE]
  ·exact ⟨i + 1, _, rfl, hlti⟩
  ·simp only [Go.Eng.intOf,List.headD_cons]; omega
 ·have hgei : i = p.length := by have := of_decide_eq_false hc8; omega
  simp only [List.length_map,go_sem,reduceIte,zA,zB,zC,zD,zE,zF,reduceCtorEq]
  refine gif (fun hb6_3 => ?_) (fun hb6_3 => ?_)
  ·simp only [List.length_map,go_sem,reduceIte,zA,zB,zC,zD,zE,zF,reduceCtorEq]
   exact hK _ ⟨_, rfl⟩
  ·simp only [List.length_map,go_sem,reduceIte,zA,zB,zC,zD,zE,zF,reduceCtorEq]
   exact hK _ ⟨_, rfl⟩
end Go.Proofs.YtefbaladomfccaaGreatDoor
end

section
namespace Go.Proofs.YtefbaladomfccaaGreatDoor
open Go.Eng
open Nat renaming reduceAdd → zA, reduceLT → zB, reduceLeDiff → zC, reduceMul → zD, reduceEqDiff → zE, reduceSub → zF
variable [Glob]
set_option maxHeartbeats 4000000
set_option maxRecDepth 100000
def linN (s : ByteArray) : ByteArray := if majOk s = true then s.extract 0 (Lib.lastIndexByte s 47).toNat else ⟨#[]⟩
theorem lineN_ok (hG : Glob.g = some 0) (s : ByteArray) (hs : s.size ≤ 1048576) : ∃ r_, (fun w => w = .tup [str (linN s), num (majN s), num (majE s)]) r_ ∧ FnOk Tryz.prog 71 [str s] r_ := by
 refine vfn tt_ok [] 24 [.tmp 2, .tmp 3, .tmp 4] (fn := Tryz.f71) Tryz.func71 rfl Tryz.call71 ⟨rfl, rfl, by simp⟩ fun K hK => ?_
 have hT9 : Tryz.prog.underlying 9 = some .string := by kernel_rfl
 have sl : ∀ (a : ByteArray) (ty : TypeId), liftL Tryz.prog (Builtin.len_ #[9] ty) [.sc (.string a)] = some (num a.size) := fun a ty => ev_slen (P := Tryz.prog) (tt := tt) (T := 9) a hT9 ty
 simp only [sl,go_sem,reduceIte,zA,zB,zC,zD,zE,zF,reduceCtorEq]
 refine cF (major_ok hG s hs) ?_
 rintro _ rfl
 simp only [sl,go_sem,reduceIte,zA,zB,zC,zD,zE,zF,reduceCtorEq]
 refine cF (isPath_ok hG s hs) ?_
 rintro _ rfl
 simp only [sl,go_sem,reduceIte,zA,zB,zC,zD,zE,zF,reduceCtorEq]
 refine gif (fun hb2_3 => ?_) (fun hb2_3 => ?_)
 ·have hno : majOk s = false := by simp_all [majE]
  have e1 : majN s = 0 := by unfold majN; rw [hno]; rfl
  have e2 : majE s = 4 := by unfold majE; rw [hno]; rfl
  have hres : V.tup [str (linN s), num (majN s), num (majE s)] = .tup [str ⟨#[]⟩, num 0, num 4] := by unfold linN; rw [e1, e2, hno]; rfl
  simp only [sl,go_sem,reduceIte,zA,zB,zC,zD,zE,zF,reduceCtorEq]
  exact hK _ (by rw [hres] <;> rfl)
 ·simp only [sl,go_sem,reduceIte,zA,zB,zC,zD,zE,zF,reduceCtorEq]
  refine gif (fun hc18 => ?_) (fun hc18 => ?_)
  ·have hno : majOk s = false := by simp_all [majE]
   have e1 : majN s = 0 := by unfold majN; rw [hno]; rfl
   have e2 : majE s = 4 := by unfold majE; rw [hno]; rfl
   have hres : V.tup [str (linN s), num (majN s), num (majE s)] = .tup [str ⟨#[]⟩, num 0, num 4] := by unfold linN; rw [e1, e2, hno]; rfl
   simp only [sl,go_sem,reduceIte,zA,zB,zC,zD,zE,zF,reduceCtorEq]
   exact hK _ (by rw [hres] <;> rfl)
  ·have hok : majOk s = true := by cases h : majOk s <;> simp_all [majE]
   obtain ⟨hx0, hx1⟩ := slash_of hok
   have hcm : lift2 Tryz.prog (fun a h => Instr.sliceAt 9 a none (some h) none) (.sc (.string s)) (.sc (.int .i64 (Lib.lastIndexByte s 47))) = some (.sc (.string (s.extract 0 (Lib.lastIndexByte s 47).toNat))) := ev_cutto (P := Tryz.prog) (tt := tt) (mem := []) (T := 9) s hT9 .i64 (Lib.lastIndexByte s 47) hx0 hx1
   have e2 : majE s = 0 := by unfold majE; rw [hok]; rfl
   have hres : V.tup [str (linN s), num (majN s), num (majE s)] = .tup [str (s.extract 0 (Lib.lastIndexByte s 47).toNat), num (majN s), num 0] := by unfold linN; rw [e2, hok]; rfl
   simp only [hcm,sl,go_sem,reduceIte,zA,zB,zC,zD,zE,zF,reduceCtorEq]
   refine cF (⟨_, rfl, lastIx_ok hG s (by omega)⟩) ?_
   rintro _ rfl
   simp only [hcm,sl,go_sem,reduceIte,zA,zB,zC,zD,zE,zF,reduceCtorEq]
   exact hK _ (by rw [hres] <;> rfl)
end Go.Proofs.YtefbaladomfccaaGreatDoor
end
