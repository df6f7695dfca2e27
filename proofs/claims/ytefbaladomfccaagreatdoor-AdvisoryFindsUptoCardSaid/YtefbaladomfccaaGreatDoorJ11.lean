/-
  CONTRACTS: slices.Compact at uses; equal neighbours left out.
  CONTRACTS: slices.Reverse at uses, on live rows.
  CONTRACTS: the declarations of a program, by their modules and names.
  CONTRACTS: where a name leads, by the program.
  CONTRACTS: the values that an expression uses, by the program: the iterator with its recursive closure, and Collect.
  CONTRACTS: a range over the values that an expression uses; AppendSeq, Collect.
  CONTRACTS: where a name leads, by the reference.
  CONTRACTS: InsertUse, by the reference.
  CONTRACTS: the values that a value uses, by the reference.
  CONTRACTS: the values that a value uses directly, by the program.
  CONTRACTS: the shortest chain, by the program.
  CONTRACTS: Uses, by the program; equality of lists of uses.
  CONTRACTS: Findings, by the program.
  CONTRACTS: the error of an advisory, by the program.
  PLAIN: a search by breadth with sorted neighbours finds the least way: the shortest one, and the first of these.
  CONTRACTS: the chain is the least one, by the program.
-/
import Derived.Test.YtefbaladomfccaaGreatDoorJ10
set_option linter.all false
section
namespace Go.Proofs.YtefbaladomfccaaGreatDoor
open Go.Eng
open Nat renaming reduceAdd → zA, reduceLT → zB, reduceLeDiff → zC, reduceMul → zD, reduceEqDiff → zE, reduceSub → zF
section
variable {α : Type} [DecidableEq α]
def BT (p : α) : List α → List α
 | [] => []
 | y :: r => if y = p then BT p r else y :: BT y r
def dd : List α → List α
 | [] => []
 | x :: r => x :: BT x r
theorem ta (z : α) : ∀ (r : List α) (p : α), BT p (r ++ [z]) = BT p r ++ (if z = r.getLast?.getD p then [] else [z])
 | [], p => by
  simp only [List.nil_append,BT,List.getLast?_nil,Option.getD_none]
  rfl
 | y :: r, p => by
  have e1 : (y :: r).getLast?.getD p = r.getLast?.getD y := by rw [List.getLast?_cons]; rfl
  rw [e1, List.cons_append]
  unfold BT
  by_cases h : y = p
  ·rw [if_pos h, if_pos h, ta z r p, h]
  ·rw [if_neg h, if_neg h, ta z r y]; rfl
theorem Le {l : List α} (z y : α) (h : l.getLast? = some y) : dd (l ++ [z]) = dd l ++ (if z = y then [] else [z]) := by
 cases l with
 | nil => simp at h
 | cons x r =>
  have e1 : r.getLast?.getD x = y := by rw [List.getLast?_cons] at h; exact Option.some.inj h
  show x :: BT x (r ++ [z]) = (x :: BT x r) ++ _
  rw [ta, e1]; rfl
theorem getLast_take {l : List α} {i : Nat} {y : α} (h : l[i]? = some y) : (l.take (i + 1)).getLast? = some y := by
 rw [List.take_add_one, h]; simp
theorem Dy {l : List α} {i : Nat} {x y : α} (hx : l[i + 1]? = some x) (hy : l[i]? = some y) : dd (l.take (i + 2)) = dd (l.take (i + 1)) ++ (if x = y then [] else [x]) := by
 rw [List.take_add_one (i := i + 1), hx]
 exact Le x y (getLast_take hy)
theorem w9 (x : α) : ∀ (r : List α) (p : α), x = p ∨ x ∈ BT p r ↔ x = p ∨ x ∈ r
 | [], p => by simp [BT]
 | y :: r, p => by
  unfold BT
  split
  ·rename_i h; subst h
   rw [w9 x r y, List.mem_cons]
   constructor
   ·rintro (h | h)
    ·exact .inl h
    ·exact .inr (.inr h)
   ·rintro (h | h | h)
    ·exact .inl h
    ·exact .inl h
    ·exact .inr h
  ·rw [List.mem_cons, w9 x r y, List.mem_cons]
theorem Pu (x : α) (l : List α) : x ∈ dd l ↔ x ∈ l := by
 cases l with
 | nil => exact Iff.rfl
 | cons y r => rw [dd, List.mem_cons, w9, List.mem_cons]
theorem xd {lt : α → α → Bool} (hl : Ap lt) : ∀ (r : List α) (p : α), (∀ x ∈ r, lt x p = false) → (r.Pairwise fun x y => lt y x = false) → zd lt (p :: BT p r)
 | [], p, _, _ => by simp [BT, zd]
 | y :: r, p, h1, h2 => by
  rw [List.pairwise_cons] at h2
  unfold BT
  split
  ·rename_i h; subst h
   exact xd hl r y (fun x hx => h2.1 x hx) h2.2
  ·rename_i h
   have h3 := xd hl r y h2.1 h2.2
   have h4 : lt p y = true := by
    cases h5 : lt p y with
    | true => rfl
    | false => exact absurd (hl.Mq _ _ (h1 y (List.mem_cons_self ..)) h5) h
   refine List.pairwise_cons.2 ⟨fun x hx => ?_, h3⟩
   rcases List.mem_cons.1 hx with rfl | hx
   ·exact h4
   ·exact hl.trans _ _ _ h4 ((List.pairwise_cons.1 h3).1 x hx)
theorem Pv {lt : α → α → Bool} (hl : Ap lt) {l : List α} (h : ∀ (i j : Nat) (x y : α), i < j → l[i]? = some x → l[j]? = some y → lt y x = false) : zd lt (dd l) := by
 have h1 : l.Pairwise fun x y => lt y x = false := List.pairwise_iff_getElem.2 fun i j hi hj qW => h i j _ _ qW (List.getElem?_eq_getElem hi) (List.getElem?_eq_getElem hj)
 cases l with
 | nil => exact List.Pairwise.nil
 | cons x r => rw [List.pairwise_cons] at h1; exact xd hl r x h1.1 h1.2
end
end Go.Proofs.YtefbaladomfccaaGreatDoor
namespace Go.Proofs.YtefbaladomfccaaGreatDoor
open Go.Eng
open Nat renaming reduceAdd → zA, reduceLT → zB, reduceLeDiff → zC, reduceMul → zD, reduceEqDiff → zE, reduceSub → zF
variable [aK]
set_option maxHeartbeats 4000000
set_option maxRecDepth 100000
attribute [local irreducible] runM dV q5 bI fZ Mr Ms
theorem tb {mem : List aC} {b v s n size : Nat} (i : Nat) (h : dU mem b v = some size) (hi : i ≤ n) : cutAt mem size (i : Int) none (.ms b v s n) = some (.ms b v (s + i) (n - i)) := by
 unfold cutAt
 dsimp only
 rw [if_pos ⟨Int.natCast_nonneg _, by simpa using hi, by simp, h⟩]
 simp only [Option.getD_none,Int.toNat_natCast]
 congr 2
 omega
theorem Ic {mem : List aC} {b v s n size : Nat} (i : Nat) (h : dU mem b v = some size) (hi : i ≤ n) : cutAt mem size 0 (some (i : Int)) (.ms b v s n) = some (.ms b v s i) := by
 unfold cutAt
 dsimp only
 rw [if_pos ⟨Int.le_refl _, by simp, by simpa using hi, h⟩]
 simp
theorem zt (m : List aC) (b v : Nat) (hb : b < m.length) (qE : m.all (aB m.length) = true) (l : List Us) (hl : l.length ≤ 1048576) :
  bF Tryz.prog 128 [.ms b v 0 l.length] (m.set b (.rows v 2 (l.map az))) (.ms b v 0 (dd l).length) (m.set b (.rows v 2 ((dd l).map az))) := by
 have a1 : ∀ X, (m.set b X)[b]? = some X := fun X => by rw [List.getElem?_set]; simp [hb]
 have z1 : ∀ rs, dU (m.set b (.rows v 2 rs)) b v = some 2 := fun rs => by simp [dU, a1]
 have s1 : ∀ X Y, (m.set b X).set b Y = m.set b Y := fun X Y => List.set_set ..
 have ht : ∀ X, (m.set b X).take m.length = m.set b X := fun X => List.take_of_length_le (by simp)
 have fin : ∀ X, aC.held X = true → aB m.length X = true → (m.set b X).all (aB m.length) = true := fun X _ hX => List.all_eq_true.2 fun y hy => by
  rcases List.mem_or_eq_of_mem_set hy with h | h
  ·exact List.all_eq_true.1 qE y h
  ·rw [h]; exact hX
 refine lY tt_ok (fn := Tryz.f128) m.length (by simp) Tryz.func128 rfl Tryz.call128 ?_
 simp only [kd,cE,Tryz.ntmps128,List.length_cons,List.length_nil,zA,zF,List.replicate_succ,List.replicate_zero]
 refine af tt_ok fun K hK => ?_
 simp only [go_sem,reduceIte,zA,zB,zC,zD,zE,zF,reduceCtorEq]
 refine hK _ ?_
 refine bN ?_
 by_cases h2 : l.length < 2
 ·have hd : decide ((l.length : Int) < 2) = true := decide_eq_true (by omega)
  have e0 : dd l = l := by
   match l, h2 with
   | [], _ => rfl
   | [x], _ => rfl
   | x :: y :: r, h => simp at h; omega
  rw [e0]
  refine af tt_ok fun K hK => ?_
  simp only [hd,go_sem,reduceIte,zA,zB,zC,zD,zE,zF,reduceCtorEq]
  refine hK _ ?_
  refine bG rfl ?_
  refine af tt_ok fun K hK => ?_
  simp only [go_sem,reduceIte,zA,zB,zC,zD,zE,zF,reduceCtorEq]
  refine hK _ ?_
  refine fb ⟨.inl rfl, rfl, by simp [ah, hb], ?_, ?_⟩
  ·dsimp only; rw [ht]; exact fin _ rfl rfl
  ·dsimp only; rw [ht]
 ·have hd : decide ((l.length : Int) < 2) = false := decide_eq_false (by omega)
  refine af tt_ok fun K hK => ?_
  simp only [hd,go_sem,reduceIte,zA,zB,zC,zD,zE,zF,reduceCtorEq]
  refine hK _ ?_
  refine bG rfl (cq ?_)
  show dA _ _ _ _ _ _
  refine bN ?_
  refine af tt_ok fun K hK => ?_
  simp only [go_sem,reduceIte,zA,zB,zC,zD,zE,zF,reduceCtorEq]
  refine hK _ ?_
  refine b9 (fY (fun N st => ∃ (i : Nat), N = l.length - i ∧ 1 ≤ i ∧ i ≤ l.length ∧ dd (l.take i) = l.take i ∧
   st = { fr := [.ms b v 0 l.length, .undef, .undef, num i] ++ List.replicate 57 .undef, mem := m.set b (.rows v 2 (l.map az)) }) (l.length - 1) ?_ ?_)
  ·refine ⟨m.length, [true,false,false,true], by simp, ?_, by dsimp only; rw [ht]; exact fin _ rfl rfl, 1, rfl, Nat.le_refl _, by omega, ?_, ?_⟩
   ·simp only [c5,ah,bA,aB,zB,hb,Dg]
   ·match l, h2 with
    | [], h => simp at h
    | x :: r, _ => rfl
   ·dsimp only; rw [ht]; rfl
  ·rintro N' st ⟨i, rfl, oe, hi, U6, rfl⟩
   simp only [kd,List.replicate_succ,List.replicate_zero]
   refine bN ?_
   by_cases aL : i < l.length
   ·have yb := sI aL
    refine af tt_ok fun K hK => ?_
    simp only [yb,go_sem,reduceIte,zA,zB,zC,zD,zE,zF,reduceCtorEq]
    refine hK _ ?_
    refine bG rfl (cq ?_)
    refine bN (b9 ?_)
    obtain ⟨j, rfl⟩ : ∃ j, i = j + 1 := ⟨i - 1, by omega⟩
    obtain ⟨x, hx⟩ : ∃ x : Us, l[j + 1]? = some x := ⟨_, List.getElem?_eq_getElem aL⟩
    obtain ⟨y, hy⟩ : ∃ y, l[j]? = some y := ⟨_, List.getElem?_eq_getElem (by omega)⟩
    have hI : ((j + 1 : Nat) : Int) < (l.length : Int) := by omega
    have hJ : ((j : Nat) : Int) < (l.length : Int) := by omega
    have hw : IntKind.i64.wrap (((j + 1 : Nat) : Int) - 1) = ((j : Nat) : Int) := jo _ j (by omega) (by omega)
    have TA := Dy hx hy
    refine np tt_ok aN [⟨.n, 0, [], [], []⟩, ⟨.n, 0, [], [], []⟩, ⟨.r, 0, [], [], []⟩, ⟨.r, 0, [], [], []⟩, ⟨.n, 0, [], [], []⟩, ⟨.n, 0, [], [], []⟩, ⟨.n, 0, [], [], []⟩, ⟨.r, 0, [], [], []⟩, ⟨.r, 0, [], [], []⟩, ⟨.n, 0, [], [], []⟩] 0 (by kernel_rfl) fun K hK => ?_
    simp only [a1,hI,hJ,hw,List.getElem?_map,hx,hy,az,aX,aZ,go_sem,reduceIte,zA,zB,zC,zD,zE,zF,reduceCtorEq,List.replicate]
    refine hK _ ?_
    cases hq : decide (x = y) with
    | false =>
     have bL : ¬ x = y := of_decide_eq_false hq
     rw [if_neg bL, U6] at TA
     refine bG rfl (cq ?_)
     show dA _ _ _ _ _ _
     have gq := aq (j + 1) (by omega)
     refine bQ tt_ok fun K hK => ?_
     simp only [gq,go_sem,reduceIte,zA,zB,zC,zD,zE,zF,reduceCtorEq]
     refine hK _ ?_
     refine ⟨l.length - (j + 1 + 1), by omega, m.length, [true,false,false,true], by simp, ?_, by dsimp only; rw [ht]; exact fin _ rfl rfl, j + 1 + 1, rfl, by omega, aL, ?_, ?_⟩
     ·simp only [c5,ah,bA,aB,zB,hb,Dg]
     ·rw [TA, List.take_add_one (i := j + 1), hx]; rfl
     ·dsimp only; rw [ht]; rfl
    | true =>
     have he : x = y := of_decide_eq_true hq
     rw [if_pos he, U6, List.append_nil] at TA
     refine bG rfl ?_
     have dP := tb (s := 0) (j + 1) (z1 (l.map az)) hi
     refine af tt_ok fun K hK => ?_
     simp only [dP,go_sem,reduceIte,zA,zB,zC,zD,zE,zF,reduceCtorEq]
     refine hK _ ?_
     refine bN ?_
     refine af tt_ok fun K hK => ?_
     simp only [go_sem,reduceIte,zA,zB,zC,zD,zE,zF,reduceCtorEq]
     refine hK _ ?_
     refine b9 (fY (fun N st => ∃ (q k : Nat), N = l.length - (j + 1) - q ∧ 1 ≤ q ∧ j + 1 + q ≤ l.length ∧ k + 1 ≤ j + 1 + q ∧ (dd (l.take (j + 1 + q))).length = k ∧
      st = { fr := [.ms b v 0 l.length, .undef, .undef, num k, .ms b v (j + 1) (l.length - (j + 1)), num q] ++ List.replicate 55 .undef, mem := m.set b (.rows v 2 ((dd (l.take (j + 1 + q)) ++ l.drop k).map az)) }) (l.length - (j + 1) - 1) ?_ ?_)
     ·refine ⟨m.length, [true,false,false,true,true,true], by simp, ?_, by dsimp only; rw [ht]; exact fin _ rfl rfl, 1, j + 1, rfl, Nat.le_refl _, by omega, by omega, ?_, ?_⟩
      ·simp only [c5,ah,bA,aB,zB,hb,Dg]
      ·rw [TA, List.length_take]; omega
      ·dsimp only; rw [ht, TA, List.take_append_drop]; rfl
     ·rintro N' st ⟨q, k, rfl, hq1, Qq, hkq, BU, rfl⟩
      simp only [kd,List.replicate_succ,List.replicate_zero]
      refine bN ?_
      by_cases TB : q < l.length - (j + 1)
      ·have Xb := sI TB
       refine af tt_ok fun K hK => ?_
       simp only [Xb,go_sem,reduceIte,zA,zB,zC,zD,zE,zF,reduceCtorEq]
       refine hK _ ?_
       refine bG rfl (cq ?_)
       refine bN (b9 ?_)
       obtain ⟨p, rfl⟩ : ∃ p, q = p + 1 := ⟨q - 1, by omega⟩
       obtain ⟨x', vJ⟩ : ∃ x', l[j + 1 + p + 1]? = some x' := ⟨_, List.getElem?_eq_getElem (by omega)⟩
       obtain ⟨y', S9⟩ : ∃ y', l[j + 1 + p]? = some y' := ⟨_, List.getElem?_eq_getElem (by omega)⟩
       obtain ⟨z', Zl⟩ : ∃ z', l[k]? = some z' := ⟨_, List.getElem?_eq_getElem (by omega)⟩
       have E4 := Dy vJ S9
       have g : ∀ t, k ≤ t → (dd (l.take (j + 1 + (p + 1))) ++ l.drop k)[t]? = l[t]? := fun t ht => by
        rw [List.getElem?_append_right (by omega), BU, List.getElem?_drop]
        congr 1; omega
       have gx := (g (j + 1 + (p + 1)) (by omega)).trans vJ
       have gy := (g (j + 1 + p) (by omega)).trans S9
       have gz := (g k (by omega)).trans Zl
       have Zn : ((p + 1 : Nat) : Int) < ((l.length - (j + 1) : Nat) : Int) := by omega
       have hJ' : ((p : Nat) : Int) < ((l.length - (j + 1) : Nat) : Int) := by omega
       have hw' : IntKind.i64.wrap (((p + 1 : Nat) : Int) - 1) = ((p : Nat) : Int) := jo _ p (by omega) (by omega)
       have JI := aq (p + 1) (by omega)
       refine np tt_ok aN [⟨.n, 0, [], [], []⟩, ⟨.n, 0, [], [], []⟩, ⟨.r, 0, [], [], []⟩, ⟨.r, 0, [], [], []⟩, ⟨.n, 0, [], [], []⟩, ⟨.n, 0, [], [], []⟩, ⟨.n, 0, [], [], []⟩, ⟨.r, 0, [], [], []⟩, ⟨.r, 0, [], [], []⟩, ⟨.n, 0, [], [], []⟩] 0 (by kernel_rfl) fun K hK => ?_
       simp only [a1,Zn,hJ',hw',List.getElem?_map,gx,gy,az,aX,aZ,go_sem,reduceIte,zA,zB,zC,zD,zE,zF,reduceCtorEq,List.replicate]
       refine hK _ ?_
       cases D6 : decide (x' = y') with
       | true =>
        have Vr : x' = y' := of_decide_eq_true D6
        rw [if_pos Vr, List.append_nil] at E4
        refine bG rfl (cq ?_)
        show dA _ _ _ _ _ _
        refine bQ tt_ok fun K hK => ?_
        simp only [JI,go_sem,reduceIte,zA,zB,zC,zD,zE,zF,reduceCtorEq]
        refine hK _ ?_
        refine ⟨l.length - (j + 1) - (p + 1 + 1), by omega, m.length, [true,false,false,true,true,true], by simp, ?_, by dsimp only; rw [ht]; exact fin _ rfl rfl, p + 1 + 1, k, rfl, by omega, by omega, by omega, ?_, ?_⟩
        ·simp only [c5,ah,bA,aB,zB,hb,Dg]
        ·exact (congrArg List.length E4).trans BU
        ·have e3 : dd (l.take (j + 1 + (p + 1 + 1))) = dd (l.take (j + 1 + (p + 1))) := E4
         dsimp only; rw [ht, e3]; rfl
       | false =>
        have Ax : ¬ x' = y' := of_decide_eq_false D6
        rw [if_neg Ax] at E4
        refine bG rfl ?_
        have JD : ((k : Nat) : Int) < (l.length : Int) := by omega
        refine af tt_ok fun K hK => ?_
        simp only [a1,s1,Zn,JD,List.getElem?_map,gx,gz,az,go_sem,reduceIte,zA,zB,zC,zD,zE,zF,reduceCtorEq]
        refine hK _ ?_
        have xD := aq k (by omega)
        refine bQ tt_ok fun K hK => ?_
        simp only [xD,go_sem,reduceIte,zA,zB,zC,zD,zE,zF,reduceCtorEq]
        refine hK _ ?_
        show dA _ _ _ _ _ _
        refine bQ tt_ok fun K hK => ?_
        simp only [JI,go_sem,reduceIte,zA,zB,zC,zD,zE,zF,reduceCtorEq]
        refine hK _ ?_
        refine ⟨l.length - (j + 1) - (p + 1 + 1), by omega, m.length, [true,false,false,true,true,true], by simp, ?_, by dsimp only; rw [ht]; exact fin _ rfl rfl, p + 1 + 1, k + 1, rfl, by omega, by omega, by omega, ?_, ?_⟩
        ·simp only [c5,ah,bA,aB,zB,hb,Dg]
        ·refine (congrArg List.length E4).trans ?_
         rw [List.length_append]
         exact congrArg (· + 1) BU
        ·have e3 : dd (l.take (j + 1 + (p + 1 + 1))) = dd (l.take (j + 1 + (p + 1))) ++ [x'] := E4
         have e4 : ((dd (l.take (j + 1 + (p + 1))) ++ l.drop k).map az).set k (az x') = (dd (l.take (j + 1 + (p + 1))) ++ [x'] ++ l.drop (k + 1)).map az := by
          rw [← List.map_set, List.set_append_right _ _ (by omega), BU, Nat.sub_self, List.drop_eq_getElem_cons (by omega : k < l.length), List.set_cons_zero, List.append_assoc]; rfl
         dsimp only; rw [ht, e3, ← e4]; rfl
      ·have Xb := sJ TB
       refine af tt_ok fun K hK => ?_
       simp only [Xb,go_sem,reduceIte,zA,zB,zC,zD,zE,zF,reduceCtorEq]
       refine hK _ ?_
       refine bG rfl (ib ?_)
       obtain rfl : q = l.length - (j + 1) := by omega
       have Zo : j + 1 + (l.length - (j + 1)) = l.length := by omega
       rw [Zo, List.take_length] at BU ⊢
       rw [Zo] at hkq
       show dA _ _ _ _ _ _
       have Jy := tb (s := 0) (n := l.length) k (z1 ((dd l ++ l.drop k).map az)) (by omega)
       have Ao := Ic (s := 0) (n := l.length) k (z1 ((dd l).map az)) (by omega)
       refine ur tt_ok [_, _, _] rfl ?_
       simp only [Jy,go_sem,reduceIte,zA,zB,zC,zD,zE,zF,reduceCtorEq]
       refine ⟨m.set b (.rows v 2 ((dd l).map az)), ?_, ?_⟩
       ·have e5 : ((dd l ++ l.drop k).map az).take k = (dd l).map az := by rw [← List.map_take, List.take_append_of_le_length (by omega), List.take_of_length_le (by omega)]
        simp only [wX,RZ,R1,a1,s1,e5]
        rw [if_pos (by refine ⟨by trivial, by trivial, by trivial, by simp [Value.oneCell'], by omega, by simp; omega⟩)]
       ·refine af tt_ok fun K hK => ?_
        simp only [Ao,go_sem,reduceIte,zA,zB,zC,zD,zE,zF,reduceCtorEq]
        refine hK _ ?_
        rw [BU]
        refine fb ⟨.inl rfl, rfl, by simp [ah, hb], ?_, ?_⟩
        ·dsimp only; rw [ht]; exact fin _ rfl rfl
        ·dsimp only; rw [ht]
   ·have yb := sJ aL
    refine af tt_ok fun K hK => ?_
    simp only [yb,go_sem,reduceIte,zA,zB,zC,zD,zE,zF,reduceCtorEq]
    refine hK _ ?_
    refine bG rfl (ib ?_)
    obtain rfl : i = l.length := by omega
    rw [List.take_length] at U6
    rw [U6]
    show dA _ _ _ _ _ _
    refine af tt_ok fun K hK => ?_
    simp only [go_sem,reduceIte,zA,zB,zC,zD,zE,zF,reduceCtorEq]
    refine hK _ ?_
    refine fb ⟨.inl rfl, rfl, by simp [ah, hb], ?_, ?_⟩
    ·dsimp only; rw [ht]; exact fin _ rfl rfl
    ·dsimp only; rw [ht]
end Go.Proofs.YtefbaladomfccaaGreatDoor
end

section
namespace Go.Proofs.YtefbaladomfccaaGreatDoor
open Go.Eng
open Nat renaming reduceAdd → zA, reduceLT → zB, reduceLeDiff → zC, reduceMul → zD, reduceEqDiff → zE, reduceSub → zF
variable [aK]
set_option maxHeartbeats 4000000
set_option maxRecDepth 100000
def xe (l R : List Us) (i : Nat) : Prop := R.length = l.length ∧ ∀ t, t < l.length → R[t]? = if t < i ∨ l.length ≤ t + i then l[l.length - 1 - t]? else l[t]?
theorem xe.zero (l : List Us) : xe l l 0 := ⟨rfl, fun t ht => by rw [if_neg (by omega)]⟩
theorem xe.step {l R : List Us} {i : Nat} (h : xe l R i) (aL : i < l.length - 1 - i) {x y : Us} (hx : R[i]? = some x) (hy : R[l.length - 1 - i]? = some y) : xe l ((R.set i y).set (l.length - 1 - i) x) (i + 1) := by
 obtain ⟨h1, h2⟩ := h
 refine ⟨by simp [h1], fun t ht => ?_⟩
 have e1 := h2 i (by omega)
 have e2 := h2 (l.length - 1 - i) (by omega)
 rw [if_neg (by omega), hx] at e1
 rw [if_neg (by omega), hy] at e2
 rw [List.getElem?_set, List.getElem?_set]
 by_cases c1 : l.length - 1 - i = t
 ·subst c1
  rw [if_pos rfl, if_pos (by simp [h1]; omega), if_pos (by omega), e1]
  congr 1; omega
 ·rw [if_neg c1]
  by_cases c2 : i = t
  ·subst c2
   rw [if_pos rfl, if_pos (by rw [h1]; exact ht), if_pos (by omega), e2]
  ·rw [if_neg c2, h2 t ht]
   by_cases c3 : t < i ∨ l.length ≤ t + i
   ·rw [if_pos c3, if_pos (by omega)]
   ·rw [if_neg c3, if_neg (by omega)]
theorem xe.last {l R : List Us} {i : Nat} (h : xe l R i) (cP : ¬ i < l.length - 1 - i) (hi : i ≤ l.length - 1) : R = l.reverse := by
 obtain ⟨h1, h2⟩ := h
 apply List.ext_getElem?
 intro t
 rcases Nat.lt_or_ge t l.length with ht | ht
 ·rw [h2 t ht, List.getElem?_reverse ht]
  split
  ·rfl
  ·congr 1; omega
 ·rw [List.getElem?_eq_none (by omega), List.getElem?_eq_none (by simp; omega)]
theorem E5 {P : Program} {f : FuncId} {vs : List V} {r : V} {B0 Kf : aC} (h : bF P f vs [B0] r [Kf]) (M : List aC) (k : Nat) (hv : vs.all (ah 1) = true) (hm : [B0].all (aB 1) = true) (hr : ah 1 r = true) (NW : [Kf].all (aB 1) = true)
  (h1 : ∀ σ, j5 σ B0 = B0) (OX : ∀ σ, j5 σ Kf = Kf) (hk : M[k]? = some B0) :
  bF P f (kp (fun j => if j = 0 then k else M.length + (j - 1)) vs) M (dm (fun j => if j = 0 then k else M.length + (j - 1)) r) (M.set k Kf) := by
 have h3 := h.F6 M (fun j => if j = 0 then k else M.length + (j - 1)) 1 rfl hv hm hr NW (by simp) (fun i B hi => by
  match i with
  | 0 => simp at hi; subst hi; rw [h1]; simpa using hk
  | i + 1 => simp at hi) (fun i j hi hj he => by omega) (fun j hj => by rw [if_neg (by omega)])
 have hM : o3 (fun j => if j = 0 then k else M.length + (j - 1)) 1 [Kf] M = M.set k Kf := by
  unfold o3
  simp only [kd,List.map_nil,List.append_nil,jn]
  show M.set k (j5 _ Kf) = _
  rw [OX]
 rwa [hM] at h3
theorem Lf (v : Nat) (l : List Us) (h0 : 0 < l.length) (hl : l.length ≤ 1048576) : ∃ r_ m_, (fun r m => r = .ch [] ∧ m = [.rows v 2 (l.reverse.map az)]) r_ m_ ∧ bF Tryz.prog 88 [.ms 0 v 0 l.length] ([.rows v 2 (l.map az)]) r_ m_ := by
 refine WM tt_ok [] 28 [] (1) (by simp) (fn := Tryz.f88) Tryz.func88 rfl Tryz.call88 ⟨rfl, rfl, by simp⟩ fun K hK => ?_
 have jt : IntKind.i64.wrap ((l.length : Int) - 1) = ((l.length - 1 : Nat) : Int) := jo _ _ (by omega) (by omega)
 simp only [List.length_map,jt,go_sem,reduceIte,zA,zB,zC,zD,zE,zF,reduceCtorEq]
 refine dk tt_ok [] (fun a : Nat × List Us => [(0, .ms 0 v 0 l.length), (2, num a.1), (3, num (l.length - 1 - a.1 : Nat))]) (fun a : Nat × List Us => [.rows v 2 (a.2.map az)]) (fun a => l.length - a.1) (fun a => a.1 ≤ l.length - 1 ∧ xe l a.2 a.1) ((0, l)) 1 (bz (by omega) (by simp only [List.length_map,jt,Nat.sub_zero,Int.cast_ofNat_Int,go_sem,reduceIte,zA,zB,zC,zD,zE,zF,reduceCtorEq] <;> rfl)) (⟨Nat.zero_le _, xe.zero l⟩) ?_
 intro ⟨i, R⟩ ⟨hi, hR⟩
 try dsimp only at hi hR
 try dsimp only
 have Xc := hR.1
 intro Z1 bX
 simp only [List.length_map,jt,go_sem,reduceIte,zA,zB,zC,zD,zE,zF,reduceCtorEq]
 refine aT (fun jC => ?_) (fun jC => ?_)
 ·have aL : i < l.length - 1 - i := by have := of_decide_eq_true jC; omega
  obtain ⟨x, hx⟩ : ∃ x : Us, R[i]? = some x := ⟨_, List.getElem?_eq_getElem (by omega)⟩
  obtain ⟨y, hy⟩ : ∃ y : Us, R[l.length - 1 - i]? = some y := ⟨_, List.getElem?_eq_getElem (by omega)⟩
  have hI : ((i : Nat) : Int) < (l.length : Int) := by omega
  have hJ : ((l.length - 1 - i : Nat) : Int) < (l.length : Int) := by omega
  have Pw := hR.step aL hx hy
  have ug : ((R.map az).set i (.agg [str y.1, str y.2])).set (l.length - 1 - i) (.agg [str x.1, str x.2]) = ((R.set i y).set (l.length - 1 - i) x).map az := by rw [List.map_set, List.map_set]; rfl
  have hg : ∀ Z : V, ((R.map az).set i Z)[l.length - 1 - i]? = some (.agg [str y.1, str y.2]) := fun Z => by rw [List.getElem?_set_ne (by omega), List.getElem?_map, hy]; rfl
  have D7 : ∀ a b c d : V, setRow (.agg [a, b]) 0 [c, d] = .agg [c, d] := fun _ _ _ _ => rfl
  have gq := aq i (by omega)
  have JI : IntKind.i64.wrap (((l.length - 1 - i : Nat) : Int) - 1) = ((l.length - 1 - (i + 1) : Nat) : Int) := jo _ _ (by omega) (by omega)
  simp only [hg,D7,hI,hJ,hx,hy,gq,JI,List.getElem?_map,az,List.length_map,jt,go_sem,reduceIte,zA,zB,zC,zD,zE,zF,reduceCtorEq]
  refine bR tt_ok aN [⟨.n, 0, [], [], []⟩, ⟨.n, 0, [], [], []⟩, ⟨.n, 0, [], [], []⟩, ⟨.n, 0, [], [], []⟩, ⟨.n, 0, [], [], []⟩, ⟨.n, 0, [], [], []⟩, ⟨.r, 0, [], [4,5], []⟩, ⟨.r, 0, [], [4,5,6], []⟩, ⟨.n, 0, [], [], []⟩, ⟨.n, 0, [], [], []⟩, ⟨.r, 0, [], [8,9], []⟩, ⟨.r, 0, [], [8,9,10], []⟩, ⟨.r, 0, [], [0,1,4,5,6,7,8,9,10,11], []⟩, ⟨.w, 0, [], [0,1,4,5,6,7,8,9,10,11,12], []⟩, ⟨.r, 0, [], [0,1,2,3,4,5,6,7,8,9,10,11,12,13], []⟩, ⟨.w, 1, [], [0,1,2,3,4,5,6,7,8,9,10,11,12,13,14], []⟩] 2 (by kernel_rfl) ?_
  simp only [hg,D7,hI,hJ,hx,hy,gq,JI,List.getElem?_map,az,List.length_map,jt,go_sem,reduceIte,zA,zB,zC,zD,zE,zF,reduceCtorEq]
  refine bX _ ⟨(i + 1, (R.set i y).set (l.length - 1 - i) x), ?_, ?_, bz (by omega) (by (simp only [gq,JI,← ug,go_sem,reduceIte,zA,zB,zC,zD,zE,zF,reduceCtorEq]))⟩
  ·exact ⟨by omega, Pw⟩
  ·dsimp only; omega
 ·have cP : ¬ i < l.length - 1 - i := by have := of_decide_eq_false jC; omega
  have qc := hR.last cP hi
  simp only [List.length_map,jt,go_sem,reduceIte,zA,zB,zC,zD,zE,zF,reduceCtorEq]
  exact hK _ _ ⟨rfl, by rw [← qc]⟩
theorem Px (v : Nat) (l : List Us) (h0 : 0 < l.length) (hl : l.length ≤ 1048576) (M : List aC) (k : Nat) (hk : M[k]? = some (.rows v 2 (l.map az))) : ∃ r_ m_, (fun r m => r = V.ch [] ∧ m = M.set k (.rows v 2 (l.reverse.map az))) r_ m_ ∧ bF Tryz.prog 88 [.ms k v 0 l.length] M r_ m_ := by
 obtain ⟨_, _, ⟨rfl, rfl⟩, h⟩ := Lf v l h0 hl
 have h3 := E5 h M k (by simp [ah]) (by simp [aB]) rfl (by simp [aB]) (fun σ => rfl) (fun σ => rfl) hk
 exact ⟨_, _, ⟨rfl, rfl⟩, by simpa [kp, dm] using h3⟩
end Go.Proofs.YtefbaladomfccaaGreatDoor
end

section
namespace Go.Proofs.YtefbaladomfccaaGreatDoor
open Go.Eng
open Nat renaming reduceAdd → zA, reduceLT → zB, reduceLeDiff → zC, reduceMul → zD, reduceEqDiff → zE, reduceSub → zF
variable [aK]
set_option maxHeartbeats 4000000
set_option maxRecDepth 100000
abbrev GD := List (Us × Dc)
def aY (u : Us) (g : GD) : Option Dc := (g.find? fun e => decide (e.1 = u)).map (·.2)
def bn (g : GD) : List (Us × V) := g.map fun e => (e.1, fe e.2)
def iW (l : List ByteArray) : List (ByteArray × V) := l.map fun s => (s, bl true)
theorem tc (u : Us) : ∀ g : GD, getM u (bn g) = (aY u g).map fe
 | [] => rfl
 | e :: g => by
  show (if e.1 = u then some (fe e.2) else getM u (bn g)) = _
  rw [tc u g]
  unfold aY
  by_cases h : e.1 = u
  ·rw [if_pos h, List.find?_cons_of_pos (by simpa using h)]; rfl
  ·rw [if_neg h, List.find?_cons_of_neg (by simpa using h)]
def ju (l : List ByteArray) (s : ByteArray) : Bool := l.any fun t => decide (t = s)
theorem td (s : ByteArray) : ∀ l : List ByteArray, getM s (iW l) = if ju l s = true then some (bl true) else none
 | [] => rfl
 | e :: g => by
  show (if e = s then some (bl true) else getM s (iW g)) = _
  rw [td s g]
  unfold ju
  rw [List.any_cons]
  by_cases h : e = s
  ·rw [if_pos h, decide_eq_true h, Bool.true_or, if_pos rfl]
  ·rw [if_neg h, decide_eq_false h, Bool.false_or]
theorem te {α : Type} [DecidableEq α] {a : α} : ∀ {g : List (α × V)} {n : Nat}, getM a g = none → fo a g n = none
 | [], _, _ => rfl
 | e :: g, n, h => by
  unfold getM at h
  unfold fo
  split at h
  ·cases h
  ·rename_i bL
   rw [if_neg bL]; exact te h
theorem tf {α : Type} [DecidableEq α] {a : α} {v : V} {g : List (α × V)} (h : getM a g = none) : BA a v g = g ++ [(a, v)] := by unfold BA; rw [te h]
def fZ (path : ByteArray) (g : GD) (d : Dc) : GD := if (aY (path, d.name) g).isSome = true then g else g ++ [((path, d.name), d)]
def j8 (S : List ByteArray × GD) (m : Md) : List ByteArray × GD := if ju S.1 m.path = true then S else (S.1 ++ [m.path], m.decls.foldl (fZ m.path) S.2)
def eS (p : List Md) (i : Nat) : List ByteArray × GD := (p.take i).foldl j8 ([], [])
def la (m : Md) (g : GD) (j : Nat) : GD := (m.decls.take j).foldl (fZ m.path) g
def gf (p : List Md) : GD := (eS p p.length).2
theorem vk {p : List Md} {i : Nat} {m : Md} (h : p[i]? = some m) : eS p (i + 1) = j8 (eS p i) m := by
 unfold eS; rw [List.take_add_one, h, List.foldl_append]; rfl
theorem vl {m : Md} {g : GD} {j : Nat} {d : Dc} (h : m.decls[j]? = some d) : la m g (j + 1) = fZ m.path (la m g j) d := by
 unfold la; rw [List.take_add_one, h, List.foldl_append]; rfl
theorem E6 (m : Md) (g : GD) : la m g m.decls.length = m.decls.foldl (fZ m.path) g := by unfold la; rw [List.take_length]
theorem qT (n : Nat) (d : Dc) : ah n (fe d) = true := by rw [aD]; simp [aG, ai, al, ah, bA]
theorem ab (n : Nat) (g : GD) : ((b8 cI 0 (bn g)).all fun e => ah n e.2.2) = true := by
 rw [pc cI (ah n)]; unfold bn; simp [qT]
theorem bV (n : Nat) (g : List ByteArray) : ((b8 strVal 0 (iW g)).all fun e => ah n e.2.2) = true := by
 rw [pc strVal (ah n)]; unfold iW; simp [ah]
theorem TC : dG Tryz.prog 94 = some (78, 109) := by kernel_rfl
theorem TD : dG Tryz.prog 172 = some (9, 4) := by kernel_rfl
theorem TE : zeroV Tryz.prog 109 = some (.agg [num 0, str ⟨#[]⟩, bl false, bl false, str ⟨#[]⟩, .sc (.slice none 0 0), num 0, str ⟨#[]⟩, str ⟨#[]⟩, .sc (.slice none 0 0), .sc (.slice none 0 0), num 0, str ⟨#[]⟩, str ⟨#[]⟩, .sc (.slice none 0 0), .sc (.slice none 0 0), num 0, str ⟨#[]⟩, str ⟨#[]⟩, .sc (.slice none 0 0), .sc (.slice none 0 0), num 0, str ⟨#[]⟩, str ⟨#[]⟩, str ⟨#[]⟩, num 0, .sc (.slice none 0 0), .sc (.slice none 0 0), .sc (.slice none 0 0), str ⟨#[]⟩, str ⟨#[]⟩]) := by kernel_rfl
theorem TF : zeroV Tryz.prog 4 = some (bl false) := by kernel_rfl
theorem zu (u : Us) (g : GD) {mem : List aC} {b : Nat} (hm : mem[b]? = some (.map (b8 cI 0 (bn g)) (bn g).length)) (ok : Bool) :
  e8 Tryz.prog mem 94 (.mp b) (.agg [str u.1, str u.2]) ok = some (rL ok (aY u g).isSome (((aY u g).map fe).getD (.agg [num 0, str ⟨#[]⟩, bl false, bl false, str ⟨#[]⟩, .sc (.slice none 0 0), num 0, str ⟨#[]⟩, str ⟨#[]⟩, .sc (.slice none 0 0), .sc (.slice none 0 0), num 0, str ⟨#[]⟩, str ⟨#[]⟩, .sc (.slice none 0 0), .sc (.slice none 0 0), num 0, str ⟨#[]⟩, str ⟨#[]⟩, .sc (.slice none 0 0), .sc (.slice none 0 0), num 0, str ⟨#[]⟩, str ⟨#[]⟩, str ⟨#[]⟩, num 0, .sc (.slice none 0 0), .sc (.slice none 0 0), .sc (.slice none 0 0), str ⟨#[]⟩, str ⟨#[]⟩]))) := by
 have h := (vb TC).get u (bn g) hm TE ok
 rw [tc] at h
 simpa [az] using h
theorem Xd {u : Us} {g : GD} (h : aY u g = none) (d : Dc) {mem : List aC} {b : Nat} (hm : mem[b]? = some (.map (b8 cI 0 (bn g)) (bn g).length)) :
  cD Tryz.prog mem 94 (.mp b) (.agg [str u.1, str u.2]) (fe d) = some (mem.set b (.map (b8 cI 0 (bn (g ++ [(u, d)]))) (bn (g ++ [(u, d)])).length)) := by
 have h2 := (vb TC).put u (fe d) (bn g) hm
 rw [tf (by rw [tc, h]; rfl)] at h2
 have e : bn g ++ [(u, fe d)] = bn (g ++ [(u, d)]) := by simp [bn]
 rw [e] at h2
 exact h2
theorem TG (s : ByteArray) (l : List ByteArray) {mem : List aC} {b : Nat} (hm : mem[b]? = some (.map (b8 strVal 0 (iW l)) (iW l).length)) :
  e8 Tryz.prog mem 172 (.mp b) (str s) false = some (bl (ju l s)) := by
 have h := (MC TD).get s (iW l) hm TF false
 rw [td] at h
 rw [h]
 cases ju l s <;> rfl
theorem Xe {s : ByteArray} {l : List ByteArray} (h : ju l s = false) {mem : List aC} {b : Nat} (hm : mem[b]? = some (.map (b8 strVal 0 (iW l)) (iW l).length)) :
  cD Tryz.prog mem 172 (.mp b) (str s) (bl true) = some (mem.set b (.map (b8 strVal 0 (iW (l ++ [s]))) (iW (l ++ [s])).length)) := by
 have h2 := (MC TD).put s (bl true) (iW l) hm
 rw [tf (by rw [td, h]; rfl)] at h2
 have e : iW l ++ [(s, bl true)] = iW (l ++ [s]) := by simp [iW]
 rw [e] at h2
 exact h2
theorem zv (p : List Md) (hl : p.length ≤ 1048576) (hw : ∀ m ∈ p, m.wt ≤ 1048576) : ∃ r_ m_, (fun r m => r = .mp 0 ∧ m = [.map (b8 cI 0 (bn (gf p))) (bn (gf p)).length]) r_ m_ ∧ bF Tryz.prog 38 [.slice (p.map dv)] ([]) r_ m_ := by
 refine WM tt_ok [] 53 [.tmp 2] (1) (by simp) (fn := Tryz.f38) Tryz.func38 rfl Tryz.call38 ⟨rfl, rfl, by simp⟩ fun K hK => ?_
 simp only [ab,bV,List.length_map,go_sem,reduceIte,zA,zB,zC,zD,zE,zF,reduceCtorEq]
 refine dk tt_ok [] (fun i : Nat => [(3, .mp 0), (4, .mp 1), (14, .slice (p.map dv)), (15, num p.length), (16, num i)]) (fun i : Nat => [.map (b8 cI 0 (bn (eS p i).2)) (bn (eS p i).2).length, .map (b8 strVal 0 (iW (eS p i).1)) (iW (eS p i).1).length]) (fun i => p.length - i) (fun i => i ≤ p.length) (0) 2 (bz (by omega) (by simp only [ab,bV,List.length_map,eS,List.take_zero,List.foldl_nil,bn,iW,List.map_nil,b8,List.length_nil,Int.cast_ofNat_Int,go_sem,reduceIte,zA,zB,zC,zD,zE,zF,reduceCtorEq] <;> rfl)) (Nat.zero_le _) ?_
 intro i hi
 intro Z1 bX
 simp only [ab,bV,List.length_map,go_sem,reduceIte,zA,zB,zC,zD,zE,zF,reduceCtorEq]
 refine aT (fun jv => ?_) (fun jv => ?_)
 ·have bD : i < p.length := by simpa using jv
  have aP := aq i (by omega)
  obtain ⟨m, hx⟩ : ∃ m, p[i]? = some m := ⟨_, List.getElem?_eq_getElem bD⟩
  have Xf := hw m (List.mem_of_getElem? hx)
  have hmd : m.wt = 1 + m.path.size + ak Im.wt m.imports + ak Dc.wt m.decls := rfl
  have hZ := bs Dc.wt Dc.cO m.decls
  have zw := fun B0 B2 => TG m.path (eS p i).1 (mem := [B0, .map (b8 strVal 0 (iW (eS p i).1)) (iW (eS p i).1).length, B2]) (b := 1) rfl
  simp only [ab,bV,hx,List.getElem?_map,aW,bm,zw,List.length_map,go_sem,reduceIte,zA,zB,zC,zD,zE,zF,reduceCtorEq]
  refine aT (fun tg => ?_) (fun tg => ?_)
  ·have jg : ju (eS p i).1 m.path = true := tg
   have Pw : eS p (i + 1) = eS p i := by rw [vk hx]; unfold j8; rw [if_pos jg]
   simp only [ab,bV,hx,List.getElem?_map,aW,bm,zw,List.length_map,go_sem,reduceIte,zA,zB,zC,zD,zE,zF,reduceCtorEq]
   refine bX _ ⟨i + 1, ?_, ?_, bz (by omega) (by (simp only [aP,Pw,ab,bV,go_sem,reduceIte,zA,zB,zC,zD,zE,zF,reduceCtorEq]))⟩
   ·exact bD
   ·omega
  ·have TH : ju (eS p i).1 m.path = false := tg
   have E7 := fun B0 B2 => Xe TH (mem := [B0, .map (b8 strVal 0 (iW (eS p i).1)) (iW (eS p i).1).length, B2]) (b := 1) rfl
   simp only [ab,bV,hx,List.getElem?_map,aW,bm,zw,E7,List.length_map,go_sem,reduceIte,zA,zB,zC,zD,zE,zF,reduceCtorEq]
   refine dk tt_ok [] (fun j : Nat => [(3, .mp 0), (4, .mp 1), (6, .ptr 2 0), (14, .slice (p.map dv)), (15, num p.length), (16, num i), (28, .slice (m.decls.map fe)), (29, num m.decls.length), (30, num j)]) (fun j : Nat => [.map (b8 cI 0 (bn (la m (eS p i).2 j))) (bn (la m (eS p i).2 j)).length, .map (b8 strVal 0 (iW ((eS p i).1 ++ [m.path]))) (iW ((eS p i).1 ++ [m.path])).length, .box [str m.path, .slice (m.imports.map yP), .slice (m.decls.map fe)]]) (fun j => m.decls.length - j) (fun j => j ≤ m.decls.length) (0) 3 (bz (by omega) (by simp only [ab,bV,hx,List.getElem?_map,aW,bm,zw,E7,List.length_map,la,List.take_zero,List.foldl_nil,Int.cast_ofNat_Int,go_sem,reduceIte,zA,zB,zC,zD,zE,zF,reduceCtorEq] <;> rfl)) (Nat.zero_le _) ?_
   intro j hj
   intro Z2 jD
   simp only [ab,bV,hx,List.getElem?_map,aW,bm,zw,E7,List.length_map,go_sem,reduceIte,zA,zB,zC,zD,zE,zF,reduceCtorEq]
   refine aT (fun fp => ?_) (fun fp => ?_)
   ·have iM : j < m.decls.length := by simpa using fp
    have ml := aq j (by omega)
    obtain ⟨d, hd⟩ : ∃ d, m.decls[j]? = some d := ⟨_, List.getElem?_eq_getElem iM⟩
    have kA := fun B1 B2 B3 B4 => zu (m.path, d.name) (la m (eS p i).2 j) (mem := [.map (b8 cI 0 (bn (la m (eS p i).2 j))) (bn (la m (eS p i).2 j)).length, B1, B2, B3, B4]) (b := 0) rfl true
    rcases lz : aY (m.path, d.name) (la m (eS p i).2 j) with _ | dd
    ·have Ie := fun B1 B2 B3 B4 B5 => Xd lz d (mem := [.map (b8 cI 0 (bn (la m (eS p i).2 j))) (bn (la m (eS p i).2 j)).length, B1, B2, B3, B4, B5]) (b := 0) rfl
     have j3 : la m (eS p i).2 (j + 1) = la m (eS p i).2 j ++ [((m.path, d.name), d)] := by rw [vl hd]; unfold fZ; rw [lz]; rfl
     rw [aD] at Ie
     simp only [kd,aG,ai,al] at Ie
     simp only [ab,bV,hx,List.getElem?_map,aW,bm,zw,E7,hd,kA,aD,aG,ai,al,List.cons_append,List.nil_append,lz,Ie,Option.isSome_none,Option.map_none,Option.getD_none,rL,List.length_map,go_sem,reduceIte,zA,zB,zC,zD,zE,zF,reduceCtorEq]
     refine jD _ ⟨j + 1, ?_, ?_, bz (by omega) (by (simp only [ml,j3,ab,bV,go_sem,reduceIte,zA,zB,zC,zD,zE,zF,reduceCtorEq]))⟩
     ·exact iM
     ·omega
    ·have j3 : la m (eS p i).2 (j + 1) = la m (eS p i).2 j := by rw [vl hd]; unfold fZ; rw [lz]; rfl
     simp only [ab,bV,hx,List.getElem?_map,aW,bm,zw,E7,hd,kA,aD,aG,ai,al,List.cons_append,List.nil_append,lz,Option.isSome_some,Option.map_some,Option.getD_some,rL,List.length_map,go_sem,reduceIte,zA,zB,zC,zD,zE,zF,reduceCtorEq]
     refine jD _ ⟨j + 1, ?_, ?_, bz (by omega) (by (simp only [ml,j3,ab,bV,go_sem,reduceIte,zA,zB,zC,zD,zE,zF,reduceCtorEq]))⟩
     ·exact iM
     ·omega
   ·have th : j = m.decls.length := by have := of_decide_eq_false fp; omega
    have Pw : eS p (i + 1) = ((eS p i).1 ++ [m.path], la m (eS p i).2 j) := by rw [vk hx]; unfold j8; rw [if_neg (by rw [TH]; decide), th, E6]
    simp only [ab,bV,hx,List.getElem?_map,aW,bm,zw,E7,List.length_map,go_sem,reduceIte,zA,zB,zC,zD,zE,zF,reduceCtorEq]
    refine bX _ ⟨i + 1, ?_, ?_, bz (by omega) (by (simp only [aP,Pw,ab,bV,go_sem,reduceIte,zA,zB,zC,zD,zE,zF,reduceCtorEq]))⟩
    ·exact bD
    ·omega
 ·have gw : i = p.length := by have := of_decide_eq_false jv; omega
  rw [gw]
  simp only [ab,bV,List.length_map,go_sem,reduceIte,zA,zB,zC,zD,zE,zF,reduceCtorEq]
  exact hK _ _ ⟨rfl, rfl⟩
end Go.Proofs.YtefbaladomfccaaGreatDoor
end

section
namespace Go.Proofs.YtefbaladomfccaaGreatDoor
open Go.Eng
open Nat renaming reduceAdd → zA, reduceLT → zB, reduceLeDiff → zC, reduceMul → zD, reduceEqDiff → zE, reduceSub → zF
variable [aK]
set_option maxHeartbeats 4000000
set_option maxRecDepth 100000
def mm (look : Us → Option Dc) : Nat → Us → Option Us
 | 0, _ => none
 | n + 1, u => match look u with
  | none => none
  | some d => if d.kind = 1 then some u else if d.kind = 2 then mm look n (d.mod, d.target) else none
def leads (look : Us → Option Dc) (u : Us) : Option Us := mm look 4097 u
def u0 : Us := (⟨#[]⟩, ⟨#[]⟩)
def mq (look : Us → Option Dc) (u : Us) : V := .ch [az ((leads look u).getD u0), bl (leads look u).isSome]
theorem gV {look : Us → Option Dc} {u v : Us} {i : Nat} (hi : i < 4097) (h : leads look u = mm look (4097 - i) v) : leads look u = (match look v with
  | none => none
  | some d => if d.kind = 1 then some v else if d.kind = 2 then mm look (4097 - (i + 1)) (d.mod, d.target) else none) := by
 rw [h, show 4097 - i = (4097 - (i + 1)) + 1 by omega, mm]
theorem fw {look : Us → Option Dc} {u : Us} (h : leads look u = none) : mq look u = .ch [.agg [str ⟨#[]⟩, str ⟨#[]⟩], bl false] := by unfold mq; rw [h]; rfl
theorem gh {look : Us → Option Dc} {u v : Us} (h : leads look u = some v) : mq look u = .ch [.agg [str v.1, str v.2], bl true] := by unfold mq; rw [h]; rfl
theorem Py (g : GD) (u : Us) : ∃ r_, (fun w => w = mq (fun v => aY v g) u) r_ ∧ bF Tryz.prog 39 [.mp 0, az u] ([.map (b8 cI 0 (bn g)) (bn g).length]) r_ ([.map (b8 cI 0 (bn g)) (bn g).length]) := by
 refine Mz tt_ok [] 37 [.cell 4 78, .tmp 5] (fn := Tryz.f39) Tryz.func39 rfl Tryz.call39 ⟨rfl, rfl, by simp⟩ fun K hK => ?_
 simp only [az]
 simp only [ab,go_sem,reduceIte,zA,zB,zC,zD,zE,zF,reduceCtorEq]
 refine dk tt_ok [] (fun a : Nat × Us => [(0, .mp 0), (3, .ptr 1 0), (4, .ptr 2 0), (8, num a.1)]) (fun a : Nat × Us => [.map (b8 cI 0 (bn g)) (bn g).length, .box [str a.2.1, str a.2.2], .box [str ⟨#[]⟩, str ⟨#[]⟩]]) (fun a => 4097 - a.1) (fun a => a.1 ≤ 4097 ∧ leads (fun v => aY v g) u = mm (fun v => aY v g) (4097 - a.1) a.2) ((0, u)) 3 (bz (by omega) (by simp only [ab,Int.cast_ofNat_Int,go_sem,reduceIte,zA,zB,zC,zD,zE,zF,reduceCtorEq] <;> rfl)) (⟨Nat.zero_le _, rfl⟩) ?_
 intro ⟨i, v⟩ ⟨hi, gW⟩
 try dsimp only at hi gW
 try dsimp only
 intro Z1 bX
 simp only [ab,go_sem,reduceIte,zA,zB,zC,zD,zE,zF,reduceCtorEq]
 refine aT (fun jC => ?_) (fun jC => ?_)
 ·have aL : i < 4097 := by have := of_decide_eq_true jC; omega
  have aP := aq i (by omega)
  have kA := fun B1 B2 => zu v g (mem := [.map (b8 cI 0 (bn g)) (bn g).length, B1, B2]) (b := 0) rfl true
  rcases lz : aY v g with _ | d
  ·have ax := fw (u := u) (look := fun v => aY v g) (by rw [gV aL gW]; (try dsimp only); rw [lz])
   simp only [ab,kA,lz,Option.isSome_none,Option.map_none,Option.getD_none,rL,go_sem,reduceIte,zA,zB,zC,zD,zE,zF,reduceCtorEq]
   exact hK _ _ ⟨ax.symm, rfl⟩
  ·simp only [kd,ab,kA,lz,Option.isSome_some,Option.map_some,Option.getD_some,rL,aD,aG,ai,al,go_sem,reduceIte,zA,zB,zC,zD,zE,zF,reduceCtorEq]
   refine aT (fun Pz => ?_) (fun Pz => ?_)
   ·have dP : d.kind = 1 := of_decide_eq_true Pz
    have ax := gh (u := u) (look := fun v => aY v g) (v := v) (by rw [gV aL gW]; (try dsimp only); rw [lz]; (try dsimp only); rw [if_pos dP])
    simp only [kd,ab,kA,lz,Option.isSome_some,Option.map_some,Option.getD_some,rL,aD,aG,ai,al,go_sem,reduceIte,zA,zB,zC,zD,zE,zF,reduceCtorEq]
    exact hK _ _ ⟨ax.symm, rfl⟩
   ·have dP : ¬ d.kind = 1 := of_decide_eq_false Pz
    simp only [kd,ab,kA,lz,Option.isSome_some,Option.map_some,Option.getD_some,rL,aD,aG,ai,al,go_sem,reduceIte,zA,zB,zC,zD,zE,zF,reduceCtorEq]
    refine aT (fun nV => ?_) (fun nV => ?_)
    ·have iz : ¬ d.kind = 2 := by simpa using nV
     have ax := fw (u := u) (look := fun v => aY v g) (by rw [gV aL gW]; (try dsimp only); rw [lz]; (try dsimp only); rw [if_neg dP, if_neg iz])
     simp only [kd,ab,kA,lz,Option.isSome_some,Option.map_some,Option.getD_some,rL,aD,aG,ai,al,go_sem,reduceIte,zA,zB,zC,zD,zE,zF,reduceCtorEq]
     exact hK _ _ ⟨ax.symm, rfl⟩
    ·have iz : d.kind = 2 := by simpa using nV
     simp only [kd,ab,kA,lz,Option.isSome_some,Option.map_some,Option.getD_some,rL,aD,aG,ai,al,go_sem,reduceIte,zA,zB,zC,zD,zE,zF,reduceCtorEq]
     refine bX _ ⟨(i + 1, (d.mod, d.target)), ?_, ?_, bz (by omega) (by (simp only [aP,ab,go_sem,reduceIte,zA,zB,zC,zD,zE,zF,reduceCtorEq]))⟩
     ·exact ⟨aL, by rw [gV aL gW]; (try dsimp only); rw [lz]; (try dsimp only); rw [if_neg dP, if_pos iz]⟩
     ·dsimp only; omega
 ·have cP : i = 4097 := by have := of_decide_eq_false jC; omega
  have ax := fw (u := u) (look := fun v => aY v g) (by rw [gW, cP]; rfl)
  simp only [ab,go_sem,reduceIte,zA,zB,zC,zD,zE,zF,reduceCtorEq]
  exact hK _ _ ⟨ax.symm, rfl⟩
theorem E8 (σ : Nat → Nat) (d : Dc) : dm σ (fe d) = fe d := pX σ (qT 0 d)
theorem vm (σ : Nat → Nat) (g : GD) (c : Nat) : j5 σ (.map (b8 cI 0 (bn g)) c) = .map (b8 cI 0 (bn g)) c := by
 have key : ∀ (g : GD) (n : Nat), (b8 cI n (bn g)).map (fun e => (e.1, e.2.1, dm σ e.2.2)) = b8 cI n (bn g) := by
  intro g
  induction g with
  | nil => intro n; rfl
  | cons e r ih =>
   intro n
   show (cI e.1, n, dm σ (fe e.2)) :: (b8 cI (n + 1) (bn r)).map _ = _
   rw [ih (n + 1), E8]; rfl
 simp only [j5]
 rw [key g 0]
theorem E9 {P : Program} {f : FuncId} {vs : List V} {r : V} {B0 : aC} (h : bF P f vs [B0] r [B0]) (M : List aC) (k : Nat) (hv : vs.all (ah 1) = true) (hm : [B0].all (aB 1) = true) (hr : ah 1 r = true) (h1 : ∀ σ, j5 σ B0 = B0) (hk : M[k]? = some B0) :
  bF P f (kp (fun j => if j = 0 then k else M.length + (j - 1)) vs) M (dm (fun j => if j = 0 then k else M.length + (j - 1)) r) M := by
 have h3 := h.F6 M (fun j => if j = 0 then k else M.length + (j - 1)) 1 rfl hv hm hr hm (by simp) (fun i B hi => by
  match i with
  | 0 => simp at hi; subst hi; rw [h1]; simpa using hk
  | i + 1 => simp at hi) (fun i j hi hj he => by omega) (fun j hj => by rw [if_neg (by omega)])
 have hM : o3 (fun j => if j = 0 then k else M.length + (j - 1)) 1 [B0] M = M := by
  unfold o3
  simp only [kd,List.map_nil,List.append_nil,jn]
  show M.set k (j5 _ B0) = _
  rw [h1]; exact ig hk
 rwa [hM] at h3
theorem BV (g : GD) (u : Us) (M : List aC) (k : Nat) (hk : M[k]? = some (.map (b8 cI 0 (bn g)) (bn g).length)) : bF Tryz.prog 39 [.mp k, .agg [str u.1, str u.2]] M (mq (fun v => aY v g) u) M := by
 obtain ⟨_, rfl, h⟩ := Py g u
 have hb : ∀ n, aB n (.map (b8 cI 0 (bn g)) (bn g).length) = true := fun n => ab n g
 have h3 := E9 h M k (by simp [ah, bA, az]) (by simp [hb]) (by unfold mq az; simp [ah, bA]) (fun σ => vm σ g _) hk
 have e : ∀ σ, dm σ (mq (fun v => aY v g) u) = mq (fun v => aY v g) u := fun σ => pX σ (by unfold mq az; simp [ah, bA])
 rw [e] at h3
 simpa [kp, dm, az] using h3
end Go.Proofs.YtefbaladomfccaaGreatDoor
end

section
namespace Go.Eng
variable [aK]
section
variable {P : Program} {tt : Table} {ρ : Option Nat} {n0 : Nat} {st : St} {Q : Exit → St → Prop}
theorem xg {x y : Code} (J : St → Prop) (hx : dA P ρ n0 x st (ee (fun st' => GI n0 st' J) Q)) (hy : ∀ st1, J st1 → dA P ρ n0 y st1 Q) : dA P ρ n0 (.seq x y) st Q := by
 refine bN (dA.mono hx fun ex st' h => ?_)
 cases ex with
 | normal =>
  obtain ⟨n, m, h1, h2, h3, h4⟩ := h
  exact sg n m h1 h2 h3 (hy _ h4)
 | _ => exact h
end
end Go.Eng
namespace Go.Proofs.YtefbaladomfccaaGreatDoor
open Go.Eng
open Nat renaming reduceAdd → zA, reduceLT → zB, reduceLeDiff → zC, reduceMul → zD, reduceEqDiff → zE, reduceSub → zF
variable [aK]
set_option maxHeartbeats 4000000
set_option maxRecDepth 100000
section
variable (look : Us → Option Dc)
def gA (e : Ex) : List Us := if decide (e.kind = 4) = true then (match leads look (e.mod, e.name) with | some u => [u] | none => []) else []
mutual
def cJ : Ex → List Us
 | .mk k m n t i ts ls ks => gA look (.mk k m n t i ts ls ks) ++ iN ks
def iN : List Ex → List Us
 | [] => []
 | e :: r => cJ e ++ iN r
end
theorem zx (l : List Ex) : iN look l = l.flatMap (cJ look) := by
 induction l with
 | nil => rfl
 | cons e r ih => rw [iN, ih, List.flatMap_cons]
theorem ti (e : Ex) : cJ look e = gA look e ++ e.kids.flatMap (cJ look) := by
 obtain ⟨k, m, n, t, i, ts, ls, ks⟩ := e
 rw [cJ, zx]; rfl
theorem zy (e : Ex) : (gA look e).length ≤ 1 := by
 unfold gA
 split
 ·split <;> simp
 ·simp
mutual
theorem gJ : ∀ e : Ex, (cJ look e).length ≤ e.wt
 | .mk k m n t i ts ls ks => by
  have h1 := tj ks
  have h2 := zy look (.mk k m n t i ts ls ks)
  rw [cJ, List.length_append]
  simp only [Ex.wt]; omega
theorem tj : ∀ l : List Ex, (iN look l).length ≤ o8 l
 | [] => Nat.le_refl _
 | e :: r => by
  have h1 := gJ e
  have h2 := tj r
  rw [iN, List.length_append]
  simp only [o8]; omega
end
end
abbrev bg (g : GD) (e : Ex) : List Us := cJ (fun v => aY v g) e
section
variable {σ : Type} {step : σ → Us → σ} {G : Nat → σ → Prop} {B : Nat}
theorem zH (h : ∀ c s u, c < B → G c s → G (c + 1) (step s u)) : ∀ (l : List Us) (c : Nat) (s : σ), G c s → c + l.length ≤ B → G (c + l.length) (l.foldl step s)
 | [], c, s, hg, _ => hg
 | u :: r, c, s, hg, hc => by
  rw [List.length_cons] at hc
  have := zH h r (c + 1) (step s u) (h c s u (by omega) hg) (by omega)
  rw [List.length_cons, List.foldl_cons, show c + (r.length + 1) = c + 1 + r.length by omega]
  exact this
end
section
variable {σ : Type} {M : σ → List aC} {n k k1 k2 k3 km : Nat}
theorem Ig (g : GD) (hn : ∀ s, (M s).length = n) (hk : k < n) (dP : k1 < n) (iz : k2 < n) (MJ : k3 < n) (Fa : km < n) (h1 : ∀ s, (M s)[k1]? = some (.box [.mp km])) (hm : ∀ s, (M s)[km]? = some (.map (b8 cI 0 (bn g)) (bn g).length)) (h2 : ∀ s, (M s)[k2]? = some (.box [.gr k])) (h3 : ∀ s, (M s)[k3]? = some (.box [.iw (.func 179) [] [.ptr k1 0, .ptr k2 0, .ptr k3 0]])) (hb : ∀ s, (M s).all (aB n) = true)
  (step : σ → Us → σ) (G : Nat → σ → Prop) {B : Nat} (hy : ∀ c s u, c < B → G c s → Jz Tryz.prog k [az u] (M s) true (M (step s u)) ∧ G (c + 1) (step s u)) :
  ∀ (N : Nat) (e : Ex) (c : Nat) (s : σ), G c s → c + (bg g e).length ≤ B → e.wt ≤ N → N ≤ 1048576 → bF Tryz.prog 179 [iR e, .ptr k1 0, .ptr k2 0, .ptr k3 0] (M s) (bl true) (M ((bg g e).foldl step s)) := by
 have g0 : ∀ s (l : List aC), (M s ++ l)[n]? = l[0]? := fun s l => by rw [List.getElem?_append_right (by rw [hn]; exact Nat.le_refl _), hn, Nat.sub_self]
 have g1 : ∀ s (l : List aC), (M s ++ l)[n + 1]? = l[1]? := fun s l => by rw [List.getElem?_append_right (by rw [hn]; omega), hn, Nat.add_sub_cancel_left]
 have Zp : ∀ s (l : List aC), (M s ++ l)[k1]? = some (.box [.mp km]) := fun s l => by rw [List.getElem?_append_left (by rw [hn]; exact dP)]; exact h1 s
 have Zq : ∀ s (l : List aC), (M s ++ l)[km]? = some (.map (b8 cI 0 (bn g)) (bn g).length) := fun s l => by rw [List.getElem?_append_left (by rw [hn]; exact Fa)]; exact hm s
 have gk2 : ∀ s (l : List aC), (M s ++ l)[k2]? = some (.box [.gr k]) := fun s l => by rw [List.getElem?_append_left (by rw [hn]; exact iz)]; exact h2 s
 have Xg : ∀ s (l : List aC), (M s ++ l)[k3]? = some (.box [.iw (.func 179) [] [.ptr k1 0, .ptr k2 0, .ptr k3 0]]) := fun s l => by rw [List.getElem?_append_left (by rw [hn]; exact MJ)]; exact h3 s
 have gs : ∀ s (l : List aC) X, (M s ++ l).set n X = M s ++ l.set 0 X := fun s l X => by rw [List.set_append_right _ _ (by rw [hn]; exact Nat.le_refl _), hn, Nat.sub_self]
 have Zr : ∀ s (l : List aC) X, (M s ++ l).set (n + 1) X = M s ++ l.set 1 X := fun s l X => by rw [List.set_append_right _ _ (by rw [hn]; omega), hn, Nat.add_sub_cancel_left]
 have gt : ∀ s (l : List aC), (M s ++ l).take n = M s := fun s l => by rw [← hn s, List.take_left]
 have U7 : ∀ s (l : List aC), (M s ++ l).take (n + 1) = M s ++ l.take 1 := fun s l => by rw [List.take_append, hn, List.take_of_length_le (by rw [hn]; omega), Nat.add_sub_cancel_left]
 have QR : ∀ s, (M s).take n = M s := fun s => by rw [List.take_of_length_le (by rw [hn]; exact Nat.le_refl _)]
 have U8 : ∀ c s u, c < B → G c s → G (c + 1) (step s u) := fun c s u h h' => (hy c s u h h').2
 have fy : ∀ c s u (l : List aC), c < B → G c s → Jz Tryz.prog k [az u] (M s ++ l) true (M (step s u) ++ l) := fun c s u l hc hg => by
  refine (hy c s u hc hg).1.frame (by rw [hn]; exact hk) ?_ (by rw [hn]; exact hb s) (by rw [hn, hn]) (by rw [hn]; exact hb _) l
  simp [az, ah, bA]
 have Xh : ∀ s (e : Ex) (l : List aC), ((M s ++ aC.box [num e.kind, str e.mod, str e.name, str e.text, num e.num, .slice (cB e.types), .slice (e.labels.map nt), .slice (fj e.kids)] :: l).take (n + 1)).all (aB (n + 1)) = true := fun s e l => by
  rw [U7, List.all_append, Bool.and_eq_true]
  exact ⟨c6 (by omega) (hb s), by simp [aB, ah, bA]⟩
 have PA : k1 < n + 1 := by omega
 have PB : k2 < n + 1 := by omega
 have PC : k3 < n + 1 := by omega
 have AB : n < n + 1 := by omega
 intro N
 induction N with
 | zero => intro e c s hg hc h; have := e.cO; omega
 | succ N ih =>
  intro e c s hg hc hN hNB
  have U9 := e.mR
  have Va : bg g e = gA (fun v => aY v g) e ++ e.kids.flatMap (bg g) := ti (fun v => aY v g) e
  have Vb : ∀ u c s (l : List aC), G c s → c + (bg g u).length ≤ B → u.wt ≤ N → bF Tryz.prog 179 [iR u, .ptr k1 0, .ptr k2 0, .ptr k3 0] (M s ++ l) (bl true) (M ((bg g u).foldl step s) ++ l) := fun u c s l hg hc hu => by
   refine (ih u c s hg hc hu (by omega)).frame ?_ (by rw [hn]; exact hb s) rfl (by rw [hn, hn]) (by rw [hn]; exact hb _) l
   rw [bJ, hn]; simp [ah, bA, al, dP, iz, MJ]
  simp only [bJ,al] at Vb
  refine lY tt_ok (fn := Tryz.f179) n (by rw [hn]; exact Nat.le_refl _) Tryz.func179 rfl Tryz.call179 ?_
  simp only [kd,cE,Tryz.ntmps179,List.length_cons,List.length_nil,zA,zF,List.replicate_succ,List.replicate_zero]
  rw [bJ]
  simp only [al]
  refine af tt_ok fun K hK => ?_
  simp only [hn,go_sem,reduceIte,zA,zB,zC,zD,zE,zF,reduceCtorEq]
  refine hK _ ?_
  obtain ⟨O, hO⟩ : ∃ O, O = gA (fun v => aY v g) e := ⟨_, rfl⟩
  have TI : c + O.length + (e.kids.flatMap (bg g)).length ≤ B := by rw [Va, List.length_append, ← hO] at hc; omega
  have QS := zH U8 O c s hg (by omega)
  have abh : ∀ O', O' = O → O'.foldl step s = O.foldl step s := fun _ h => by rw [h]
  cases h4 : decide (e.kind = 4) with
  | false =>
   have hO0 : O = [] := by rw [hO]; unfold gA; rw [h4]; rfl
   refine xg (fun st => st = { fr := [.undef, .ptr k1 0, .ptr k2 0, .ptr k3 0, .ptr n 0, .undef, .undef, .undef, .undef, .undef, .undef, .undef, .undef, .undef, .undef, .undef, .undef, .undef, .undef, .undef, .undef, .undef, .undef, .undef, .undef, .undef, .undef, .undef, .undef, .undef, .undef, .undef, .undef, .undef, .undef, .undef, .undef, .undef, .undef, .undef, .undef, .undef], mem := M (O.foldl step s) ++ [.box [num e.kind, str e.mod, str e.name, str e.text, num e.num, .slice (cB e.types), .slice (e.labels.map nt), .slice (fj e.kids)]] }) ?_ ?_
   ·refine af tt_ok fun K hK => ?_
    simp only [hn,g0,h4,go_sem,reduceIte,zA,zB,zC,zD,zE,zF,reduceCtorEq]
    refine hK _ ?_
    refine bG rfl (cq ?_)
    refine ⟨n + 1, [false,true,true,true,true], by rw [hn]; omega, by simp only [c5,ah,bA,aB,zB,PA,PB,PC,AB,Dg], Xh _ _ _, ?_⟩
    dsimp only; rw [U7, hO0]; rfl
   ·intro st1 Ih
    subst Ih
    obtain ⟨s1, kF⟩ : ∃ s1, s1 = O.foldl step s := ⟨_, rfl⟩
    rw [← kF] at QS ⊢
    rw [Va, ← hO, List.foldl_append, ← kF]
    have yC : ∀ y ∈ e.kids, y.wt ≤ N := fun y hy => by have := Ex.sM hy; omega
    have JD : e.kids.length ≤ 1048576 := by omega
    obtain ⟨ks, Ii⟩ : ∃ ks, ks = e.kids := ⟨_, rfl⟩
    rw [← Ii] at TI yC JD ⊢
    refine bN ?_
    refine af tt_ok fun K hK => ?_
    simp only [hn,g0,aw,go_sem,reduceIte,zA,zB,zC,zD,zE,zF,reduceCtorEq]
    refine hK _ ?_
    refine b9 (fY (fun N st => ∃ i : Nat, N = ks.length - i ∧ i ≤ ks.length ∧ st = { fr := [.undef, .ptr k1 0, .ptr k2 0, .ptr k3 0, .undef, .undef, .undef, .undef, .undef, .undef, .undef, .undef, .undef, .undef, .undef, .undef, .undef, .undef, .undef, .undef, .undef, .undef, .undef, .undef, .undef, .undef, .undef, .undef, .undef, .undef, .undef, .slice (fj ks), num ks.length, num i, .undef, .undef, .undef, .undef, .undef, .undef, .undef, .undef], mem := M (((ks.take i).flatMap (bg g)).foldl step s1) }) ks.length ?_ ?_)
    ·refine ⟨n, (false::true::true::true::(rp 27 false [true,true,true])), by rw [hn]; exact Nat.le_refl _, by simp only [c5,ah,bA,aB,zB,dP,iz,MJ,Dg], by dsimp only; rw [gt]; exact hb _, 0, by omega, by omega, ?_⟩
     dsimp only; rw [gt]; rfl
    ·rintro N' st ⟨i, rfl, hi, rfl⟩
     by_cases aL : i < ks.length
     ·have hd := sI aL
      refine af tt_ok fun K hK => ?_
      simp only [aw,hd,go_sem,reduceIte,zA,zB,zC,zD,zE,zF,reduceCtorEq]
      refine hK _ ?_
      refine bN (bG rfl (cq ?_))
      refine bN (b9 ?_)
      obtain ⟨u, hu⟩ : ∃ u, ks[i]? = some u := ⟨_, List.getElem?_eq_getElem aL⟩
      have qd : (ks.take (i + 1)).flatMap (bg g) = (ks.take i).flatMap (bg g) ++ bg g u := by rw [List.take_add_one, hu]; simp
      have rm : ks.flatMap (bg g) = (ks.take (i + 1)).flatMap (bg g) ++ (ks.drop (i + 1)).flatMap (bg g) := by rw [← List.flatMap_append, List.take_append_drop]
      have hlen : ((ks.take i).flatMap (bg g)).length + (bg g u).length ≤ (ks.flatMap (bg g)).length := by rw [rm, qd, List.length_append, List.length_append]; omega
      have TJ := zH U8 ((ks.take i).flatMap (bg g)) _ s1 QS (by omega)
      have tl := fun l => Vb u _ _ l TJ (by omega) (yC u (List.mem_of_getElem? hu))
      rw [← List.foldl_append, ← qd] at tl
      obtain ⟨s', kc⟩ : ∃ s', s' = ((ks.take i).flatMap (bg g)).foldl step s1 := ⟨_, rfl⟩
      rw [← kc] at tl ⊢
      refine af tt_ok fun K hK => ?_
      simp only [ez,hu,bJ,al,hn,g0,gs,go_sem,reduceIte,zA,zB,zC,zD,zE,zF,reduceCtorEq]
      refine hK _ ?_
      refine af tt_ok fun K hK => ?_
      simp only [Xg,g0,hn,go_sem,reduceIte,zA,zB,zC,zD,zE,zF,reduceCtorEq]
      refine .inr <| .inl ⟨_, _, tl _, ?_⟩
      try simp only [go_sem,reduceIte,zA,zB,zC,zD,zE,zF,reduceCtorEq]
      refine hK _ ?_
      refine bG rfl (cq ?_)
      show dA _ _ _ _ _ _
      refine bQ tt_ok fun K hK => ?_
      simp only [go_sem,reduceIte,zA,zB,zC,zD,zE,zF,reduceCtorEq]
      refine hK _ ?_
      have gq := aq i (by omega)
      rw [gq]
      refine ⟨ks.length - (i + 1), by omega, n, (false::true::true::true::(rp 27 false [true,true,true])), by rw [hn]; exact Nat.le_refl _, by simp only [c5,ah,bA,aB,zB,dP,iz,MJ,Dg], by dsimp only; rw [gt]; exact hb _, i + 1, rfl, aL, ?_⟩
      dsimp only; rw [gt]; rfl
     ·have hd := sJ aL
      refine af tt_ok fun K hK => ?_
      simp only [aw,hd,go_sem,reduceIte,zA,zB,zC,zD,zE,zF,reduceCtorEq]
      refine hK _ ?_
      refine bN (bG rfl (ib ?_))
      have TK : i = ks.length := by omega
      subst TK
      show dA _ _ _ _ _ _
      refine af tt_ok fun K hK => ?_
      simp only [go_sem,reduceIte,zA,zB,zC,zD,zE,zF,reduceCtorEq]
      refine hK _ ?_
      refine fb ⟨.inl rfl, ?_⟩
      try rw [List.take_length]
      exact ⟨rfl, rfl, by dsimp only; rw [QR]; exact hb _, (QR _).symm⟩
  | true =>
   have he := BV g (e.mod, e.name)
   have TL : O = (match leads (fun v => aY v g) (e.mod, e.name) with | some u => [u] | none => []) := by rw [hO]; unfold gA; rw [h4]; rfl
   rcases gW : leads (fun v => aY v g) (e.mod, e.name) with _ | v
   ·rw [fw gW] at he
    rw [gW] at TL
    refine xg (fun st => st = { fr := [.undef, .ptr k1 0, .ptr k2 0, .ptr k3 0, .ptr n 0, .undef, .undef, .undef, .undef, .undef, .undef, .undef, .undef, .undef, .undef, .undef, .undef, .undef, .undef, .undef, .undef, .undef, .undef, .undef, .undef, .undef, .undef, .undef, .undef, .undef, .undef, .undef, .undef, .undef, .undef, .undef, .undef, .undef, .undef, .undef, .undef, .undef], mem := M (O.foldl step s) ++ [.box [num e.kind, str e.mod, str e.name, str e.text, num e.num, .slice (cB e.types), .slice (e.labels.map nt), .slice (fj e.kids)]] }) ?_ ?_
    ·refine af tt_ok fun K hK => ?_
     simp only [hn,g0,h4,go_sem,reduceIte,zA,zB,zC,zD,zE,zF,reduceCtorEq]
     refine hK _ ?_
     refine bG rfl ?_
     refine af tt_ok fun K hK => ?_
     simp only [hn,g0,Zp,go_sem,reduceIte,zA,zB,zC,zD,zE,zF,reduceCtorEq]
     refine .inr <| .inl ⟨_, _, he _ km (Zq _ _), ?_⟩
     try simp only [hn,g0,g1,Zr,List.length_append,List.append_assoc,go_sem,reduceIte,zA,zB,zC,zD,zE,zF,reduceCtorEq]
     refine hK _ ?_
     refine af tt_ok fun K hK => ?_
     simp only [go_sem,reduceIte,zA,zB,zC,zD,zE,zF,reduceCtorEq]
     refine hK _ ?_
     refine bG rfl (cq ?_)
     refine ⟨n + 1, [false,true,true,true,true], by rw [hn]; omega, by simp only [c5,ah,bA,aB,zB,PA,PB,PC,AB,Dg], Xh _ _ _, ?_⟩
     dsimp only; rw [U7, TL]; rfl
    ·intro st1 Ih
     subst Ih
     obtain ⟨s1, kF⟩ : ∃ s1, s1 = O.foldl step s := ⟨_, rfl⟩
     rw [← kF] at QS ⊢
     rw [Va, ← hO, List.foldl_append, ← kF]
     have yC : ∀ y ∈ e.kids, y.wt ≤ N := fun y hy => by have := Ex.sM hy; omega
     have JD : e.kids.length ≤ 1048576 := by omega
     obtain ⟨ks, Ii⟩ : ∃ ks, ks = e.kids := ⟨_, rfl⟩
     rw [← Ii] at TI yC JD ⊢
     refine bN ?_
     refine af tt_ok fun K hK => ?_
     simp only [hn,g0,aw,go_sem,reduceIte,zA,zB,zC,zD,zE,zF,reduceCtorEq]
     refine hK _ ?_
     refine b9 (fY (fun N st => ∃ i : Nat, N = ks.length - i ∧ i ≤ ks.length ∧ st = { fr := [.undef, .ptr k1 0, .ptr k2 0, .ptr k3 0, .undef, .undef, .undef, .undef, .undef, .undef, .undef, .undef, .undef, .undef, .undef, .undef, .undef, .undef, .undef, .undef, .undef, .undef, .undef, .undef, .undef, .undef, .undef, .undef, .undef, .undef, .undef, .slice (fj ks), num ks.length, num i, .undef, .undef, .undef, .undef, .undef, .undef, .undef, .undef], mem := M (((ks.take i).flatMap (bg g)).foldl step s1) }) ks.length ?_ ?_)
     ·refine ⟨n, (false::true::true::true::(rp 27 false [true,true,true])), by rw [hn]; exact Nat.le_refl _, by simp only [c5,ah,bA,aB,zB,dP,iz,MJ,Dg], by dsimp only; rw [gt]; exact hb _, 0, by omega, by omega, ?_⟩
      dsimp only; rw [gt]; rfl
     ·rintro N' st ⟨i, rfl, hi, rfl⟩
      by_cases aL : i < ks.length
      ·have hd := sI aL
       refine af tt_ok fun K hK => ?_
       simp only [aw,hd,go_sem,reduceIte,zA,zB,zC,zD,zE,zF,reduceCtorEq]
       refine hK _ ?_
       refine bN (bG rfl (cq ?_))
       refine bN (b9 ?_)
       obtain ⟨u, hu⟩ : ∃ u, ks[i]? = some u := ⟨_, List.getElem?_eq_getElem aL⟩
       have qd : (ks.take (i + 1)).flatMap (bg g) = (ks.take i).flatMap (bg g) ++ bg g u := by rw [List.take_add_one, hu]; simp
       have rm : ks.flatMap (bg g) = (ks.take (i + 1)).flatMap (bg g) ++ (ks.drop (i + 1)).flatMap (bg g) := by rw [← List.flatMap_append, List.take_append_drop]
       have hlen : ((ks.take i).flatMap (bg g)).length + (bg g u).length ≤ (ks.flatMap (bg g)).length := by rw [rm, qd, List.length_append, List.length_append]; omega
       have TJ := zH U8 ((ks.take i).flatMap (bg g)) _ s1 QS (by omega)
       have tl := fun l => Vb u _ _ l TJ (by omega) (yC u (List.mem_of_getElem? hu))
       rw [← List.foldl_append, ← qd] at tl
       obtain ⟨s', kc⟩ : ∃ s', s' = ((ks.take i).flatMap (bg g)).foldl step s1 := ⟨_, rfl⟩
       rw [← kc] at tl ⊢
       refine af tt_ok fun K hK => ?_
       simp only [ez,hu,bJ,al,hn,g0,gs,go_sem,reduceIte,zA,zB,zC,zD,zE,zF,reduceCtorEq]
       refine hK _ ?_
       refine af tt_ok fun K hK => ?_
       simp only [Xg,g0,hn,go_sem,reduceIte,zA,zB,zC,zD,zE,zF,reduceCtorEq]
       refine .inr <| .inl ⟨_, _, tl _, ?_⟩
       try simp only [go_sem,reduceIte,zA,zB,zC,zD,zE,zF,reduceCtorEq]
       refine hK _ ?_
       refine bG rfl (cq ?_)
       show dA _ _ _ _ _ _
       refine bQ tt_ok fun K hK => ?_
       simp only [go_sem,reduceIte,zA,zB,zC,zD,zE,zF,reduceCtorEq]
       refine hK _ ?_
       have gq := aq i (by omega)
       rw [gq]
       refine ⟨ks.length - (i + 1), by omega, n, (false::true::true::true::(rp 27 false [true,true,true])), by rw [hn]; exact Nat.le_refl _, by simp only [c5,ah,bA,aB,zB,dP,iz,MJ,Dg], by dsimp only; rw [gt]; exact hb _, i + 1, rfl, aL, ?_⟩
       dsimp only; rw [gt]; rfl
      ·have hd := sJ aL
       refine af tt_ok fun K hK => ?_
       simp only [aw,hd,go_sem,reduceIte,zA,zB,zC,zD,zE,zF,reduceCtorEq]
       refine hK _ ?_
       refine bN (bG rfl (ib ?_))
       have TK : i = ks.length := by omega
       subst TK
       show dA _ _ _ _ _ _
       refine af tt_ok fun K hK => ?_
       simp only [go_sem,reduceIte,zA,zB,zC,zD,zE,zF,reduceCtorEq]
       refine hK _ ?_
       refine fb ⟨.inl rfl, ?_⟩
       try rw [List.take_length]
       exact ⟨rfl, rfl, by dsimp only; rw [QR]; exact hb _, (QR _).symm⟩
   ·rw [gh gW] at he
    rw [gW] at TL
    have Zs := fun l => fy c s v l (by rw [TL] at TI; simp only [List.length_cons,List.length_nil] at TI; omega) hg
    simp only [az] at Zs
    refine xg (fun st => st = { fr := [.undef, .ptr k1 0, .ptr k2 0, .ptr k3 0, .ptr n 0, .undef, .undef, .undef, .undef, .undef, .undef, .undef, .undef, .undef, .undef, .undef, .undef, .undef, .undef, .undef, .undef, .undef, .undef, .undef, .undef, .undef, .undef, .undef, .undef, .undef, .undef, .undef, .undef, .undef, .undef, .undef, .undef, .undef, .undef, .undef, .undef, .undef], mem := M (O.foldl step s) ++ [.box [num e.kind, str e.mod, str e.name, str e.text, num e.num, .slice (cB e.types), .slice (e.labels.map nt), .slice (fj e.kids)]] }) ?_ ?_
    ·refine af tt_ok fun K hK => ?_
     simp only [hn,g0,h4,go_sem,reduceIte,zA,zB,zC,zD,zE,zF,reduceCtorEq]
     refine hK _ ?_
     refine bG rfl ?_
     refine af tt_ok fun K hK => ?_
     simp only [hn,g0,Zp,go_sem,reduceIte,zA,zB,zC,zD,zE,zF,reduceCtorEq]
     refine .inr <| .inl ⟨_, _, he _ km (Zq _ _), ?_⟩
     try simp only [hn,g0,g1,Zr,List.length_append,List.append_assoc,go_sem,reduceIte,zA,zB,zC,zD,zE,zF,reduceCtorEq]
     refine hK _ ?_
     refine af tt_ok fun K hK => ?_
     simp only [gk2,g0,g1,hn,go_sem,reduceIte,zA,zB,zC,zD,zE,zF,reduceCtorEq]
     refine .inl ⟨_, _, Zs _, ?_⟩
     try simp only [go_sem,reduceIte,zA,zB,zC,zD,zE,zF,reduceCtorEq]
     refine hK _ ?_
     refine bG rfl (cq ?_)
     refine ⟨n + 1, [false,true,true,true,true], by rw [hn]; omega, by simp only [c5,ah,bA,aB,zB,PA,PB,PC,AB,Dg], Xh _ _ _, ?_⟩
     dsimp only; rw [U7, TL]; rfl
    ·intro st1 Ih
     subst Ih
     obtain ⟨s1, kF⟩ : ∃ s1, s1 = O.foldl step s := ⟨_, rfl⟩
     rw [← kF] at QS ⊢
     rw [Va, ← hO, List.foldl_append, ← kF]
     have yC : ∀ y ∈ e.kids, y.wt ≤ N := fun y hy => by have := Ex.sM hy; omega
     have JD : e.kids.length ≤ 1048576 := by omega
     obtain ⟨ks, Ii⟩ : ∃ ks, ks = e.kids := ⟨_, rfl⟩
     rw [← Ii] at TI yC JD ⊢
     refine bN ?_
     refine af tt_ok fun K hK => ?_
     simp only [hn,g0,aw,go_sem,reduceIte,zA,zB,zC,zD,zE,zF,reduceCtorEq]
     refine hK _ ?_
     refine b9 (fY (fun N st => ∃ i : Nat, N = ks.length - i ∧ i ≤ ks.length ∧ st = { fr := [.undef, .ptr k1 0, .ptr k2 0, .ptr k3 0, .undef, .undef, .undef, .undef, .undef, .undef, .undef, .undef, .undef, .undef, .undef, .undef, .undef, .undef, .undef, .undef, .undef, .undef, .undef, .undef, .undef, .undef, .undef, .undef, .undef, .undef, .undef, .slice (fj ks), num ks.length, num i, .undef, .undef, .undef, .undef, .undef, .undef, .undef, .undef], mem := M (((ks.take i).flatMap (bg g)).foldl step s1) }) ks.length ?_ ?_)
     ·refine ⟨n, (false::true::true::true::(rp 27 false [true,true,true])), by rw [hn]; exact Nat.le_refl _, by simp only [c5,ah,bA,aB,zB,dP,iz,MJ,Dg], by dsimp only; rw [gt]; exact hb _, 0, by omega, by omega, ?_⟩
      dsimp only; rw [gt]; rfl
     ·rintro N' st ⟨i, rfl, hi, rfl⟩
      by_cases aL : i < ks.length
      ·have hd := sI aL
       refine af tt_ok fun K hK => ?_
       simp only [aw,hd,go_sem,reduceIte,zA,zB,zC,zD,zE,zF,reduceCtorEq]
       refine hK _ ?_
       refine bN (bG rfl (cq ?_))
       refine bN (b9 ?_)
       obtain ⟨u, hu⟩ : ∃ u, ks[i]? = some u := ⟨_, List.getElem?_eq_getElem aL⟩
       have qd : (ks.take (i + 1)).flatMap (bg g) = (ks.take i).flatMap (bg g) ++ bg g u := by rw [List.take_add_one, hu]; simp
       have rm : ks.flatMap (bg g) = (ks.take (i + 1)).flatMap (bg g) ++ (ks.drop (i + 1)).flatMap (bg g) := by rw [← List.flatMap_append, List.take_append_drop]
       have hlen : ((ks.take i).flatMap (bg g)).length + (bg g u).length ≤ (ks.flatMap (bg g)).length := by rw [rm, qd, List.length_append, List.length_append]; omega
       have TJ := zH U8 ((ks.take i).flatMap (bg g)) _ s1 QS (by omega)
       have tl := fun l => Vb u _ _ l TJ (by omega) (yC u (List.mem_of_getElem? hu))
       rw [← List.foldl_append, ← qd] at tl
       obtain ⟨s', kc⟩ : ∃ s', s' = ((ks.take i).flatMap (bg g)).foldl step s1 := ⟨_, rfl⟩
       rw [← kc] at tl ⊢
       refine af tt_ok fun K hK => ?_
       simp only [ez,hu,bJ,al,hn,g0,gs,go_sem,reduceIte,zA,zB,zC,zD,zE,zF,reduceCtorEq]
       refine hK _ ?_
       refine af tt_ok fun K hK => ?_
       simp only [Xg,g0,hn,go_sem,reduceIte,zA,zB,zC,zD,zE,zF,reduceCtorEq]
       refine .inr <| .inl ⟨_, _, tl _, ?_⟩
       try simp only [go_sem,reduceIte,zA,zB,zC,zD,zE,zF,reduceCtorEq]
       refine hK _ ?_
       refine bG rfl (cq ?_)
       show dA _ _ _ _ _ _
       refine bQ tt_ok fun K hK => ?_
       simp only [go_sem,reduceIte,zA,zB,zC,zD,zE,zF,reduceCtorEq]
       refine hK _ ?_
       have gq := aq i (by omega)
       rw [gq]
       refine ⟨ks.length - (i + 1), by omega, n, (false::true::true::true::(rp 27 false [true,true,true])), by rw [hn]; exact Nat.le_refl _, by simp only [c5,ah,bA,aB,zB,dP,iz,MJ,Dg], by dsimp only; rw [gt]; exact hb _, i + 1, rfl, aL, ?_⟩
       dsimp only; rw [gt]; rfl
      ·have hd := sJ aL
       refine af tt_ok fun K hK => ?_
       simp only [aw,hd,go_sem,reduceIte,zA,zB,zC,zD,zE,zF,reduceCtorEq]
       refine hK _ ?_
       refine bN (bG rfl (ib ?_))
       have TK : i = ks.length := by omega
       subst TK
       show dA _ _ _ _ _ _
       refine af tt_ok fun K hK => ?_
       simp only [go_sem,reduceIte,zA,zB,zC,zD,zE,zF,reduceCtorEq]
       refine hK _ ?_
       refine fb ⟨.inl rfl, ?_⟩
       try rw [List.take_length]
       exact ⟨rfl, rfl, by dsimp only; rw [QR]; exact hb _, (QR _).symm⟩
end
end Go.Proofs.YtefbaladomfccaaGreatDoor
end

section
namespace Go.Proofs.YtefbaladomfccaaGreatDoor
open Go.Eng
open Nat renaming reduceAdd → zA, reduceLT → zB, reduceLeDiff → zC, reduceMul → zD, reduceEqDiff → zE, reduceSub → zF
variable [aK]
set_option maxHeartbeats 4000000
set_option maxRecDepth 100000
section
variable {σ : Type} {M : σ → List aC} {n k kb ke km : Nat}
theorem Ij (g : GD) (e : Ex) (hn : ∀ s, (M s).length = n) (hk : k < n) (eQ : kb < n) (JF : ke < n) (Fa : km < n) (h1 : ∀ s, (M s)[kb]? = some (.box [.mp km])) (hm : ∀ s, (M s)[km]? = some (.map (b8 cI 0 (bn g)) (bn g).length)) (h2 : ∀ s, (M s)[ke]? = some (.box (al e))) (hb : ∀ s, (M s).all (aB n) = true)
  (step : σ → Us → σ) (G : Nat → σ → Prop) {B : Nat} (hy : ∀ c s u, c < B → G c s → Jz Tryz.prog k [az u] (M s) true (M (step s u)) ∧ G (c + 1) (step s u)) (hB : (bg g e).length ≤ B) (he : e.wt ≤ 1048576) (s : σ) (hs : G 0 s) :
  bF Tryz.prog 178 [.gr k, .ptr kb 0, .ptr ke 0] (M s) (.ch []) (M ((bg g e).foldl step s)) := by
 have g0 : ∀ s (l : List aC), (M s ++ l)[n]? = l[0]? := fun s l => by rw [List.getElem?_append_right (by rw [hn]; exact Nat.le_refl _), hn, Nat.sub_self]
 have g1 : ∀ s (l : List aC), (M s ++ l)[n + 1]? = l[1]? := fun s l => by rw [List.getElem?_append_right (by rw [hn]; omega), hn, Nat.add_sub_cancel_left]
 have Zt : ∀ s (l : List aC), (M s ++ l)[ke]? = some (.box (al e)) := fun s l => by rw [List.getElem?_append_left (by rw [hn]; exact JF)]; exact h2 s
 have gs : ∀ s (l : List aC) X, (M s ++ l).set (n + 1) X = M s ++ l.set 1 X := fun s l X => by rw [List.set_append_right _ _ (by rw [hn]; omega), hn, Nat.add_sub_cancel_left]
 have gt : ∀ s (l : List aC), (M s ++ l).take n = M s := fun s l => by rw [← hn s, List.take_left]
 have hw : bF Tryz.prog 179 [iR e, .ptr kb 0, .ptr n 0, .ptr (n + 1) 0] (M s ++ [.box [.gr k], .box [.iw (.func 179) [] [.ptr kb 0, .ptr n 0, .ptr (n + 1) 0]]]) (bl true) (M ((bg g e).foldl step s) ++ [.box [.gr k], .box [.iw (.func 179) [] [.ptr kb 0, .ptr n 0, .ptr (n + 1) 0]]]) := by
  refine Ig (M := fun s => M s ++ [.box [.gr k], .box [.iw (.func 179) [] [.ptr kb 0, .ptr n 0, .ptr (n + 1) 0]]]) (n := n + 2) (k := k) (k1 := kb) (k2 := n) (k3 := n + 1) (km := km) g (fun s => by simp [hn]) (by omega) (by omega) (by omega) (by omega) (by omega) (fun s => by rw [List.getElem?_append_left (by rw [hn]; exact eQ)]; exact h1 s) (fun s => by rw [List.getElem?_append_left (by rw [hn]; exact Fa)]; exact hm s) (fun s => g0 _ _) (fun s => g1 _ _) (fun s => ?_) step G (B := B) (fun c s u hc hg => ⟨?_, (hy c s u hc hg).2⟩) e.wt e 0 s hs (by omega) (Nat.le_refl _) he
  ·rw [List.all_append, Bool.and_eq_true]
   refine ⟨c6 (by omega) (hb s), ?_⟩
   simp [aB, ah, bA]; omega
  ·refine (hy c s u hc hg).1.frame (by rw [hn]; exact hk) ?_ (by rw [hn]; exact hb s) (by rw [hn, hn]) (by rw [hn]; exact hb _) _
   simp [az, ah, bA]
 refine lY tt_ok (fn := Tryz.f178) n (by rw [hn]; exact Nat.le_refl _) Tryz.func178 rfl Tryz.call178 ?_
 simp only [kd,cE,Tryz.ntmps178,List.length_cons,List.length_nil,zA,zF,List.replicate_succ,List.replicate_zero]
 rw [bJ] at hw
 simp only [al] at hw Zt
 refine af tt_ok fun K hK => ?_
 simp only [hn,go_sem,reduceIte,zA,zB,zC,zD,zE,zF,reduceCtorEq]
 refine hK _ ?_
 refine af tt_ok fun K hK => ?_
 simp only [hn,List.length_append,List.append_assoc,go_sem,reduceIte,zA,zB,zC,zD,zE,zF,reduceCtorEq]
 refine hK _ ?_
 refine af tt_ok fun K hK => ?_
 simp only [hn,g1,gs,go_sem,reduceIte,zA,zB,zC,zD,zE,zF,reduceCtorEq]
 refine hK _ ?_
 refine bQ tt_ok fun K hK => ?_
 simp only [hn,g1,Zt,go_sem,reduceIte,zA,zB,zC,zD,zE,zF,reduceCtorEq]
 refine .inr <| .inl ⟨_, _, hw, ?_⟩
 try simp only [go_sem,reduceIte,zA,zB,zC,zD,zE,zF,reduceCtorEq]
 refine hK _ ?_
 refine ⟨.inr rfl, rfl, rfl, ?_, ?_⟩
 ·dsimp only; rw [gt]; exact hb _
 ·dsimp only; rw [gt]
end
theorem take_set {mem pre : List aC} {n : Nat} {X Y : aC} (hn : pre.length = n) (h1 : mem[n]? = some Y) (h2 : mem.take n = pre) : (mem.set n X).take (n + 1) = pre ++ [X] := by
 have aL : n < mem.length := (List.getElem?_eq_some_iff.1 h1).1
 refine List.ext_getElem? fun i => ?_
 by_cases hi : i < n
 ·rw [List.getElem?_take_of_lt (by omega), List.getElem?_set_ne (by omega), List.getElem?_append_left (by omega), ← h2, List.getElem?_take_of_lt hi]
 ·by_cases jg : i = n
  ·subst jg
   rw [List.getElem?_take_of_lt (by omega), List.getElem?_set_self aL, List.getElem?_append_right (by omega)]
   simp [hn]
  ·rw [List.getElem?_eq_none (by simp; omega), List.getElem?_eq_none (by simp [hn]; omega)]
section
variable {σ : Type}
theorem Ik {n0 : Nat} {st : St} {Q : Exit → St → Prop} {f : Operand} {params : Array Tmp} {assign body : Code} (g : GD) (e : Ex) (pre : σ → List aC) (s0 : σ) (n kb ke km : Nat) (oR : st.mem = pre s0) (hn : ∀ s, (pre s).length = n) (eQ : kb < n) (JF : ke < n) (Fa : km < n)
  (h1 : ∀ s, (pre s)[kb]? = some (.box [.mp km])) (hm : ∀ s, (pre s)[km]? = some (.map (b8 cI 0 (bn g)) (bn g).length)) (h2 : ∀ s, (pre s)[ke]? = some (.box (al e))) (hb : ∀ s, (pre s).all (aB (n + 1)) = true) (L2 : st.fr.all (ah (n + 1)) = true) (hf : st.eval f = .iw (.func 178) [] [.ptr kb 0, .ptr ke 0]) (hp : params.size = 1)
  (step : σ → Us → σ) (G : Nat → σ → Prop) {B : Nat} (hB : (bg g e).length ≤ B) (he : e.wt ≤ 1048576)
  (TN : ∀ i s u, i < B → G i s → G (i + 1) (step s u) ∧ ∀ (l : Nat) (LR LB : aC), aB (n + 1) LR = true → aB (n + 1) LB = true → dA Tryz.prog (some l) (n + 1) assign { fr := oF params.toList [az u] st.fr, mem := pre s ++ [LR] } fun ex st1 => ex = .normal ∧ st1.mem[n]? = some LR ∧
   dA Tryz.prog (some l) (n + 1) body { st1 with mem := st1.mem.set n LB } fun ex st2 => si ex = some none ∧ st2.mem[n]? = some LB ∧ st2.mem.take n = pre (step s u))
  (h0 : G 0 s0) (hq : Q .normal { st with mem := pre ((bg g e).foldl step s0) ++ [.dead] }) : dA Tryz.prog none n0 (.rangeFunc f params assign body) st Q := by
 have hlen : st.mem.length = n := by rw [oR, hn]
 have gn : ∀ s X, (pre s ++ [X])[n]? = some X := fun s X => by rw [List.getElem?_append_right (by rw [hn]; exact Nat.le_refl _), hn, Nat.sub_self]; rfl
 have gl : ∀ s X j, j < n → (pre s ++ [X])[j]? = (pre s)[j]? := fun s X j hj => List.getElem?_append_left (by rw [hn]; exact hj)
 have Xi : ∀ s (X Y : aC), (pre s ++ [X]).set n Y = pre s ++ [Y] := fun s X Y => by rw [List.set_append_right _ _ (by rw [hn]; exact Nat.le_refl _), hn, Nat.sub_self]; rfl
 have MK : ∀ (s : σ) (a : LoopState) (b : Option Code), (pre s ++ [aC.loop a b st.fr params assign body]).all (aB (n + 1)) = true := fun s a b => by
  rw [List.all_append, Bool.and_eq_true]
  exact ⟨hb s, by simp only [List.all_cons,List.all_nil,Bool.and_true,aB]; exact L2⟩
 have it := Ij (M := fun s : σ => pre s ++ [.loop .ready none st.fr params assign body]) (n := n + 1) (k := n) (kb := kb) (ke := ke) (km := km) g e (fun s => by simp [hn]) (by omega) (by omega) (by omega) (by omega) (fun s => by rw [gl _ _ _ eQ]; exact h1 s) (fun s => by rw [gl _ _ _ Fa]; exact hm s) (fun s => by rw [gl _ _ _ JF]; exact h2 s) (fun s => MK _ _ _)
  step G (B := B) (fun i s u hi hG => by
   obtain ⟨hG', nu⟩ := TN i s u hi hG
   refine ⟨?_, hG'⟩
   refine yc (fr := st.fr) (params := params) (assign := assign) (body := body) (gn _ _) (by simp [hp]) fun l => ?_
   have hl : (pre s ++ [aC.loop .ready none st.fr params assign body]).length = n + 1 := by simp [hn]
   simp only [hl]
   refine dA.mono (nu l (.loop .ready none st.fr params assign body) (.loop .busy none st.fr params assign body) L2 L2) ?_
   rintro ex st1 ⟨h1, h2, h3⟩
   refine ⟨h1, h2, dA.mono h3 ?_⟩
   rintro ex st2 ⟨h4, h5, h6⟩
   refine ⟨_, h4, rfl, h5, ?_, ?_⟩
   ·rw [take_set (hn _) h5 h6]; exact MK _ _ _
   ·rw [take_set (hn _) h5 h6]; rfl) hB he s0 h0
 refine uh (g := 178) (vs := [.gr n, .ptr kb 0, .ptr ke 0]) (by rw [hf, hlen]; rfl) (by rw [oR]; exact it) ?_
 rw [hlen]
 refine ⟨.ready, none, _, _, _, _, gn _ _, by simp, ?_⟩
 dsimp only
 rw [Xi]
 exact hq
end
theorem foldl_push (l : List Us) : ∀ a : List Us, l.foldl (fun acc u => acc ++ [u]) a = a ++ l := by
 induction l with
 | nil => simp
 | cons u r ih => intro a; rw [List.foldl_cons, ih]; simp
theorem Lg (g : GD) (e : Ex) (m : List aC) (kb ke km : Nat) (eQ : m[kb]? = some (.box [.mp km])) (Fa : m[km]? = some (.map (b8 cI 0 (bn g)) (bn g).length)) (JF : m[ke]? = some (.box (al e))) (he : e.wt ≤ 1048576) (hb : m.all (aB m.length) = true) :
  bF Tryz.prog 177 [.sc (.slice none 0 0), .iw (.func 178) [] [.ptr kb 0, .ptr ke 0]] m (.ms (m.length + 1) (bg g e).length 0 (bg g e).length) (m ++ [.box [.ms (m.length + 1) (bg g e).length 0 (bg g e).length], .rows (bg g e).length 2 ((bg g e).map az)]) := by
 have QT : kb < m.length := (List.getElem?_eq_some_iff.1 eQ).1
 have hle : ke < m.length := (List.getElem?_eq_some_iff.1 JF).1
 have pE : km < m.length := (List.getElem?_eq_some_iff.1 Fa).1
 have TO : (bg g e).length ≤ e.wt := gJ (fun v => aY v g) e
 have a0 : ∀ l : List aC, (m ++ l)[m.length]? = l[0]? := fun l => by rw [List.getElem?_append_right (by omega), Nat.sub_self]
 have a1 : ∀ l : List aC, (m ++ l)[m.length + 1]? = l[1]? := fun l => by rw [List.getElem?_append_right (by omega), Nat.add_sub_cancel_left]
 have a2 : ∀ l : List aC, (m ++ l)[m.length + 2]? = l[2]? := fun l => by rw [List.getElem?_append_right (by omega), Nat.add_sub_cancel_left]
 have a3 : ∀ l : List aC, (m ++ l)[m.length + 3]? = l[3]? := fun l => by rw [List.getElem?_append_right (by omega), Nat.add_sub_cancel_left]
 have a4 : ∀ l : List aC, (m ++ l)[m.length + 4]? = l[4]? := fun l => by rw [List.getElem?_append_right (by omega), Nat.add_sub_cancel_left]
 have s0 : ∀ (l : List aC) X, (m ++ l).set (m.length) X = m ++ l.set 0 X := fun l X => by rw [List.set_append_right _ _ (by omega), Nat.sub_self]
 have s1 : ∀ (l : List aC) X, (m ++ l).set (m.length + 1) X = m ++ l.set 1 X := fun l X => by rw [List.set_append_right _ _ (by omega), Nat.add_sub_cancel_left]
 have s2 : ∀ (l : List aC) X, (m ++ l).set (m.length + 2) X = m ++ l.set 2 X := fun l X => by rw [List.set_append_right _ _ (by omega), Nat.add_sub_cancel_left]
 have s3 : ∀ (l : List aC) X, (m ++ l).set (m.length + 3) X = m ++ l.set 3 X := fun l X => by rw [List.set_append_right _ _ (by omega), Nat.add_sub_cancel_left]
 refine lY tt_ok (fn := Tryz.f177) (m.length + 2) (by omega) Tryz.func177 rfl Tryz.call177 ?_
 simp only [kd,cE,Tryz.ntmps177,List.length_cons,List.length_nil,zA,zF,List.replicate_succ,List.replicate_zero]
 refine af tt_ok fun K hK => ?_
 simp only [go_sem,reduceIte,zA,zB,zC,zD,zE,zF,reduceCtorEq]
 refine hK _ ?_
 refine bN ?_
 refine af tt_ok fun K hK => ?_
 simp only [go_sem,reduceIte,zA,zB,zC,zD,zE,zF,reduceCtorEq]
 refine hK _ ?_
 refine Bj m.length 0 0 2 (by dsimp only; rw [a0]; rfl) rfl ?_
 dsimp only
 simp only [kd,s0,List.set_cons_zero,List.append_assoc,List.length_append,List.length_cons,List.length_nil,Nat.zero_add,zA]
 refine b9 (Ik g e (fun l : List Us => m ++ [.box [.ms (m.length + 1) l.length 0 l.length], .rows l.length 2 (l.map az)]) [] (m.length + 2) kb ke km rfl (fun l => by simp) (by omega) (by omega) (by omega) (fun l => by rw [List.getElem?_append_left QT]; exact eQ) (fun l => by rw [List.getElem?_append_left pE]; exact Fa) (fun l => by rw [List.getElem?_append_left hle]; exact JF) (fun l => ?_) ?_ rfl rfl (fun l u => l ++ [u]) (fun i l => l.length = i) (B := 1048576) (by omega) he ?_ rfl ?_)
 ·rw [List.all_append, Bool.and_eq_true]
  exact ⟨c6 (by omega) hb, by simp [aB, ah] <;> omega⟩
 ·simp [ah, bA] <;> omega
 ·intro i acc u hi hG
  refine ⟨by simp [hG], fun l LR LB hLR hLB => ?_⟩
  have Xj : acc.length + 1 ≤ 34359738368 := by omega
  have F0 : cd [V.agg [V.sc (.string u.1), V.sc (.string u.2)]] 0 2 = true := rfl
  simp only [oF,List.set_cons_succ,List.set_cons_zero,az]
  refine bQ tt_ok fun K hK => ?_
  simp only [a3,s3,List.length_append,List.append_assoc,go_sem,reduceIte,zA,zB,zC,zD,zE,zF,reduceCtorEq]
  refine hK _ ?_
  refine ⟨rfl, by dsimp only; rw [a2]; rfl, b9 ?_⟩
  simp only [s2,List.set_cons_succ,List.set_cons_zero]
  have hml : (acc.map az).length = acc.length := List.length_map ..
  refine bQ tt_ok fun K hK => ?_
  simp only [a0,a1,a3,a4,s0,s1,F0,hml,Xj,List.length_append,List.append_assoc,go_sem,reduceIte,zA,zB,zC,zD,zE,zF,reduceCtorEq]
  refine hK _ ?_
  refine ⟨rfl, by dsimp only; rw [a2]; rfl, ?_⟩
  dsimp only
  rw [List.take_append, List.take_of_length_le (by omega), Nat.add_sub_cancel_left]
  simp [az]
 ·rw [foldl_push, List.nil_append]
  show dA _ _ _ _ _ _
  refine af tt_ok fun K hK => ?_
  simp only [a0,List.append_assoc,go_sem,reduceIte,zA,zB,zC,zD,zE,zF,reduceCtorEq]
  refine hK _ ?_
  have ht : ∀ l : List aC, (m ++ l).take (m.length + 2) = m ++ l.take 2 := fun l => by rw [List.take_append, List.take_of_length_le (by omega), Nat.add_sub_cancel_left]
  refine fb ⟨.inl rfl, rfl, by simp [ah], ?_, ?_⟩
  ·dsimp only
   rw [ht, List.all_append, Bool.and_eq_true]
   exact ⟨c6 (by omega) hb, by simp [aB, ah]⟩
  ·dsimp only
   rw [ht]; rfl
theorem Il (g : GD) (e : Ex) (m : List aC) (kb ke km : Nat) (eQ : m[kb]? = some (.box [.mp km])) (Fa : m[km]? = some (.map (b8 cI 0 (bn g)) (bn g).length)) (JF : m[ke]? = some (.box (al e))) (he : e.wt ≤ 1048576) (hb : m.all (aB m.length) = true) :
  bF Tryz.prog 124 [.iw (.func 178) [] [.ptr kb 0, .ptr ke 0]] m (.ms (m.length + 1) (bg g e).length 0 (bg g e).length) (m ++ [.box [.ms (m.length + 1) (bg g e).length 0 (bg g e).length], .rows (bg g e).length 2 ((bg g e).map az)]) := by
 refine lY tt_ok (fn := Tryz.f124) (m.length + 2) (by omega) Tryz.func124 rfl Tryz.call124 ?_
 simp only [kd,cE,Tryz.ntmps124,List.length_cons,List.length_nil,zA,zF,List.replicate_succ,List.replicate_zero]
 refine af tt_ok fun K hK => ?_
 simp only [go_sem,reduceIte,zA,zB,zC,zD,zE,zF,reduceCtorEq]
 refine hK _ ?_
 refine af tt_ok fun K hK => ?_
 simp only [go_sem,reduceIte,zA,zB,zC,zD,zE,zF,reduceCtorEq]
 refine .inr <| .inl ⟨_, _, Lg g e m kb ke km eQ Fa JF he hb, ?_⟩
 try simp only [go_sem,reduceIte,zA,zB,zC,zD,zE,zF,reduceCtorEq]
 refine hK _ ?_
 have ht : ∀ l : List aC, (m ++ l).take (m.length + 2) = m ++ l.take 2 := fun l => by rw [List.take_append, List.take_of_length_le (by omega), Nat.add_sub_cancel_left]
 refine fb ⟨.inl rfl, rfl, by simp [ah], ?_, ?_⟩
 ·dsimp only
  rw [ht, List.all_append, Bool.and_eq_true]
  exact ⟨c6 (by omega) hb, by simp [aB, ah]⟩
 ·dsimp only
  rw [ht]; rfl
theorem Lh (e : Ex) (m : List aC) (km : Nat) (Fa : km < m.length) (hb : m.all (aB m.length) = true) :
  bF Tryz.prog 125 [.mp km, iR e] m (.iw (.func 178) [] [.ptr m.length 0, .ptr (m.length + 1) 0]) (m ++ [.box [.mp km], .box (al e)]) := by
 refine lY tt_ok (fn := Tryz.f125) (m.length + 2) (by omega) Tryz.func125 rfl Tryz.call125 ?_
 simp only [kd,cE,Tryz.ntmps125,List.length_cons,List.length_nil,zA,zF,List.replicate_succ,List.replicate_zero]
 rw [bJ]
 simp only [al]
 refine af tt_ok fun K hK => ?_
 simp only [List.length_append,List.append_assoc,go_sem,reduceIte,zA,zB,zC,zD,zE,zF,reduceCtorEq]
 refine hK _ ?_
 refine af tt_ok fun K hK => ?_
 simp only [go_sem,reduceIte,zA,zB,zC,zD,zE,zF,reduceCtorEq]
 refine hK _ ?_
 have ht : ∀ l : List aC, (m ++ l).take (m.length + 2) = m ++ l.take 2 := fun l => by rw [List.take_append, List.take_of_length_le (by omega), Nat.add_sub_cancel_left]
 refine fb ⟨.inl rfl, rfl, by simp [ah, bA], ?_, ?_⟩
 ·dsimp only
  rw [ht, List.all_append, Bool.and_eq_true]
  exact ⟨c6 (by omega) hb, by simp [aB, ah]; omega⟩
 ·dsimp only
  rw [ht]; rfl
end Go.Proofs.YtefbaladomfccaaGreatDoor
end

section
namespace Go.Proofs.YtefbaladomfccaaGreatDoor
open Go.Eng
open Nat renaming reduceAdd → zA, reduceLT → zB, reduceLeDiff → zC, reduceMul → zD, reduceEqDiff → zE, reduceSub → zF
variable [aK]
set_option maxHeartbeats 4000000
set_option maxRecDepth 100000
def ae : List Md → Us → Option Dc
 | [], _ => none
 | m :: r, u => if m.path = u.1 then m.decls.find? (fun d => decide (d.name = u.2)) else ae r u
def dz : Dc := ⟨0, ⟨#[]⟩, false, false, ⟨#[]⟩, [], .mk 0 ⟨#[]⟩ ⟨#[]⟩ [] [], .mk 0 ⟨#[]⟩ ⟨#[]⟩ [] [], .mk 0 ⟨#[]⟩ ⟨#[]⟩ [] [], .mk 0 ⟨#[]⟩ ⟨#[]⟩ ⟨#[]⟩ 0 [] [] [], ⟨#[]⟩, ⟨#[]⟩⟩
def zI (p : List Md) (u : Us) : V := match ae p u with | none => .ch [.agg [num 0, str ⟨#[]⟩, bl false, bl false, str ⟨#[]⟩, .slice [], num 0, str ⟨#[]⟩, str ⟨#[]⟩, .slice [], .slice [], num 0, str ⟨#[]⟩, str ⟨#[]⟩, .slice [], .slice [], num 0, str ⟨#[]⟩, str ⟨#[]⟩, .slice [], .slice [], num 0, str ⟨#[]⟩, str ⟨#[]⟩, str ⟨#[]⟩, num 0, .slice [], .slice [], .slice [], str ⟨#[]⟩, str ⟨#[]⟩], bl false] | some d => .ch [fe d, bl true]
theorem xh {p : List Md} {u : Us} (h : ae p u = none) : zI p u = .ch [.agg [num 0, str ⟨#[]⟩, bl false, bl false, str ⟨#[]⟩, .slice [], num 0, str ⟨#[]⟩, str ⟨#[]⟩, .slice [], .slice [], num 0, str ⟨#[]⟩, str ⟨#[]⟩, .slice [], .slice [], num 0, str ⟨#[]⟩, str ⟨#[]⟩, .slice [], .slice [], num 0, str ⟨#[]⟩, str ⟨#[]⟩, str ⟨#[]⟩, num 0, .slice [], .slice [], .slice [], str ⟨#[]⟩, str ⟨#[]⟩], bl false] := by unfold zI; rw [h]
theorem tm {p : List Md} {u : Us} {d : Dc} (h : ae p u = some d) : zI p u = .ch [fe d, bl true] := by unfold zI; rw [h]
theorem tn {p : List Md} {u : Us} {i : Nat} {m : Md} (h : p[i]? = some m) : ae (p.drop i) u = if m.path = u.1 then m.decls.find? (fun d => decide (d.name = u.2)) else ae (p.drop (i + 1)) u := by
 rw [List.drop_eq_getElem_cons (List.getElem?_eq_some_iff.1 h).1, (List.getElem?_eq_some_iff.1 h).2, ae]
theorem vn {l : List Dc} {n : ByteArray} {j : Nat} {d : Dc} (h : l[j]? = some d) : (l.drop j).find? (fun d => decide (d.name = n)) = if d.name = n then some d else (l.drop (j + 1)).find? (fun d => decide (d.name = n)) := by
 rw [List.drop_eq_getElem_cons (List.getElem?_eq_some_iff.1 h).1, (List.getElem?_eq_some_iff.1 h).2]
 by_cases hd : d.name = n
 ·rw [if_pos hd, List.find?_cons_of_pos (by simpa using hd)]
 ·rw [if_neg hd, List.find?_cons_of_neg (by simpa using hd)]
theorem xj (p : List Md) (u : Us) (hl : p.length ≤ 1048576) (hw : ∀ m ∈ p, m.wt ≤ 1048576) : ∃ r_, (fun w => w = zI p u) r_ ∧ aR Tryz.prog 78 [.slice (p.map dv), az u] r_ := by
 refine eu tt_ok [] 54 [.cell 4 109, .tmp 5] (fn := Tryz.f78) Tryz.func78 rfl Tryz.call78 ⟨rfl, rfl, by simp⟩ fun K hK => ?_
 simp only [az]
 simp only [List.length_map,aJ,go_sem,reduceIte,zA,zB,zC,zD,zE,zF,reduceCtorEq]
 refine bk tt_ok [] [6] 2 [0,3,4] (fun vs => ((p.length : Int) - Go.Eng.intOf (vs.headD .undef)).toNat) (fun vs => ∃ i : Nat, vs = [num i] ∧ i ≤ p.length ∧ ae p u = ae (p.drop i) u) (by omega) (by simp only [List.length_map,aJ,go_sem,reduceIte,zA,zB,zC,zD,zE,zF,reduceCtorEq]) (⟨0, rfl, Nat.zero_le _, rfl⟩) fun vs hI Z1 bX => ?_
 obtain ⟨i, rfl, hi, ob⟩ := hI
 simp only [List.length_map,aJ,go_sem,reduceIte,zA,zB,zC,zD,zE,zF,reduceCtorEq]
 refine aT (fun nW => ?_) (fun nW => ?_)
 ·have bD : i < p.length := by simpa using nW
  have aP := aq i (by omega)
  obtain ⟨m, hx⟩ : ∃ m, p[i]? = some m := ⟨_, List.getElem?_eq_getElem bD⟩
  have Xf := hw m (List.mem_of_getElem? hx)
  have hmd : m.wt = 1 + m.path.size + ak Im.wt m.imports + ak Dc.wt m.decls := rfl
  have hZ := bs Dc.wt Dc.cO m.decls
  simp only [aP,hx,List.getElem?_map,aW,bm,List.length_map,aJ,go_sem,reduceIte,zA,zB,zC,zD,zE,zF,reduceCtorEq]
  refine bR tt_ok aN [⟨.n, 0, [], [], []⟩, ⟨.n, 0, [], [], []⟩, ⟨.r, 0, [], [], []⟩, ⟨.n, 0, [], [], []⟩, ⟨.r, 0, [], [], []⟩, ⟨.n, 0, [], [], []⟩, ⟨.r, 0, [], [], []⟩, ⟨.n, 0, [], [], []⟩] 0 (by kernel_rfl) ?_
  simp only [aP,hx,List.getElem?_map,aW,bm,List.length_map,aJ,go_sem,reduceIte,zA,zB,zC,zD,zE,zF,reduceCtorEq]
  refine aT (fun ra => ?_) (fun ra => ?_)
  ·have bL : ¬ m.path = u.1 := by simpa using ra
   simp only [aP,hx,List.getElem?_map,aW,bm,List.length_map,aJ,go_sem,reduceIte,zA,zB,zC,zD,zE,zF,reduceCtorEq]
   refine bX _ (b5 (by omega) (by simp only [aP,hx,List.getElem?_map,aW,bm,List.length_map,aJ,go_sem,reduceIte,zA,zB,zC,zD,zE,zF,reduceCtorEq]) ?_ ?_) <;> simp only [dY,lk,reduceIte,zE]
   ·exact ⟨i + 1, rfl, bD, by rw [ob, tn hx, if_neg bL]⟩
   ·simp only [Go.Eng.intOf,List.headD_cons]; omega
  ·have heq : m.path = u.1 := by simpa using ra
   have hsm : ae p u = (m.decls.drop 0).find? (fun d => decide (d.name = u.2)) := by rw [ob, tn hx, if_pos heq]; rfl
   simp only [aP,hx,List.getElem?_map,aW,bm,List.length_map,aJ,go_sem,reduceIte,zA,zB,zC,zD,zE,zF,reduceCtorEq]
   refine bk tt_ok [] [7] 2 [0,3,4,6,8,9,10,11,14,15,16,17,18,19,20,21] (fun vs => ((m.decls.length : Int) - Go.Eng.intOf (vs.headD .undef)).toNat) (fun vs => ∃ j : Nat, vs = [num j] ∧ j ≤ m.decls.length ∧ ae p u = (m.decls.drop j).find? (fun d => decide (d.name = u.2))) (by omega) (by simp only [aP,hx,List.getElem?_map,aW,bm,List.length_map,aJ,go_sem,reduceIte,zA,zB,zC,zD,zE,zF,reduceCtorEq]) (⟨0, rfl, Nat.zero_le _, hsm⟩) fun vs hI Z2 jD => ?_
   obtain ⟨j, rfl, hj, Xk⟩ := hI
   simp only [aP,hx,List.getElem?_map,aW,bm,List.length_map,aJ,go_sem,reduceIte,zA,zB,zC,zD,zE,zF,reduceCtorEq]
   refine aT (fun Io => ?_) (fun Io => ?_)
   ·have iM : j < m.decls.length := by simpa using Io
    have ml := aq j (by omega)
    obtain ⟨d, hd⟩ : ∃ d, m.decls[j]? = some d := ⟨_, List.getElem?_eq_getElem iM⟩
    simp only [aP,hx,List.getElem?_map,aW,bm,ml,hd,aD,aG,ai,al,List.cons_append,List.nil_append,List.length_map,aJ,go_sem,reduceIte,zA,zB,zC,zD,zE,zF,reduceCtorEq]
    refine bR tt_ok aN [⟨.n, 0, [], [], []⟩, ⟨.n, 0, [], [], []⟩, ⟨.r, 0, [], [], []⟩, ⟨.n, 0, [], [], []⟩, ⟨.r, 0, [], [], []⟩, ⟨.n, 0, [], [], []⟩, ⟨.r, 0, [], [], []⟩, ⟨.n, 0, [], [], []⟩, ⟨.r, 0, [], [], []⟩, ⟨.n, 0, [], [], []⟩, ⟨.r, 0, [], [], []⟩, ⟨.n, 0, [], [], []⟩] 0 (by kernel_rfl) ?_
    simp only [aP,hx,List.getElem?_map,aW,bm,ml,hd,aD,aG,ai,al,List.cons_append,List.nil_append,List.length_map,aJ,go_sem,reduceIte,zA,zB,zC,zD,zE,zF,reduceCtorEq]
    refine aT (fun PD => ?_) (fun PD => ?_)
    ·have Xl : d.name = u.2 := by simpa using PD
     have ax := tm (p := p) (u := u) (d := d) (by rw [Xk, vn hd, if_pos Xl])
     rw [aD] at ax
     simp only [kd,aG,ai,al] at ax
     simp only [aP,hx,List.getElem?_map,aW,bm,ml,hd,aD,aG,ai,al,List.cons_append,List.nil_append,List.length_map,aJ,go_sem,reduceIte,zA,zB,zC,zD,zE,zF,reduceCtorEq]
     exact hK _ ax.symm
    ·have Xl : ¬ d.name = u.2 := by simpa using PD
     simp only [aP,hx,List.getElem?_map,aW,bm,ml,hd,aD,aG,ai,al,List.cons_append,List.nil_append,List.length_map,aJ,go_sem,reduceIte,zA,zB,zC,zD,zE,zF,reduceCtorEq]
     refine jD _ (b5 (by omega) (by simp only [aP,hx,List.getElem?_map,aW,bm,ml,hd,aD,aG,ai,al,List.cons_append,List.nil_append,List.length_map,aJ,go_sem,reduceIte,zA,zB,zC,zD,zE,zF,reduceCtorEq]) ?_ ?_) <;> simp only [dY,lk,reduceIte,zE]
     ·exact ⟨j + 1, rfl, iM, by rw [Xk, vn hd, if_neg Xl]⟩
     ·simp only [Go.Eng.intOf,List.headD_cons]; omega
   ·have th : j = m.decls.length := by have := of_decide_eq_false Io; omega
    have ax := xh (p := p) (u := u) (by rw [Xk, th, List.drop_length]; rfl)
    simp only [aP,hx,List.getElem?_map,aW,bm,List.length_map,aJ,go_sem,reduceIte,zA,zB,zC,zD,zE,zF,reduceCtorEq]
    exact hK _ ax.symm
 ·have gw : i = p.length := by have := of_decide_eq_false nW; omega
  have ax := xh (p := p) (u := u) (by rw [ob, gw, List.drop_length]; rfl)
  simp only [List.length_map,aJ,go_sem,reduceIte,zA,zB,zC,zD,zE,zF,reduceCtorEq]
  exact hK _ ax.symm
theorem iq (p : List Md) (u : Us) (hl : p.length ≤ 1048576) (hw : ∀ m ∈ p, m.wt ≤ 1048576) : ∃ r_, (fun w => w = mq (ae p) u) r_ ∧ aR Tryz.prog 43 [.slice (p.map dv), az u] r_ := by
 refine eu tt_ok [] 42 [.cell 4 78, .tmp 5] (fn := Tryz.f43) Tryz.func43 rfl Tryz.call43 ⟨rfl, rfl, by simp⟩ fun K hK => ?_
 simp only [az]
 simp only [go_sem,reduceIte,zA,zB,zC,zD,zE,zF,reduceCtorEq]
 refine dk tt_ok [] (fun a : Nat × Us => [(0, .slice (p.map dv)), (3, .ptr 0 0), (4, .ptr 1 0), (6, num a.1)]) (fun a : Nat × Us => [.box [str a.2.1, str a.2.2], .box [str ⟨#[]⟩, str ⟨#[]⟩]]) (fun a => 4097 - a.1) (fun a => a.1 ≤ 4097 ∧ leads (ae p) u = mm (ae p) (4097 - a.1) a.2) ((0, u)) 2 (bz (by omega) (by simp only [Int.cast_ofNat_Int,go_sem,reduceIte,zA,zB,zC,zD,zE,zF,reduceCtorEq] <;> rfl)) (⟨Nat.zero_le _, rfl⟩) ?_
 intro ⟨i, v⟩ ⟨hi, gW⟩
 try dsimp only at hi gW
 try dsimp only
 intro Z1 bX
 simp only [go_sem,reduceIte,zA,zB,zC,zD,zE,zF,reduceCtorEq]
 refine aT (fun fI => ?_) (fun fI => ?_)
 ·have aL : i < 4097 := by have := of_decide_eq_true fI; omega
  have aP := aq i (by omega)
  rcases lz : ae p v with _ | d
  ·have ax := fw (u := u) (look := ae p) (by rw [gV aL gW]; (try dsimp only); rw [lz])
   simp only [go_sem,reduceIte,zA,zB,zC,zD,zE,zF,reduceCtorEq]
   refine cF (by have h := xj p v hl hw; rw [xh lz] at h; simp only [az] at h; exact h) ?_
   rintro _ rfl
   simp only [go_sem,reduceIte,zA,zB,zC,zD,zE,zF,reduceCtorEq]
   exact hK _ ax.symm
  ·simp only [go_sem,reduceIte,zA,zB,zC,zD,zE,zF,reduceCtorEq]
   refine cF (by have h := xj p v hl hw; rw [tm lz, aD] at h; simp only [kd,az,aG,ai,al] at h; exact h) ?_
   rintro _ rfl
   simp only [go_sem,reduceIte,zA,zB,zC,zD,zE,zF,reduceCtorEq]
   refine aT (fun Ip => ?_) (fun Ip => ?_)
   ·have dP : ¬ d.kind = 1 := by simpa using Ip
    simp only [go_sem,reduceIte,zA,zB,zC,zD,zE,zF,reduceCtorEq]
    refine aT (fun rb => ?_) (fun rb => ?_)
    ·have iz : ¬ d.kind = 2 := by simpa using rb
     have ax := fw (u := u) (look := ae p) (by rw [gV aL gW]; (try dsimp only); rw [lz]; (try dsimp only); rw [if_neg dP, if_neg iz])
     simp only [go_sem,reduceIte,zA,zB,zC,zD,zE,zF,reduceCtorEq]
     exact hK _ ax.symm
    ·have iz : d.kind = 2 := by simpa using rb
     simp only [go_sem,reduceIte,zA,zB,zC,zD,zE,zF,reduceCtorEq]
     refine aT (fun nX => ?_) (fun nX => ?_)
     ·have dP : d.kind = 1 := of_decide_eq_true nX
      have ax := gh (u := u) (look := ae p) (v := v) (by rw [gV aL gW]; (try dsimp only); rw [lz]; (try dsimp only); rw [if_pos dP])
      simp only [go_sem,reduceIte,zA,zB,zC,zD,zE,zF,reduceCtorEq]
      exact hK _ ax.symm
     ·have dP : ¬ d.kind = 1 := of_decide_eq_false nX
      have iz : d.kind = 2 := by first | exact iz | (exfalso; simp_all)
      simp only [go_sem,reduceIte,zA,zB,zC,zD,zE,zF,reduceCtorEq]
      refine bX _ ⟨(i + 1, (d.mod, d.target)), ?_, ?_, bz (by omega) (by (simp only [aP,go_sem,reduceIte,zA,zB,zC,zD,zE,zF,reduceCtorEq]))⟩
      ·exact ⟨aL, by rw [gV aL gW]; (try dsimp only); rw [lz]; (try dsimp only); rw [if_neg dP, if_pos iz]⟩
      ·dsimp only; omega
   ·have dP : d.kind = 1 := by simpa using Ip
    simp only [go_sem,reduceIte,zA,zB,zC,zD,zE,zF,reduceCtorEq]
    refine aT (fun nX => ?_) (fun nX => ?_)
    ·have dP : d.kind = 1 := of_decide_eq_true nX
     have ax := gh (u := u) (look := ae p) (v := v) (by rw [gV aL gW]; (try dsimp only); rw [lz]; (try dsimp only); rw [if_pos dP])
     simp only [go_sem,reduceIte,zA,zB,zC,zD,zE,zF,reduceCtorEq]
     exact hK _ ax.symm
    ·have dP : ¬ d.kind = 1 := of_decide_eq_false nX
     have iz : d.kind = 2 := by first | exact iz | (exfalso; simp_all)
     simp only [go_sem,reduceIte,zA,zB,zC,zD,zE,zF,reduceCtorEq]
     refine bX _ ⟨(i + 1, (d.mod, d.target)), ?_, ?_, bz (by omega) (by (simp only [aP,go_sem,reduceIte,zA,zB,zC,zD,zE,zF,reduceCtorEq]))⟩
     ·exact ⟨aL, by rw [gV aL gW]; (try dsimp only); rw [lz]; (try dsimp only); rw [if_neg dP, if_pos iz]⟩
     ·dsimp only; omega
 ·have cP : i = 4097 := by have := of_decide_eq_false fI; omega
  have ax := fw (u := u) (look := ae p) (by rw [gW, cP]; rfl)
  simp only [go_sem,reduceIte,zA,zB,zC,zD,zE,zF,reduceCtorEq]
  exact hK _ ax.symm
end Go.Proofs.YtefbaladomfccaaGreatDoor
end

section
namespace Go.Proofs.YtefbaladomfccaaGreatDoor
open Go.Eng
open Nat renaming reduceAdd → zA, reduceLT → zB, reduceLeDiff → zC, reduceMul → zD, reduceEqDiff → zE, reduceSub → zF
variable [aK]
set_option maxHeartbeats 4000000
set_option maxRecDepth 100000
theorem Li (a b : Us) : ∃ r_, (fun w => w = bl (dM a b)) r_ ∧ aR Tryz.prog 132 [az a, az b] r_ := by
 refine eu tt_ok [] 24 [.tmp 4] (fn := Tryz.f132) Tryz.func132 rfl Tryz.call132 ⟨rfl, rfl, by simp⟩ fun K hK => ?_
 simp only [az]
 simp only [go_sem,reduceIte,zA,zB,zC,zD,zE,zF,reduceCtorEq]
 refine aT (fun zJ => ?_) (fun zJ => ?_)
 ·simp only [go_sem,reduceIte,zA,zB,zC,zD,zE,zF,reduceCtorEq]
  refine hK _ (congrArg bl ?_)
  simp_all [dM, qb, aJ]
 ·simp only [go_sem,reduceIte,zA,zB,zC,zD,zE,zF,reduceCtorEq]
  refine aT (fun PE => ?_) (fun PE => ?_)
  ·simp only [go_sem,reduceIte,zA,zB,zC,zD,zE,zF,reduceCtorEq]
   refine hK _ (congrArg bl ?_)
   simp_all [dM, qb, aJ]
  ·simp only [go_sem,reduceIte,zA,zB,zC,zD,zE,zF,reduceCtorEq]
   refine hK _ (congrArg bl ?_)
   simp_all [dM, qb, aJ]
theorem ML (l : List Us) (s : Us) (hl : l.length ≤ 1048576) : ∃ r_, (fun v => v = .slice ((im dM l s).map az)) r_ ∧ aR Tryz.prog 89 [.slice (l.map az), az s] r_ := by
 refine eu tt_ok [1,20000] 45 [.tmp 4] (fn := Tryz.f89) Tryz.func89 rfl Tryz.call89 ⟨rfl, rfl, by simp⟩ fun K hK => ?_
 simp only [az]
 simp only [List.length_map,go_sem,reduceIte,zA,zB,zC,zD,zE,zF,reduceCtorEq]
 refine KE 3 (by decide) rfl rfl rfl ?_
 refine Mw tt_ok [1,20000] ?_
 simp only [List.length_map,go_sem,reduceIte,zA,zB,zC,zD,zE,zF,reduceCtorEq]
 refine Mx tt_ok [1,20000] [5] 1 [0,3,4] (fun vs => ∃ i : Nat, vs = [num i] ∧ i ≤ l.length ∧ (∀ j < i, ∀ b, l[j]? = some b → dM b s = true) ∧ ∀ b, l[i]? = some b → dM b s = false) (fun Z1 bX => ?_) ?_
 ·simp only [List.length_map,go_sem,reduceIte,zA,zB,zC,zD,zE,zF,reduceCtorEq]
  refine bk tt_ok [1,20000] [5] 1 [0,3,4] (fun vs => ((l.length : Int) - Go.Eng.intOf (vs.headD .undef)).toNat) (fun vs => ∃ i : Nat, vs = [num i] ∧ i ≤ l.length ∧ ∀ j < i, ∀ b, l[j]? = some b → dM b s = true) (by omega) (by simp only [List.length_map,go_sem,reduceIte,zA,zB,zC,zD,zE,zF,reduceCtorEq]) (⟨0, rfl, Nat.zero_le _, fun j hj => absurd hj (Nat.not_lt_zero j)⟩) fun vs hI Z2 jD => ?_
  obtain ⟨i, rfl, hi, cT⟩ := hI
  simp only [List.length_map,go_sem,reduceIte,zA,zB,zC,zD,zE,zF,reduceCtorEq]
  refine bR tt_ok aN [⟨.n, 0, [], [], []⟩, ⟨.n, 0, [], [], []⟩, ⟨.n, 0, [], [], []⟩, ⟨.n, 0, [], [], []⟩, ⟨.n, 0, [], [], []⟩, ⟨.n, 0, [], [], []⟩, ⟨.n, 0, [], [], []⟩, ⟨.r, 0, [], [], []⟩, ⟨.r, 0, [], [], []⟩, ⟨.r, 0, [], [], []⟩, ⟨.n, 0, [], [], []⟩, ⟨.n, 0, [], [], []⟩] 0 (by kernel_rfl) ?_
  simp only [List.length_map,go_sem,reduceIte,zA,zB,zC,zD,zE,zF,reduceCtorEq]
  refine aT (fun Iq => ?_) (fun Iq => ?_)
  ·have aL : i < l.length := by have := of_decide_eq_true Iq; omega
   obtain ⟨x, hx⟩ : ∃ x, l[i]? = some x := ⟨_, List.getElem?_eq_getElem aL⟩
   have hw := aq i (by omega)
   simp only [List.getElem?_map,hx,hw,az,aX,List.length_map,go_sem,reduceIte,zA,zB,zC,zD,zE,zF,reduceCtorEq]
   refine cG (by have h := Li x s; simp only [az] at h; exact h) ?_
   rintro _ rfl
   simp only [List.getElem?_map,hx,hw,az,aX,List.length_map,go_sem,reduceIte,zA,zB,zC,zD,zE,zF,reduceCtorEq]
   refine aT (fun jv => ?_) (fun jv => ?_)
   ·have kG : dM x s = true := by simpa using jv
    simp only [List.getElem?_map,hx,hw,az,aX,List.length_map,go_sem,reduceIte,zA,zB,zC,zD,zE,zF,reduceCtorEq]
    refine jD _ (b5 (by omega) (by simp only [List.getElem?_map,hx,hw,az,aX,List.length_map,go_sem,reduceIte,zA,zB,zC,zD,zE,zF,reduceCtorEq]) ?_ ?_) <;> simp only [dY,lk,reduceIte,zE]
    ·refine ⟨i + 1, rfl, aL, fun j hj b hb => ?_⟩
     rcases Nat.lt_or_ge j i with h | h
     ·exact cT j h b hb
     ·obtain rfl : j = i := by omega
      rw [hx] at hb; cases hb; exact kG
    ·simp only [Go.Eng.intOf,List.headD_cons]; omega
   ·have cP : ∀ b, l[i]? = some b → dM b s = false := fun b hb => by rw [hx] at hb; cases hb; simpa using jv
    simp only [List.getElem?_map,hx,hw,az,aX,List.length_map,go_sem,reduceIte,zA,zB,zC,zD,zE,zF,reduceCtorEq]
    refine bX _ (Hq (by omega) (by simp only [List.getElem?_map,hx,hw,az,aX,List.length_map,go_sem,reduceIte,zA,zB,zC,zD,zE,zF,reduceCtorEq]) ?_)
    simp only [dY,lk,reduceIte,zE]
    exact ⟨i, rfl, hi, cT, cP⟩
  ·have cP : ∀ b, l[i]? = some b → dM b s = false := fun b hb => by have := (List.getElem?_eq_some_iff.1 hb).1; have := of_decide_eq_false Iq; omega
   simp only [List.length_map,go_sem,reduceIte,zA,zB,zC,zD,zE,zF,reduceCtorEq]
   refine bX _ (Hq (by omega) (by simp only [List.length_map,go_sem,reduceIte,zA,zB,zC,zD,zE,zF,reduceCtorEq]) ?_)
   simp only [dY,lk,reduceIte,zE]
   exact ⟨i, rfl, hi, cT, cP⟩
 ·intro vs hJ
  obtain ⟨i, rfl, hi, cT, cP⟩ := hJ
  have PF := Ds cT hi cP
  simp only [List.length_map,go_sem,reduceIte,zA,zB,zC,zD,zE,zF,reduceCtorEq]
  refine bR tt_ok aN [⟨.n, 0, [], [], []⟩, ⟨.n, 0, [], [], []⟩, ⟨.n, 0, [], [], []⟩, ⟨.n, 0, [], [], []⟩, ⟨.n, 0, [], [], []⟩, ⟨.n, 0, [], [], []⟩, ⟨.n, 0, [], [], []⟩, ⟨.r, 0, [], [], []⟩, ⟨.r, 0, [], [], []⟩, ⟨.r, 0, [], [], []⟩, ⟨.n, 0, [], [], []⟩, ⟨.n, 0, [], [], []⟩] 0 (by kernel_rfl) ?_
  simp only [List.length_map,go_sem,reduceIte,zA,zB,zC,zD,zE,zF,reduceCtorEq]
  refine aT (fun tp => ?_) (fun tp => ?_)
  ·have aL : i < l.length := by have := of_decide_eq_true tp; omega
   obtain ⟨x, hx⟩ : ∃ x, l[i]? = some x := ⟨_, List.getElem?_eq_getElem aL⟩
   simp only [List.getElem?_map,hx,az,aX,List.length_map,go_sem,reduceIte,zA,zB,zC,zD,zE,zF,reduceCtorEq]
   refine aT (fun fp => ?_) (fun fp => ?_)
   ·have kG : x = s := by simpa using fp
    have ax : V.slice (l.map az) = .slice ((im dM l s).map az) := by rw [PF, if_pos (by rw [hx, kG])]
    simp only [List.getElem?_map,hx,az,aX,List.length_map,go_sem,reduceIte,zA,zB,zC,zD,zE,zF,reduceCtorEq]
    first
     | exact hK _ ax
     | (refine hK _ ?_; rw [← ax, List.take_of_length_le (by simp; omega)]; simp [az])
   ·have kG : ¬ x = s := by simpa using fp
    have AB : ¬ l[i]? = some s := by rw [hx]; exact fun e => kG (Option.some.inj e)
    have ax : (V.slice (((l.take i) ++ [s] ++ (l.drop i)).map az)) = .slice ((im dM l s).map az) := by rw [PF, if_neg AB]
    have Jy := fun mem => HM l az 2 (fun _ => rfl) i hi mem
    have Ao := fun mem => zf l az 2 (fun _ => rfl) i hi mem
    have Gy := fun (k : List Us) => zg k az 2 (fun _ => rfl)
    have F0 : cd [V.agg [V.sc (.string s.1), V.sc (.string s.2)]] 0 2 = true := rfl
    have xk : (l.take i).length ≤ 34359738368 := by rw [List.length_take]; omega
    have yq : (l.take i).length + 1 ≤ 34359738368 := by rw [List.length_take]; omega
    have Ir : (l.take i).length + 1 + (l.drop i).length ≤ 34359738368 := by rw [List.length_take, List.length_drop]; omega
    simp only [List.getElem?_map,hx,az,aX,Jy,Ao,Gy,F0,List.length_append,List.length_cons,List.length_nil,Nat.zero_add,xk,yq,Ir,xk,List.length_map,go_sem,reduceIte,zA,zB,zC,zD,zE,zF,reduceCtorEq]
    refine bR tt_ok aN [⟨.a, 0, [], [], []⟩, ⟨.n, 0, [], [], []⟩, ⟨.n, 0, [], [], []⟩, ⟨.r, 0, [0], [1,2], []⟩, ⟨.w, 1, [], [0,1,2,3], []⟩, ⟨.b, 0, [], [], []⟩, ⟨.n, 0, [], [5], []⟩, ⟨.w, 2, [], [0,1,2,3,4,5,6], []⟩, ⟨.n, 0, [], [], []⟩, ⟨.n, 0, [], [], []⟩, ⟨.n, 0, [], [8,9], []⟩, ⟨.w, 3, [], [0,1,2,3,4,5,6,7,8,9,10], []⟩, ⟨.n, 0, [], [0,1,2,3,4,5,6,7,8,9,10,11], []⟩] 4 (by kernel_rfl) ?_
    simp only [List.getElem?_map,hx,az,aX,Jy,Ao,Gy,F0,List.length_append,List.length_cons,List.length_nil,Nat.zero_add,xk,yq,Ir,xk,List.length_map,go_sem,reduceIte,zA,zB,zC,zD,zE,zF,reduceCtorEq]
    first
     | exact hK _ ax
     | (refine hK _ ?_; rw [← ax, List.take_of_length_le (by simp; omega)]; simp [az])
  ·have AB : ¬ l[i]? = some s := fun h => by have := (List.getElem?_eq_some_iff.1 h).1; have := of_decide_eq_false tp; omega
   have ax : (V.slice (((l.take i) ++ [s] ++ (l.drop i)).map az)) = .slice ((im dM l s).map az) := by rw [PF, if_neg AB]
   have Jy := fun mem => HM l az 2 (fun _ => rfl) i hi mem
   have Ao := fun mem => zf l az 2 (fun _ => rfl) i hi mem
   have Gy := fun (k : List Us) => zg k az 2 (fun _ => rfl)
   have F0 : cd [V.agg [V.sc (.string s.1), V.sc (.string s.2)]] 0 2 = true := rfl
   have xk : (l.take i).length ≤ 34359738368 := by rw [List.length_take]; omega
   have yq : (l.take i).length + 1 ≤ 34359738368 := by rw [List.length_take]; omega
   have Ir : (l.take i).length + 1 + (l.drop i).length ≤ 34359738368 := by rw [List.length_take, List.length_drop]; omega
   simp only [Jy,Ao,Gy,F0,List.length_append,List.length_cons,List.length_nil,Nat.zero_add,xk,yq,Ir,xk,List.length_map,go_sem,reduceIte,zA,zB,zC,zD,zE,zF,reduceCtorEq]
   refine bR tt_ok aN [⟨.a, 0, [], [], []⟩, ⟨.n, 0, [], [], []⟩, ⟨.n, 0, [], [], []⟩, ⟨.r, 0, [0], [1,2], []⟩, ⟨.w, 1, [], [0,1,2,3], []⟩, ⟨.b, 0, [], [], []⟩, ⟨.n, 0, [], [5], []⟩, ⟨.w, 2, [], [0,1,2,3,4,5,6], []⟩, ⟨.n, 0, [], [], []⟩, ⟨.n, 0, [], [], []⟩, ⟨.n, 0, [], [8,9], []⟩, ⟨.w, 3, [], [0,1,2,3,4,5,6,7,8,9,10], []⟩, ⟨.n, 0, [], [0,1,2,3,4,5,6,7,8,9,10,11], []⟩] 4 (by kernel_rfl) ?_
   simp only [Jy,Ao,Gy,F0,List.length_append,List.length_cons,List.length_nil,Nat.zero_add,xk,yq,Ir,xk,List.length_map,go_sem,reduceIte,zA,zB,zC,zD,zE,zF,reduceCtorEq]
   first
    | exact hK _ ax
    | (refine hK _ ?_; rw [← ax, List.take_of_length_le (by simp; omega)]; simp [az])
end Go.Proofs.YtefbaladomfccaaGreatDoor
end

section
namespace Go.Proofs.YtefbaladomfccaaGreatDoor
open Go.Eng
open Nat renaming reduceAdd → zA, reduceLT → zB, reduceLeDiff → zC, reduceMul → zD, reduceEqDiff → zE, reduceSub → zF
variable [aK]
set_option maxHeartbeats 4000000
set_option maxRecDepth 100000
theorem lb {α : Type} [DecidableEq α] (lt : α → α → Bool) (l a b : List α) : a7 lt l (a ++ b) = a7 lt (a7 lt l a) b := by unfold a7; rw [List.foldl_append]
theorem zK {α : Type} [DecidableEq α] (lt : α → α → Bool) : ∀ (l : List α) (s : α), (im lt l s).length ≤ l.length + 1
 | [], s => by simp [im]
 | a :: r, s => by
  unfold im
  split
  ·have := zK lt r s; simp only [List.length_cons]; omega
  ·split <;> simp
theorem e6 {α : Type} [DecidableEq α] (lt : α → α → Bool) : ∀ (m l : List α), (a7 lt l m).length ≤ l.length + m.length
 | [], l => Nat.le_refl _
 | s :: m, l => by
  have h1 := e6 lt m (im lt l s)
  have h2 := zK lt l s
  show (a7 lt (im lt l s) m).length ≤ _
  rw [List.length_cons]; omega
theorem Lj (look : Us → Option Dc) (e : Ex) (i : Nat) : ((e.kids.take i).flatMap (cJ look)).length + (gA look e).length ≤ e.wt := by
 have h := gJ look e
 rw [ti, List.length_append] at h
 have h2 : ((e.kids.take i).flatMap (cJ look)).length ≤ (e.kids.flatMap (cJ look)).length := by
  conv => rhs; rw [← List.take_append_drop i e.kids]
  rw [List.flatMap_append, List.length_append]; omega
 omega
theorem zL (look : Us → Option Dc) (e : Ex) (i : Nat) {y : Ex} (hy : e.kids[i]? = some y) : (gA look e).length + ((e.kids.take i).flatMap (cJ look)).length + y.wt ≤ e.wt := by
 have key : ∀ (ks : List Ex) (i : Nat), ks[i]? = some y → ((ks.take i).flatMap (cJ look)).length + y.wt ≤ o8 ks := by
  intro ks
  induction ks with
  | nil => intro i h; simp at h
  | cons a r ih =>
   intro i h
   cases i with
   | zero => simp at h; subst h; simp [o8]
   | succ i =>
    have := ih i (by simpa using h)
    have h2 := gJ look a
    rw [List.take_succ_cons, List.flatMap_cons, List.length_append]
    simp only [o8]; omega
 have h1 := key e.kids i hy
 have h2 := zy look e
 obtain ⟨k, m, n, t, z, ts, ls, ks⟩ := e
 simp only [Ex.wt] at h1 ⊢
 simp only [Ex.kids] at h1 ⊢
 omega
theorem Fb (p : List Md) (hl : p.length ≤ 1048576) (hw : ∀ m ∈ p, m.wt ≤ 1048576) (N : Nat) (ih : ∀ (e : Ex) (out : List Us), e.wt ≤ N → out.length + e.wt ≤ 1048576 → ∃ r_, (fun w => w = V.slice ((a7 dM out (cJ (ae p) e)).map az)) r_ ∧ aR Tryz.prog 79 [.slice (p.map dv), iR e, .slice (out.map az)] r_) (e : Ex) (out : List Us) (hN : e.wt ≤ N + 1) (hb : out.length + e.wt ≤ 1048576) : ∃ r_, (fun w => w = .slice ((a7 dM out (cJ (ae p) e)).map az)) r_ ∧ aR Tryz.prog 79 [.slice (p.map dv), iR e, .slice (out.map az)] r_ := by
 refine eu tt_ok [30000] 43 [.tmp 6] (fn := Tryz.f79) Tryz.func79 rfl Tryz.call79 ⟨rfl, rfl, by simp⟩ fun K hK => ?_
 have U9 := e.mR
 have gC := e.cO
 rw [bJ]
 simp only [al]
 simp only [List.length_map,aw,go_sem,reduceIte,zA,zB,zC,zD,zE,zF,reduceCtorEq]
 refine Mx tt_ok [30000] [2] 1 [0,1,4,6] (fun vs => vs = [.slice ((a7 dM out (gA (ae p) e)).map az)]) (fun Z1 bX => ?_) ?_
 ·simp only [List.length_map,aw,go_sem,reduceIte,zA,zB,zC,zD,zE,zF,reduceCtorEq]
  refine aT (fun na => ?_) (fun na => ?_)
  ·rcases gW : leads (ae p) (e.mod, e.name) with _ | v
   ·have hO : a7 dM out (gA (ae p) e) = out := by unfold gA; rw [na, gW]; rfl
    simp only [List.length_map,aw,go_sem,reduceIte,zA,zB,zC,zD,zE,zF,reduceCtorEq]
    refine cF (by have h := iq p (e.mod, e.name) hl hw; rw [fw gW] at h; simp only [az] at h; exact h) ?_
    rintro _ rfl
    simp only [List.length_map,aw,go_sem,reduceIte,zA,zB,zC,zD,zE,zF,reduceCtorEq]
    refine bX _ (Hq (by omega) (by simp only [List.length_map,aw,go_sem,reduceIte,zA,zB,zC,zD,zE,zF,reduceCtorEq]) ?_)
    simp only [dY,lk,reduceIte,zE]
    simp only [hO]
   ·have hO : a7 dM out (gA (ae p) e) = im dM out v := by unfold gA; rw [na, gW]; rfl
    simp only [List.length_map,aw,go_sem,reduceIte,zA,zB,zC,zD,zE,zF,reduceCtorEq]
    refine cF (by have h := iq p (e.mod, e.name) hl hw; rw [gh gW] at h; simp only [az] at h; exact h) ?_
    rintro _ rfl
    simp only [List.length_map,aw,go_sem,reduceIte,zA,zB,zC,zD,zE,zF,reduceCtorEq]
    refine cF (by have h := ML out v (by omega); simp only [az] at h; exact h) ?_
    rintro _ rfl
    simp only [List.length_map,aw,go_sem,reduceIte,zA,zB,zC,zD,zE,zF,reduceCtorEq]
    refine bX _ (Hq (by omega) (by simp only [List.length_map,aw,go_sem,reduceIte,zA,zB,zC,zD,zE,zF,reduceCtorEq]) ?_)
    simp only [dY,lk,reduceIte,zE]
    simp only [hO]
  ·have hO : a7 dM out (gA (ae p) e) = out := by unfold gA; rw [na]; rfl
   simp only [List.length_map,aw,go_sem,reduceIte,zA,zB,zC,zD,zE,zF,reduceCtorEq]
   refine bX _ (Hq (by omega) (by simp only [List.length_map,aw,go_sem,reduceIte,zA,zB,zC,zD,zE,zF,reduceCtorEq]) ?_)
   simp only [dY,lk,reduceIte,zE]
   simp only [hO]
 ·intro vs hJ
  subst hJ
  simp only [List.length_map,aw,go_sem,reduceIte,zA,zB,zC,zD,zE,zF,reduceCtorEq]
  refine sq tt_ok [30000] ?_
  simp only [List.length_map,aw,go_sem,reduceIte,zA,zB,zC,zD,zE,zF,reduceCtorEq]
  refine bk tt_ok [30000] [9,2] 1 [0,4,6,12,23] (fun vs => ((e.kids.length : Int) - Go.Eng.intOf (vs.headD .undef)).toNat) (fun vs => ∃ i : Nat, vs = [num i, .slice ((a7 dM (a7 dM out (gA (ae p) e)) ((e.kids.take i).flatMap (cJ (ae p)))).map az)] ∧ i ≤ e.kids.length) (by omega) (by simp only [List.length_map,aw,go_sem,reduceIte,zA,zB,zC,zD,zE,zF,reduceCtorEq]) (⟨0, rfl, Nat.zero_le _⟩) fun vs hI Z2 jD => ?_
  obtain ⟨i, rfl, hi⟩ := hI
  simp only [List.length_map,aw,go_sem,reduceIte,zA,zB,zC,zD,zE,zF,reduceCtorEq]
  refine sq tt_ok [30000] ?_
  simp only [List.length_map,aw,go_sem,reduceIte,zA,zB,zC,zD,zE,zF,reduceCtorEq]
  refine aT (fun fp => ?_) (fun fp => ?_)
  ·have bD : i < e.kids.length := by simpa using fp
   have aP := aq i (by omega)
   obtain ⟨y, hy⟩ : ∃ y, e.kids[i]? = some y := ⟨_, List.getElem?_eq_getElem bD⟩
   have Pw : a7 dM (a7 dM out (gA (ae p) e)) ((e.kids.take (i + 1)).flatMap (cJ (ae p))) = a7 dM (a7 dM (a7 dM out (gA (ae p) e)) ((e.kids.take i).flatMap (cJ (ae p)))) (cJ (ae p) y) := by rw [List.take_add_one, hy]; simp only [Option.toList_some,List.flatMap_append,lb,List.flatMap_cons,List.flatMap_nil,List.append_nil]
   have fh : (a7 dM (a7 dM out (gA (ae p) e)) ((e.kids.take i).flatMap (cJ (ae p)))).length + y.wt ≤ 1048576 := by have h1 := Lj (ae p) e i; have h2 := e6 dM (gA (ae p) e) out; have h3 := e6 dM ((e.kids.take i).flatMap (cJ (ae p))) (a7 dM out (gA (ae p) e)); have h4 := zL (ae p) e i hy; omega
   simp only [aP,hy,ez,bJ,al,List.length_map,aw,go_sem,reduceIte,zA,zB,zC,zD,zE,zF,reduceCtorEq]
   refine cF (by have h := ih y (a7 dM (a7 dM out (gA (ae p) e)) ((e.kids.take i).flatMap (cJ (ae p)))) (by have h1 := Ex.sM (List.mem_of_getElem? hy); omega) fh; rw [bJ] at h; simp only [al] at h; exact h) ?_
   rintro _ rfl
   simp only [aP,hy,ez,bJ,al,List.length_map,aw,go_sem,reduceIte,zA,zB,zC,zD,zE,zF,reduceCtorEq]
   refine jD _ (b5 (by omega) (by simp only [aP,hy,ez,bJ,al,List.length_map,aw,go_sem,reduceIte,zA,zB,zC,zD,zE,zF,reduceCtorEq]) ?_ ?_) <;> simp only [dY,lk,reduceIte,zE]
   ·exact ⟨i + 1, by rw [Pw], bD⟩
   ·simp only [Go.Eng.intOf,List.headD_cons]; omega
  ·have gw : i = e.kids.length := by have := of_decide_eq_false fp; omega
   have ax : a7 dM (a7 dM out (gA (ae p) e)) ((e.kids.take i).flatMap (cJ (ae p))) = a7 dM out (cJ (ae p) e) := by rw [gw, List.take_length, ← lb, ← ti]
   simp only [List.length_map,aw,go_sem,reduceIte,zA,zB,zC,zD,zE,zF,reduceCtorEq]
   exact hK _ (by rw [ax])
theorem Lk (p : List Md) (hl : p.length ≤ 1048576) (hw : ∀ m ∈ p, m.wt ≤ 1048576) : ∀ (N : Nat) (e : Ex) (out : List Us), e.wt ≤ N → out.length + e.wt ≤ 1048576 → ∃ r_, (fun w => w = V.slice ((a7 dM out (cJ (ae p) e)).map az)) r_ ∧ aR Tryz.prog 79 [.slice (p.map dv), iR e, .slice (out.map az)] r_ := by
 intro N
 induction N with
 | zero => intro e out h; have := e.cO; omega
 | succ N ih => intro e out h hb; exact Fb p hl hw N ih e out h hb
def dW (look : Us → Option Dc) (u : Us) : List Us := a7 dM [] (cJ look ((look u).getD dz).expr)
def eJ (look : Us → Option Dc) (u : Us) : List Us := match leads look u with | none => [] | some v => dW look v
def vo (look : Us → Option Dc) (u : Us) : V := .slice ((eJ look u).map az)
theorem Is {look : Us → Option Dc} {u : Us} (h : leads look u = none) : V.slice [] = vo look u := by unfold vo eJ; rw [h]; rfl
theorem Fc {look : Us → Option Dc} {u v : Us} (h : leads look u = some v) : V.slice ((dW look v).map az) = vo look u := by unfold vo eJ; rw [h]
theorem tq {look : Us → Option Dc} : ∀ {n : Nat} {u v : Us}, mm look n u = some v → ∃ d, look v = some d ∧ d.kind = 1
 | 0, u, v, h => by cases h
 | n + 1, u, v, h => by
  unfold mm at h
  split at h
  ·cases h
  ·rename_i d hd
   split at h
   ·rename_i hk; cases h; exact ⟨d, hd, hk⟩
   ·split at h
    ·exact tq h
    ·cases h
theorem gK {look : Us → Option Dc} {u v : Us} (h : leads look u = some v) : ∃ d, look v = some d ∧ d.kind = 1 := tq h
theorem tr {p : List Md} (hw : ∀ m ∈ p, m.wt ≤ 1048576) {u : Us} {d : Dc} (h : ae p u = some d) : d.wt ≤ 1048576 := by
 induction p with
 | nil => cases h
 | cons m r ih =>
  unfold ae at h
  split at h
  ·have hm := hw m (List.mem_cons_self ..)
   have h1 := gS Dc.wt (List.mem_of_find?_eq_some h)
   have h2 : m.wt = 1 + m.path.size + ak Im.wt m.imports + ak Dc.wt m.decls := rfl
   omega
  ·exact ih (fun m hm => hw m (List.mem_cons_of_mem _ hm)) h
theorem It (p : List Md) (u : Us) (hl : p.length ≤ 1048576) (hw : ∀ m ∈ p, m.wt ≤ 1048576) : ∃ r_, (fun w => w = vo (ae p) u) r_ ∧ aR Tryz.prog 33 [.slice (p.map dv), str u.1, str u.2] r_ := by
 refine eu tt_ok [] 32 [.tmp 6] (fn := Tryz.f33) Tryz.func33 rfl Tryz.call33 ⟨rfl, rfl, by simp⟩ fun K hK => ?_
 rcases gW : leads (ae p) u with _ | v
 ·have ax := Is gW
  simp only [List.length_map,go_sem,reduceIte,zA,zB,zC,zD,zE,zF,reduceCtorEq]
  refine cF (by have h := iq p u hl hw; rw [fw gW] at h; simp only [az] at h; exact h) ?_
  rintro _ rfl
  simp only [List.length_map,go_sem,reduceIte,zA,zB,zC,zD,zE,zF,reduceCtorEq]
  exact hK _ ax
 ·obtain ⟨d, lz, TP⟩ := gK gW
  have Vc := tr hw lz
  have hde : ([] : List Us).length + d.expr.wt ≤ 1048576 := by have h := Vc; unfold Dc.wt at h; rw [List.length_nil]; omega
  have ax := Fc gW
  have Xm : dW (ae p) v = a7 dM [] (cJ (ae p) d.expr) := by unfold dW; rw [lz]; rfl
  rw [Xm] at ax
  simp only [List.length_map,go_sem,reduceIte,zA,zB,zC,zD,zE,zF,reduceCtorEq]
  refine cF (by have h := iq p u hl hw; rw [gh gW] at h; simp only [az] at h; exact h) ?_
  rintro _ rfl
  simp only [List.length_map,go_sem,reduceIte,zA,zB,zC,zD,zE,zF,reduceCtorEq]
  refine cF (by have h := xj p v hl hw; rw [tm lz, aD] at h; simp only [kd,az,aG,ai,al] at h; exact h) ?_
  rintro _ rfl
  simp only [List.length_map,go_sem,reduceIte,zA,zB,zC,zD,zE,zF,reduceCtorEq]
  refine cF (by have h := Lk p hl hw d.expr.wt d.expr [] (Nat.le_refl _) hde; rw [bJ] at h; simp only [al] at h; exact h) ?_
  rintro _ rfl
  simp only [List.length_map,go_sem,reduceIte,zA,zB,zC,zD,zE,zF,reduceCtorEq]
  exact hK _ ax
end Go.Proofs.YtefbaladomfccaaGreatDoor
end

section
namespace Go.Proofs.YtefbaladomfccaaGreatDoor
open Go.Eng
open Nat renaming reduceAdd → zA, reduceLT → zB, reduceLeDiff → zC, reduceMul → zD, reduceEqDiff → zE, reduceSub → zF
variable [aK]
set_option maxHeartbeats 4000000
set_option maxRecDepth 100000
theorem PG {l l' : List Us} (hp : l'.Perm l) (hs : ∀ (i j : Nat) (x y : Us), i < j → l'[i]? = some x → l'[j]? = some y → dM y x = false) : dd l' = a7 dM [] l :=
 zd.ext jr (Pv jr hs) (k9 jr List.Pairwise.nil) fun x => by rw [Pu, k8, hp.mem_iff]; simp
theorem Fe (g : GD) (u : Us) (d : Dc) (lz : aY u g = some d) (m : List aC) (k : Nat) (hk : m[k]? = some (.map (b8 cI 0 (bn g)) (bn g).length)) (hb : m.all (aB m.length) = true) (hw : d.wt ≤ 1048576) :
  bF Tryz.prog 77 [.mp k, az u] m (.slice ((a7 dM [] (bg g d.expr)).map az)) m := by
 have BU : k < m.length := (List.getElem?_eq_some_iff.1 hk).1
 have TO : (bg g d.expr).length ≤ d.expr.wt := gJ (fun v => aY v g) d.expr
 have Zu : d.expr.wt ≤ 1048576 := by
  have h : 1 + d.expr.wt ≤ d.wt := (by unfold Dc.wt; omega); omega
 have kA : ∀ B : aC, e8 Tryz.prog (m ++ [B]) 94 (.mp k) (.agg [str u.1, str u.2]) false = some (fe d) := fun B => by
  rw [zu u g (mem := m ++ [B]) (b := k) (by rw [List.getElem?_append_left BU]; exact hk) false, lz]; rfl
 have Xn := Lh d.expr (m ++ [.box [str u.1, str u.2]]) k (by simp; omega) (by rw [List.all_append, Bool.and_eq_true]; exact ⟨c6 (by simp) hb, by simp [aB, ah]⟩)
 have F5 := Il g d.expr (m ++ [.box [str u.1, str u.2]] ++ [.box [.mp k], .box (al d.expr)]) (m.length + 1) (m.length + 2) k (by rw [List.append_assoc, List.getElem?_append_right (by omega), Nat.add_sub_cancel_left]; rfl) (by rw [List.append_assoc, List.getElem?_append_left BU]; exact hk) (by rw [List.append_assoc, List.getElem?_append_right (by omega), Nat.add_sub_cancel_left]; rfl) Zu (by
  rw [List.all_append, List.all_append, Bool.and_eq_true, Bool.and_eq_true]
  exact ⟨⟨c6 (by simp) hb, by simp [aB, ah]⟩, by simp [aB, ah, bA, al]; omega⟩)
 rw [aD] at kA
 simp only [kd,aG,ai,al] at kA
 rw [bJ] at Xn
 simp only [kd,al,List.length_append,List.length_cons,List.length_nil,List.append_assoc,Nat.zero_add,zA,Nat.add_assoc] at Xn F5
 have a0 : ∀ l : List aC, (m ++ l)[m.length]? = l[0]? := fun l => by rw [List.getElem?_append_right (by omega), Nat.sub_self]
 have a4 : ∀ l : List aC, (m ++ l)[m.length + 4]? = l[4]? := fun l => by rw [List.getElem?_append_right (by omega), Nat.add_sub_cancel_left]
 have s0 : ∀ (l : List aC) X, (m ++ l).set (m.length) X = m ++ l.set 0 X := fun l X => by rw [List.set_append_right _ _ (by omega), Nat.sub_self]
 have s4 : ∀ (l : List aC) X, (m ++ l).set (m.length + 4) X = m ++ l.set 4 X := fun l X => by rw [List.set_append_right _ _ (by omega), Nat.add_sub_cancel_left]
 refine lY tt_ok (fn := Tryz.f77) m.length (Nat.le_refl _) Tryz.func77 rfl Tryz.call77 ?_
 simp only [kd,cE,Tryz.ntmps77,List.length_cons,List.length_nil,zA,zF,List.replicate_succ,List.replicate_zero]
 simp only [az]
 refine af tt_ok fun K hK => ?_
 simp only [a0,go_sem,reduceIte,zA,zB,zC,zD,zE,zF,reduceCtorEq]
 refine hK _ ?_
 obtain ⟨L, hL⟩ : ∃ L, L = bg g d.expr := ⟨_, rfl⟩
 rw [← hL] at TO F5 ⊢
 refine af tt_ok fun K hK => ?_
 simp only [a0,kA,List.length_append,List.append_assoc,go_sem,reduceIte,zA,zB,zC,zD,zE,zF,reduceCtorEq]
 refine .inr <| .inl ⟨_, _, Xn, ?_⟩
 try simp only [go_sem,reduceIte,zA,zB,zC,zD,zE,zF,reduceCtorEq]
 refine .inr <| .inl ⟨_, _, F5, ?_⟩
 try simp only [go_sem,reduceIte,zA,zB,zC,zD,zE,zF,reduceCtorEq]
 refine hK _ ?_
 refine af tt_ok fun K hK => ?_
 simp only [go_sem,reduceIte,zA,zB,zC,zD,zE,zF,reduceCtorEq]
 refine .inr <| .inr <| .inl ⟨_, HS _ (m.length + 4) L.length L (by rw [a4]; rfl) (by omega), ?_⟩
 rintro r m' ⟨rfl, l', hp, hs, rfl⟩
 try simp only [go_sem,reduceIte,zA,zB,zC,zD,zE,zF,reduceCtorEq]
 refine hK _ ?_
 have hll : l'.length = L.length := hp.length_eq
 have Xo := zt (m ++ [.box [str u.1, str u.2], .box [.mp k], .box (al d.expr), .box [.ms (m.length + 4) L.length 0 L.length], .rows L.length 2 (L.map az)]) (m.length + 4) L.length (by simp) (by
  rw [List.all_append, Bool.and_eq_true]
  exact ⟨c6 (by simp) hb, by simp [aB, ah, bA, al]; omega⟩) l' (by omega)
 rw [hll, PG hp hs] at Xo
 simp only [al] at Xo
 refine af tt_ok fun K hK => ?_
 simp only [go_sem,reduceIte,zA,zB,zC,zD,zE,zF,reduceCtorEq]
 refine .inr <| .inl ⟨_, _, Xo, ?_⟩
 try simp only [go_sem,reduceIte,zA,zB,zC,zD,zE,zF,reduceCtorEq]
 refine hK _ ?_
 simp only [s4,List.set_cons_succ,List.set_cons_zero]
 have Xp : ∀ rows v, (cL (m ++ [.box [str u.1, str u.2], .box [.mp k], .box [num d.expr.kind, str d.expr.mod, str d.expr.name, str d.expr.text, num d.expr.num, .slice (cB d.expr.types), .slice (d.expr.labels.map nt), .slice (fj d.expr.kids)], .box [.ms (m.length + 4) L.length 0 L.length], .rows L.length 2 rows]) (de (V.ms (m.length + 4) L.length 0 v))).take m.length = m := fun rows v => by
  simp [cL, x6, de, fa, a4, s4]
 refine wR (v' := .slice ((a7 dM [] L).map az)) 4 rfl (by simp only [dR,br,a4]; simp; exact List.take_of_length_le (by simp)) ?_
 refine fb ⟨.inl rfl, rfl, by simp [ah, bA], ?_, ?_⟩
 ·dsimp only; rw [Xp]; exact hb
 ·dsimp only; rw [Xp]
end Go.Proofs.YtefbaladomfccaaGreatDoor
end

section
namespace Go.Proofs.YtefbaladomfccaaGreatDoor
open Go.Eng
variable [aK]
set_option maxHeartbeats 4000000
set_option maxRecDepth 100000
def jF {β : Type} (u : Us) (g : List (Us × β)) : Option β := (g.find? fun e => decide (e.1 = u)).map (·.2)
theorem pd {β : Type} (enc : β → V) (u : Us) : ∀ g : List (Us × β), getM u (g.map fun e => (e.1, enc e.2)) = (jF u g).map enc
 | [] => rfl
 | e :: g => by
  show (if e.1 = u then some (enc e.2) else getM u (g.map fun e => (e.1, enc e.2))) = _
  rw [pd enc u g]
  unfold jF
  by_cases h : e.1 = u
  ·rw [if_pos h, List.find?_cons_of_pos (by simpa using h)]; rfl
  ·rw [if_neg h, List.find?_cons_of_neg (by simpa using h)]
abbrev rG := List (Us × Us)
abbrev xl := List (Us × Bool)
def eW (B : rG) : List (Us × V) := B.map fun e => (e.1, az e.2)
def ca (T : xl) : List (Us × V) := T.map fun e => (e.1, bl e.2)
def oi (T : xl) (u : Us) : Bool := (jF u T).getD false
theorem aQ (n : Nat) (g : rG) : ((b8 cI 0 (eW g)).all fun e => ah n e.2.2) = true := by
 rw [pc cI (ah n)]; unfold eW; simp [az, ah, bA]
theorem ag (n : Nat) (g : xl) : ((b8 cI 0 (ca g)).all fun e => ah n e.2.2) = true := by
 rw [pc cI (ah n)]; unfold ca; simp [ah]
theorem Iu : dG Tryz.prog 173 = some (78, 78) := by kernel_rfl
theorem MM : dG Tryz.prog 98 = some (78, 4) := by kernel_rfl
theorem TQ : zeroV Tryz.prog 78 = some (.agg [str ⟨#[]⟩, str ⟨#[]⟩]) := by kernel_rfl
theorem PH : zeroV Tryz.prog 4 = some (bl false) := by kernel_rfl
theorem MN (u : Us) (B : rG) {mem : List aC} {b : Nat} (hm : mem[b]? = some (.map (b8 cI 0 (eW B)) (eW B).length)) (ok : Bool) :
  e8 Tryz.prog mem 173 (.mp b) (.agg [str u.1, str u.2]) ok = some (rL ok (jF u B).isSome (((jF u B).map az).getD (.agg [str ⟨#[]⟩, str ⟨#[]⟩]))) := by
 have h := (vb Iu).get u (eW B) hm TQ ok
 unfold eW at h
 rw [pd] at h
 simpa [az] using h
theorem TR (u : Us) (T : xl) {mem : List aC} {b : Nat} (hm : mem[b]? = some (.map (b8 cI 0 (ca T)) (ca T).length)) :
  e8 Tryz.prog mem 98 (.mp b) (.agg [str u.1, str u.2]) false = some (bl (oi T u)) := by
 have h := (vb MM).get u (ca T) hm PH false
 unfold ca at h
 rw [pd] at h
 have e : az u = .agg [str u.1, str u.2] := rfl
 rw [e] at h
 rw [h]
 unfold oi
 cases jF u T <;> rfl
theorem TS {u : Us} {B : rG} (h : jF u B = none) (x : Us) {mem : List aC} {b : Nat} (hm : mem[b]? = some (.map (b8 cI 0 (eW B)) (eW B).length)) :
  cD Tryz.prog mem 173 (.mp b) (.agg [str u.1, str u.2]) (.agg [str x.1, str x.2]) = some (mem.set b (.map (b8 cI 0 (eW (B ++ [(u, x)]))) (eW (B ++ [(u, x)])).length)) := by
 have h2 := (vb Iu).put u (az x) (eW B) hm
 rw [tf (by unfold eW; rw [pd, h]; rfl)] at h2
 have e : eW B ++ [(u, az x)] = eW (B ++ [(u, x)]) := by simp [eW]
 rw [e] at h2
 exact h2
theorem dy (a b : V) (r : List V) : cd (.agg [a, b] :: r) 0 2 = true := rfl
theorem PI {α β : Type} (f : α → β) (l : List α) (a : α) : (l ++ [a]).map f = l.map f ++ [f a] := by simp
theorem re {α : Type} (l : List α) (a : α) : (l ++ [a]).length = l.length + 1 := by simp
section
variable (look : Us → Option Dc)
def isVal (u : Us) : Prop := ∃ d, look u = some d ∧ d.kind = 1
mutual
theorem vp {x : Us} : ∀ e : Ex, x ∈ cJ look e → isVal look x
 | .mk k m n t i ts ls ks, h => by
  rw [cJ, List.mem_append] at h
  rcases h with h | h
  ·unfold gA at h
   split at h
   ·split at h
    ·rename_i u hu
     rw [List.mem_singleton] at h; subst h
     exact gK hu
    ·simp at h
   ·simp at h
  ·exact tu ks h
theorem tu {x : Us} : ∀ l : List Ex, x ∈ iN look l → isVal look x
 | [], h => by simp [iN] at h
 | e :: r, h => by
  rw [iN, List.mem_append] at h
  rcases h with h | h
  ·exact vp e h
  ·exact tu r h
end
theorem zM {x u : Us} (h : x ∈ dW look u) : isVal look x := by
 unfold dW at h
 rw [k8] at h
 rcases h with h | h
 ·simp at h
 ·exact vp look _ h
structure Bf (s : Us) (B : rG) : Prop where
 pos : B[0]? = some (s, s)
 step : ∀ i k u, B[i + 1]? = some (k, u) → ∃ j u', j ≤ i ∧ B[j]? = some (u, u') ∧ k ∈ dW look u
 nodup : (B.map Prod.fst).Nodup
 val : ∀ e ∈ B, isVal look e.1
variable {look} {s : Us} {B : rG}
theorem Bf.one (h : isVal look s) : Bf look s [(s, s)] := ⟨rfl, fun i k u hi => by simp at hi, by simp, fun e he => by rw [List.mem_singleton] at he; subst he; exact h⟩
theorem Bf.get (h : Bf look s B) {i : Nat} {k u : Us} (hi : B[i]? = some (k, u)) : jF k B = some u := by
 have key : ∀ (B : rG) (i : Nat), (B.map Prod.fst).Nodup → B[i]? = some (k, u) → jF k B = some u := by
  intro B
  induction B with
  | nil => intro i _ h; simp at h
  | cons e r ih =>
   intro i hn h
   rw [List.map_cons, List.nodup_cons] at hn
   unfold jF
   cases i with
   | zero => simp at h; subst h; rw [List.find?_cons_of_pos (by simp)]; rfl
   | succ i =>
    have hr : r[i]? = some (k, u) := by simpa using h
    have bL : ¬ e.1 = k := fun he => hn.1 (he ▸ List.mem_map.2 ⟨(k, u), List.mem_of_getElem? hr, rfl⟩)
    rw [List.find?_cons_of_neg (by simpa using bL)]
    exact ih i hn.2 hr
 exact key B i h.nodup hi
theorem vq {B : rG} {k : Us} (h : jF k B = none) : k ∉ B.map Prod.fst := fun hm => by
 obtain ⟨e, he, rfl⟩ := List.mem_map.1 hm
 unfold jF at h
 rw [Option.map_eq_none_iff, List.find?_eq_none] at h
 exact h e he (by simp)
theorem Bf.add (h : Bf look s B) {k u u' : Us} (hk : jF k B = none) (hu : (u, u') ∈ B) (hd : k ∈ dW look u) : Bf look s (B ++ [(k, u)]) := by
 have gC : 0 < B.length := (List.getElem?_eq_some_iff.1 h.pos).1
 refine ⟨by rw [List.getElem?_append_left gC]; exact h.pos, fun i k1 u1 hi => ?_, ?_, fun e he => ?_⟩
 ·rcases Nat.lt_or_ge (i + 1) B.length with aL | cP
  ·rw [List.getElem?_append_left aL] at hi
   obtain ⟨j, w, h1, h2, h3⟩ := h.step i k1 u1 hi
   exact ⟨j, w, h1, by rw [List.getElem?_append_left (by omega)]; exact h2, h3⟩
  ·rw [List.getElem?_append_right cP] at hi
   have h0 : i + 1 - B.length = 0 := by have := (List.getElem?_eq_some_iff.1 hi).1; simp at this; omega
   rw [h0] at hi
   simp at hi
   obtain ⟨rfl, rfl⟩ := hi
   obtain ⟨j, hj⟩ := List.mem_iff_getElem?.1 hu
   have rk := (List.getElem?_eq_some_iff.1 hj).1
   exact ⟨j, u', by omega, by rw [List.getElem?_append_left rk]; exact hj, hd⟩
 ·rw [List.map_append, List.nodup_append]
  refine ⟨h.nodup, by simp, fun a ha b hb => ?_⟩
  simp at hb; subst hb
  exact fun e => vq hk (e ▸ ha)
 ·rcases List.mem_append.1 he with he | he
  ·exact h.val e he
  ·rw [List.mem_singleton] at he; subst he; exact zM look hd
theorem Bf.len {g : GD} (h : Bf (fun v => aY v g) s B) : B.length ≤ g.length := by
 have Q6 : ∀ x ∈ B.map Prod.fst, x ∈ g.map Prod.fst := fun x hx => by
  obtain ⟨e, he, rfl⟩ := List.mem_map.1 hx
  obtain ⟨d, hd, -⟩ := h.val e he
  unfold aY at hd
  rw [Option.map_eq_some_iff] at hd
  obtain ⟨e2, Vd, -⟩ := hd
  have h1 := List.find?_some Vd
  exact List.mem_map.2 ⟨e2, List.mem_of_find?_eq_some Vd, of_decide_eq_true h1⟩
 have key : ∀ (l m : List Us), l.Nodup → (∀ x ∈ l, x ∈ m) → l.length ≤ m.length := by
  intro l
  induction l with
  | nil => intro m _ _; exact Nat.zero_le _
  | cons a r ih =>
   intro m hn hs
   rw [List.nodup_cons] at hn
   have ha := hs a (List.mem_cons_self ..)
   have h1 := ih (m.filter fun x => decide (¬ x = a)) hn.2 fun x hx => List.mem_filter.2 ⟨hs x (List.mem_cons_of_mem _ hx), decide_eq_true fun e => hn.1 (e ▸ hx)⟩
   have h2 : (m.filter fun x => decide (¬ x = a)).length < m.length := List.length_filter_lt_length_iff_exists.2 ⟨a, ha, by simp⟩
   rw [List.length_cons]; omega
 have := key (B.map Prod.fst) (g.map Prod.fst) h.nodup Q6
 simpa using this
structure JJ (B : rG) (look : Us → Option Dc) (x : Us) (O : List Us) (v : Us) (j : Nat) : Prop where
 head : O[0]? = some x
 link : ∀ i a b, O[i]? = some a → O[i + 1]? = some b → a ∈ dW look b
 last : O.getLast? = some v
 at_ : ∃ u, B[j]? = some (v, u)
 val : ∀ a ∈ O, isVal look a
 len : O.length + j ≤ B.length
theorem JJ.one (h : Bf look s B) {x u : Us} {j : Nat} (hj : B[j]? = some (x, u)) : JJ B look x [x] x j :=
 ⟨rfl, fun i a b h1 h2 => by simp at h2, rfl, ⟨u, hj⟩, fun a ha => by rw [List.mem_singleton] at ha; subst ha; exact h.val _ (List.mem_of_getElem? hj), by have := (List.getElem?_eq_some_iff.1 hj).1; rw [List.length_singleton]; omega⟩
theorem JJ.next {x v : Us} {O : List Us} {j : Nat} (h : Bf look s B) (p : JJ B look x O v j) (bL : ¬ v = s) : ∃ u j', jF v B = some u ∧ j' < j ∧ JJ B look x (O ++ [u]) u j' := by
 obtain ⟨u, hu⟩ := p.at_
 cases j with
 | zero => rw [h.pos] at hu; exact absurd (congrArg Prod.fst (Option.some.inj hu)).symm bL
 | succ j =>
  obtain ⟨j', u', h1, h2, h3⟩ := h.step j v u hu
  have hO : 0 < O.length := (List.getElem?_eq_some_iff.1 p.head).1
  refine ⟨u, j', h.get hu, by omega, ⟨by rw [List.getElem?_append_left hO]; exact p.head, fun i a b ha hb => ?_, by simp, ⟨u', h2⟩, fun a ha => ?_, by have := p.len; rw [List.length_append, List.length_singleton]; omega⟩⟩
  ·rcases Nat.lt_or_ge (i + 1) O.length with aL | cP
   ·rw [List.getElem?_append_left (by omega)] at ha
    rw [List.getElem?_append_left aL] at hb
    exact p.link i a b ha hb
   ·rw [List.getElem?_append_right cP] at hb
    have h0 : i + 1 - O.length = 0 := by have := (List.getElem?_eq_some_iff.1 hb).1; simp at this; omega
    rw [h0] at hb
    simp at hb; subst hb
    have hi : i = O.length - 1 := by omega
    rw [List.getElem?_append_left (by omega), hi, ← List.getLast?_eq_getElem?, p.last] at ha
    cases ha; exact h3
  ·rcases List.mem_append.1 ha with ha | ha
   ·exact p.val a ha
   ·rw [List.mem_singleton] at ha; subst ha; exact h.val _ (List.mem_of_getElem? h2)
structure QU (look : Us → Option Dc) (s : Us) (to : Us → Bool) (c : List Us) : Prop where
 head : c[0]? = some s
 link : ∀ i a b, c[i]? = some a → c[i + 1]? = some b → b ∈ dW look a
 last : ∃ z, c.getLast? = some z ∧ to z = true
 val : ∀ a ∈ c, isVal look a
 len : c.length ≤ 1048576
theorem JJ.done {x v : Us} {O : List Us} {j : Nat} {to : Us → Bool} (p : JJ B look x O v j) (he : v = s) (hx : to x = true) (hB : B.length ≤ 1048576) : QU look s to O.reverse := by
 subst he
 have hO : 0 < O.length := (List.getElem?_eq_some_iff.1 p.head).1
 refine ⟨?_, fun i a b ha hb => ?_, ⟨x, ?_, hx⟩, fun a ha => p.val a (List.mem_reverse.1 ha), by have := p.len; rw [List.length_reverse]; omega⟩
 ·rw [List.getElem?_reverse hO, ← p.last, List.getLast?_eq_getElem?]; rfl
 ·have hl := (List.getElem?_eq_some_iff.1 hb).1
  rw [List.length_reverse] at hl
  rw [List.getElem?_reverse (by omega)] at ha
  rw [List.getElem?_reverse hl] at hb
  refine p.link _ b a hb ?_
  rw [← ha]; congr 1; omega
 ·rw [List.getLast?_reverse, List.head?_eq_getElem?]; exact p.head
end
end Go.Proofs.YtefbaladomfccaaGreatDoor
end

section
namespace Go.Proofs.YtefbaladomfccaaGreatDoor
open Go.Eng
open Nat renaming reduceAdd → zA, reduceLT → zB, reduceLeDiff → zC, reduceMul → zD, reduceEqDiff → zE, reduceSub → zF
variable [aK]
set_option maxHeartbeats 4000000
set_option maxRecDepth 100000
section
variable {u : Us}
theorem BW (g : GD) (e : Us × Dc) : aY u (g ++ [e]) = match aY u g with | some d => some d | none => if e.1 = u then some e.2 else none := by
 unfold aY
 rw [List.find?_append]
 cases hf : g.find? (fun e => decide (e.1 = u)) with
 | some x => rfl
 | none =>
  simp only [Option.none_or,Option.map_none]
  by_cases h : e.1 = u
  ·rw [List.find?_cons_of_pos (by simpa using h), if_pos h]; rfl
  ·rw [List.find?_cons_of_neg (by simpa using h), if_neg h]; rfl
theorem tv (path : ByteArray) : ∀ (l : List Dc) (g : GD), aY u (l.foldl (fZ path) g) = match aY u g with | some d => some d | none => if path = u.1 then l.find? (fun d => decide (d.name = u.2)) else none
 | [], g => by
  cases h : aY u g with
  | some d => simp [h]
  | none => simp [h]
 | d :: l, g => by
  rw [List.foldl_cons, tv path l]
  unfold fZ
  cases hs : (aY (path, d.name) g).isSome with
  | true =>
   rw [if_pos rfl]
   cases h : aY u g with
   | some x => rfl
   | none =>
    dsimp only
    by_cases hp : path = u.1
    ·rw [if_pos hp, if_pos hp]
     have hn : ¬ d.name = u.2 := fun e => by rw [hp, e] at hs; rw [show (u.1, u.2) = u from rfl, h] at hs; cases hs
     rw [List.find?_cons_of_neg (by simpa using hn)]
    ·rw [if_neg hp, if_neg hp]
  | false =>
   rw [if_neg (by decide), BW]
   cases h : aY u g with
   | some x => rfl
   | none =>
    dsimp only
    by_cases hp : path = u.1
    ·rw [if_pos hp, if_pos hp]
     by_cases hn : d.name = u.2
     ·rw [if_pos (by rw [hp, hn]), List.find?_cons_of_pos (by simpa using hn)]
     ·rw [if_neg (fun e => hn (by rw [← e])), List.find?_cons_of_neg (by simpa using hn)]
    ·rw [if_neg (fun e => hp (by rw [← e])), if_neg hp]
     dsimp only
     rw [if_neg hp]
theorem qe (l : List ByteArray) (s t : ByteArray) : ju (l ++ [t]) s = (ju l s || decide (t = s)) := by unfold ju; rw [List.any_append]; simp
theorem tA : ∀ (p : List Md) (S : List ByteArray) (g : GD), ((aY u g).isSome = true → ju S u.1 = true) → aY u (p.foldl j8 (S, g)).2 = match aY u g with | some d => some d | none => if ju S u.1 = true then none else ae p u
 | [], S, g, h => by
  cases hl : aY u g with
  | some d => simp [hl]
  | none => simp only [List.foldl_nil,hl,ae]; split <;> rfl
 | m :: p, S, g, h => by
  rw [List.foldl_cons]
  unfold j8
  dsimp only
  cases hs : ju S m.path with
  | true =>
   rw [if_pos rfl]
   have ih := tA p S g h
   refine ih.trans ?_
   cases hl : aY u g with
   | some d => rfl
   | none =>
    dsimp only
    by_cases hu : ju S u.1 = true
    ·rw [if_pos hu, if_pos hu]
    ·rw [if_neg hu, if_neg hu, ae, if_neg (fun e => hu (by rw [← e]; exact hs))]
  | false =>
   rw [if_neg (by decide)]
   have hd := tv (u := u) m.path m.decls g
   have ih := tA p (S ++ [m.path]) (m.decls.foldl (fZ m.path) g) (fun hi => by
    rw [qe]
    cases hl : aY u g with
    | some d => rw [h (by rw [hl]; rfl)]; rfl
    | none =>
     rw [hd, hl] at hi
     dsimp only at hi
     by_cases hp : m.path = u.1
     ·rw [decide_eq_true hp, Bool.or_true]
     ·rw [if_neg hp] at hi; cases hi)
   refine ih.trans ?_
   rw [hd]
   cases hl : aY u g with
   | some d => rfl
   | none =>
    dsimp only
    rw [qe]
    by_cases hp : m.path = u.1
    ·rw [if_pos hp, decide_eq_true hp, Bool.or_true, if_pos rfl, ← hp, hs, if_neg (by decide), ae, if_pos hp]
     cases m.decls.find? (fun d => decide (d.name = u.2)) <;> rfl
    ·rw [if_neg hp, decide_eq_false hp, Bool.or_false, ae, if_neg hp]
end
theorem look_eq (p : List Md) : (fun v => aY v (gf p)) = ae p := by
 funext u
 have h := tA (u := u) p [] [] (fun h => by cases h)
 unfold gf eS
 rw [List.take_length, h]
 rfl
theorem tB {look : Us → Option Dc} {v : Us} {d : Dc} (h : look v = some d) (hk : d.kind = 1) : leads look v = some v := by
 show mm look (4096 + 1) v = _
 rw [mm, h]
 dsimp only
 rw [if_pos hk]
theorem Iv {p : List Md} (hw : ∀ m ∈ p, m.wt ≤ 1048576) {v : Us} {d : Dc} (h : ae p v = some d) : (dW (ae p) v).length ≤ 1048576 := by
 unfold dW
 have h1 := e6 dM (cJ (ae p) ((ae p v).getD dz).expr) []
 rw [h] at h1 ⊢
 rw [Option.getD_some] at h1 ⊢
 have h2 := gJ (ae p) d.expr
 have h3 := tr hw h
 have h4 : 1 + d.expr.wt ≤ d.wt := by unfold Dc.wt; omega
 rw [List.length_nil] at h1
 omega
theorem Ff {p : List Md} (hw : ∀ m ∈ p, m.wt ≤ 1048576) (u : Us) : (eJ (ae p) u).length ≤ 1048576 := by
 unfold eJ
 cases h : leads (ae p) u with
 | none => exact Nat.zero_le _
 | some v =>
  obtain ⟨d, hd, -⟩ := gK h
  exact Iv hw hd
theorem Fg (a b : List Us) (hl : a.length ≤ 1048576) : ∃ r_, (fun w => w = bl (decide (a = b))) r_ ∧ aR Tryz.prog 31 [.slice (a.map az), .slice (b.map az)] r_ := by
 refine eu tt_ok [] 26 [.tmp 4] (fn := Tryz.f31) Tryz.func31 rfl Tryz.call31 ⟨rfl, rfl, by simp⟩ fun K hK => ?_
 simp only [List.length_map,go_sem,reduceIte,zA,zB,zC,zD,zE,zF,reduceCtorEq]
 refine aT (fun fI => ?_) (fun fI => ?_)
 ·have bL : ¬ a = b := fun e => by subst e; simp at fI
  have ax := decide_eq_false bL
  simp only [List.length_map,go_sem,reduceIte,zA,zB,zC,zD,zE,zF,reduceCtorEq]
  exact hK _ (by rw [ax])
 ·have hlen : a.length = b.length := by have h9 : (a.length : Int) = b.length := (by simpa using fI); omega
  simp only [List.length_map,go_sem,reduceIte,zA,zB,zC,zD,zE,zF,reduceCtorEq]
  refine bk tt_ok [] [5] 0 [0,1,10] (fun vs => ((a.length : Int) - Go.Eng.intOf (vs.headD .undef)).toNat) (fun vs => ∃ i : Nat, vs = [num i] ∧ i ≤ a.length ∧ a.take i = b.take i) (by omega) (by simp only [List.length_map,go_sem,reduceIte,zA,zB,zC,zD,zE,zF,reduceCtorEq]) (⟨0, rfl, Nat.zero_le _, rfl⟩) fun vs hI Z1 bX => ?_
  obtain ⟨i, rfl, hi, ob⟩ := hI
  simp only [List.length_map,go_sem,reduceIte,zA,zB,zC,zD,zE,zF,reduceCtorEq]
  refine aT (fun il => ?_) (fun il => ?_)
  ·have bD : i < a.length := by simpa using il
   have aP := aq i (by omega)
   obtain ⟨x, hx⟩ : ∃ x, a[i]? = some x := ⟨_, List.getElem?_eq_getElem bD⟩
   obtain ⟨y, hy⟩ : ∃ y, b[i]? = some y := ⟨_, List.getElem?_eq_getElem (by omega)⟩
   have TU : (i : Int) < (b.length : Int) := by omega
   simp only [aP,hx,hy,TU,List.getElem?_map,az,aZ,List.length_map,go_sem,reduceIte,zA,zB,zC,zD,zE,zF,reduceCtorEq]
   refine bR tt_ok aN [⟨.n, 0, [], [], []⟩, ⟨.n, 0, [], [], []⟩, ⟨.r, 0, [], [], []⟩, ⟨.r, 0, [], [], []⟩, ⟨.n, 0, [], [], []⟩, ⟨.n, 0, [], [], []⟩, ⟨.r, 0, [], [], []⟩, ⟨.r, 0, [], [], []⟩, ⟨.n, 0, [], [], []⟩] 0 (by kernel_rfl) ?_
   simp only [aP,hx,hy,TU,List.getElem?_map,az,aZ,List.length_map,go_sem,reduceIte,zA,zB,zC,zD,zE,zF,reduceCtorEq]
   refine aT (fun nV => ?_) (fun nV => ?_)
   ·have Ke : ¬ x = y := by simpa using nV
    have bL : ¬ a = b := fun e => by subst e; rw [hx] at hy; exact Ke (Option.some.inj hy)
    have ax := decide_eq_false bL
    simp only [aP,hx,hy,TU,List.getElem?_map,az,aZ,List.length_map,go_sem,reduceIte,zA,zB,zC,zD,zE,zF,reduceCtorEq]
    exact hK _ (by rw [ax])
   ·have Ke : x = y := by simpa using nV
    simp only [aP,hx,hy,TU,List.getElem?_map,az,aZ,List.length_map,go_sem,reduceIte,zA,zB,zC,zD,zE,zF,reduceCtorEq]
    refine bX _ (b5 (by omega) (by simp only [aP,hx,hy,TU,List.getElem?_map,az,aZ,List.length_map,go_sem,reduceIte,zA,zB,zC,zD,zE,zF,reduceCtorEq]) ?_ ?_) <;> simp only [dY,lk,reduceIte,zE]
    ·exact ⟨i + 1, rfl, bD, by rw [List.take_add_one, List.take_add_one, ob, hx, hy, Ke]⟩
    ·simp only [Go.Eng.intOf,List.headD_cons]; omega
  ·have gw : i = a.length := by have := of_decide_eq_false il; omega
   have heq : a = b := by rw [gw, List.take_length] at ob; rw [ob, hlen, List.take_length]
   have ax := decide_eq_true heq
   simp only [List.length_map,go_sem,reduceIte,zA,zB,zC,zD,zE,zF,reduceCtorEq]
   exact hK _ (by rw [ax])
end Go.Proofs.YtefbaladomfccaaGreatDoor
end

section
namespace Go.Proofs.YtefbaladomfccaaGreatDoor
open Go.Eng
variable [aK]
set_option maxHeartbeats 4000000
set_option maxRecDepth 100000
theorem xm {k : Tk} {n : Nat} {op : BinOp} {st : St} {dst : Option Tmp} {Q : St → Prop} (h : n ≠ 0) : UW k true n op st dst Q = Q (st.put dst (.sc (.bool (jj op false)))) :=
 propext ⟨fun h1 => h1.2 false (fun _ => rfl), fun h1 => ⟨rfl, fun b hb => by rw [hb h]; exact h1⟩⟩
theorem zN : jj .neq false = true := rfl
theorem Iw (t : Tmp) : bE Tryz.prog (kM .neq 72 (.tmp t) (.const (.slice none 0 0))) (.sc (.slice none 0 0)) (.sc (.slice none 0 0)) = some (bl false) := by kernel_rfl
theorem Ll (k : Int) (r : List V) : rn Tryz.prog tt 109 0 (.agg (V.sc (.int .i64 k) :: r)) = some (V.sc (.int .i64 k)) := by kernel_rfl
def σ2 (k k2 n j : Nat) : Nat := if j = 0 then k else if j = 1 then k2 else n + (j - 2)
theorem Fh {P : Program} {f : FuncId} {vs : List V} {r : V} {B0 B1 : aC} (h : bF P f vs [B0, B1] r [B0, B1]) (M : List aC) (k k2 : Nat) (hv : vs.all (ah 2) = true) (hm : [B0, B1].all (aB 2) = true) (hr : ah 2 r = true)
  (h0 : ∀ σ, j5 σ B0 = B0) (h1 : ∀ σ, j5 σ B1 = B1) (hk : M[k]? = some B0) (iz : M[k2]? = some B1) (bL : k ≠ k2) :
  bF P f (kp (σ2 k k2 M.length) vs) M (dm (σ2 k k2 M.length) r) M := by
 have h3 := h.F6 M (σ2 k k2 M.length) 2 rfl hv hm hr hm (by simp) (fun i B hi => by
  match i with
  | 0 => simp at hi; subst hi; rw [h0]; exact hk
  | 1 => simp at hi; subst hi; rw [h1]; exact iz
  | i + 2 => simp at hi) (fun i j hi hj he => by
  match i, j with
  | 0, 0 => rfl
  | 1, 1 => rfl
  | 0, 1 => exact absurd (by simpa [σ2] using he) bL
  | 1, 0 => exact absurd (by simpa [σ2] using he.symm) bL
  | i + 2, _ => omega
  | _, j + 2 => omega) (fun j hj => by unfold σ2; rw [if_neg (by omega), if_neg (by omega)])
 have hM : o3 (σ2 k k2 M.length) 2 [B0, B1] M = M := by
  unfold o3
  simp only [kd,List.map_nil,List.append_nil,jn]
  show (M.set k (j5 _ B0)).set k2 (j5 _ B1) = _
  rw [h0, h1, ig hk, ig iz]
 rwa [hM] at h3
theorem Fi (σ : Nat → Nat) (g : xl) (c : Nat) : j5 σ (.map (b8 cI 0 (ca g)) c) = .map (b8 cI 0 (ca g)) c := by
 have key : ∀ (g : xl) (n : Nat), (b8 cI n (ca g)).map (fun e => (e.1, e.2.1, dm σ e.2.2)) = b8 cI n (ca g) := by
  intro g
  induction g with
  | nil => intro n; rfl
  | cons e r ih =>
   intro n
   show (cI e.1, n, dm σ (bl e.2)) :: (b8 cI (n + 1) (ca r)).map _ = _
   rw [ih (n + 1)]; rfl
 simp only [j5]
 rw [key g 0]
structure Ix where
 Zv : ByteArray
 chain : List Us
def bT (f : Ix) : V := .agg [str f.Zv, .slice (f.chain.map az)]
structure Fits (look : Us → Option Dc) (v : Us) (s : List kr) (a : fQ) (f : Ix) : Prop where
 id : f.Zv = a.id
 con : s.any (fJ a) = true
 Dz : QU look v (fun z => decide (z.1 = a.path) && ju a.syms z.2) f.chain
inductive Sub (look : Us → Option Dc) (v : Us) (s : List kr) : List fQ → List Ix → Prop
 | nil : Sub look v s [] []
 | skip {l fl} (a : fQ) : Sub look v s l fl → Sub look v s (a :: l) fl
 | take {l fl a f} : Fits look v s a f → Sub look v s l fl → Sub look v s (a :: l) (f :: fl)
section
variable {look : Us → Option Dc} {v : Us} {s : List kr}
theorem Sub.mr {l fl} (h : Sub look v s l fl) (a : fQ) : Sub look v s (l ++ [a]) fl := by
 induction h with
 | nil => exact .skip a .nil
 | skip b _ ih => exact .skip b ih
 | take hf _ ih => exact .take hf ih
theorem Sub.pe {l fl a f} (h : Sub look v s l fl) (hf : Fits look v s a f) : Sub look v s (l ++ [a]) (fl ++ [f]) := by
 induction h with
 | nil => exact .take hf .nil
 | skip b _ ih => exact .skip b ih
 | take U3 _ ih => exact .take U3 ih
theorem Sub.len {l fl} (h : Sub look v s l fl) : fl.length ≤ l.length := by
 induction h with
 | nil => exact Nat.le_refl _
 | skip _ _ ih => simp only [List.length_cons]; omega
 | take _ _ ih => simp only [List.length_cons]; omega
theorem Sub.tail {l fl f} (h : Sub look v s l (f :: fl)) : Sub look v s l fl := by
 generalize hm : f :: fl = m at h
 induction h with
 | nil => cases hm
 | skip a _ ih => exact .skip a (ih hm)
 | take _ h _ => cases hm; exact .skip _ h
end
def rf (u : Us) (b : Bool) : xl → xl
 | [] => [(u, b)]
 | e :: r => if e.1 = u then (u, b) :: r else e :: rf u b r
theorem Fj (u : Us) (b : Bool) (T : xl) : BA u (bl b) (ca T) = ca (rf u b T) := by
 have key : ∀ (T : xl) (n : Nat), (match fo u (ca T) n with | none => ca T ++ [(u, bl b)] | some (i, _) => (ca T).set (i - n) (u, bl b)) = ca (rf u b T) := by
  intro T
  induction T with
  | nil => intro n; rfl
  | cons e r ih =>
   intro n
   have e1 : ca (e :: r) = (e.1, bl e.2) :: ca r := rfl
   rw [e1]
   unfold fo rf
   dsimp only
   by_cases h : e.1 = u
   ·rw [if_pos h, if_pos h]
    dsimp only
    rw [Nat.sub_self]; rfl
   ·rw [if_neg h, if_neg h]
    have h2 := ih (n + 1)
    cases hf : fo u (ca r) (n + 1) with
    | none => rw [hf] at h2; dsimp only at h2 ⊢; rw [List.cons_append, h2]; rfl
    | some x =>
     obtain ⟨i, w⟩ := x
     rw [hf] at h2; dsimp only at h2 ⊢
     have hi := (sU hf).1
     rw [show i - n = (i - (n + 1)) + 1 by omega, List.set_cons_succ, h2]; rfl
 unfold BA
 exact key T 0
theorem Iy (u : Us) (b : Bool) (T : xl) {mem : List aC} {k : Nat} (hm : mem[k]? = some (.map (b8 cI 0 (ca T)) (ca T).length)) :
  cD Tryz.prog mem 98 (.mp k) (.agg [str u.1, str u.2]) (bl b) = some (mem.set k (.map (b8 cI 0 (ca (rf u b T))) (ca (rf u b T)).length)) := by
 have h2 := (vb MM).put u (bl b) (ca T) hm
 rw [Fj] at h2
 exact h2
end Go.Proofs.YtefbaladomfccaaGreatDoor
end

section
namespace Go.Proofs.YtefbaladomfccaaGreatDoor
open Go.Eng
open Nat renaming reduceAdd → zA, reduceLT → zB, reduceLeDiff → zC, reduceMul → zD, reduceEqDiff → zE, reduceSub → zF
variable [aK]
set_option maxHeartbeats 4000000
set_option maxRecDepth 100000
def lE (s : ByteArray) : Bool := decide ((1 : Int) ≤ (s.size : Int)) && decide ((s.size : Int) ≤ 32)
def zO (l : List ByteArray) : Bool := (List.range l.length).all fun i => match l[i]?, l[i + 1]? with | some a, some b => qb a b | _, _ => true
theorem pf (l : List ByteArray) : zO l = true ↔ ∀ (i : Nat) a b, l[i]? = some a → l[i + 1]? = some b → qb a b = true := by
 unfold zO
 rw [List.all_eq_true]
 constructor
 ·intro h i a b ha hb
  have := h i (List.mem_range.2 (List.getElem?_eq_some_iff.1 ha).1)
  rw [ha, hb] at this; exact this
 ·intro h i _
  cases ha : l[i]? with
  | none => rfl
  | some a =>
   cases hb : l[i + 1]? with
   | none => rfl
   | some b => exact h i a b ha hb
theorem DA {l : List ByteArray} {i : Nat} {a b : ByteArray} (ha : l[i]? = some a) (hb : l[i + 1]? = some b) (h : qb a b = false) : zO l = false := by
 cases e : zO l with
 | false => rfl
 | true => have := (pf l).1 e i a b ha hb; rw [h] at this; cases this
def tC (l : List ByteArray) : Bool := l.any fun s => !lE s
def lF (a : fQ) : Bool := decide ((a.set.length : Int) = 0) || !decide (a.set = canon a.set) || decide ((a.syms.length : Int) = 0) || decide ((1024 : Int) < (a.syms.length : Int)) || decide ((65536 : Int) < (a.note.size : Int))
def ir (a : fQ) : Int := if (!decide (bM a.path = 0)) = true then 4 else if (!lE a.id) = true then 4 else if tC a.syms = true then 4 else if lF a = true then 1 else if zO a.syms = true then 0 else 1
theorem TV {a : fQ} (h : bM a.path ≠ 0) : ir a = 4 := by unfold ir; rw [if_pos (by simpa using h)]
theorem TW {a : fQ} (h : bM a.path = 0) (h2 : lE a.id = false) : ir a = 4 := by unfold ir; rw [if_neg (by simpa using h), if_pos (by simpa using h2)]
theorem TX {a : fQ} (h : bM a.path = 0) (h2 : lE a.id = true) (h3 : tC a.syms = true) : ir a = 4 := by unfold ir; rw [if_neg (by simpa using h), if_neg (by simpa using h2), if_pos h3]
theorem uz {a : fQ} (h : bM a.path = 0) (h2 : lE a.id = true) (h3 : tC a.syms = false) (h4 : lF a = true) : ir a = 1 := by unfold ir; rw [if_neg (by simpa using h), if_neg (by simpa using h2), if_neg (by simpa using h3), if_pos h4]
theorem TY {a : fQ} (h : bM a.path = 0) (h2 : lE a.id = true) (h3 : tC a.syms = false) (h4 : lF a = false) (h5 : zO a.syms = true) : ir a = 0 := by unfold ir; rw [if_neg (by simpa using h), if_neg (by simpa using h2), if_neg (by simpa using h3), if_neg (by simpa using h4), if_pos h5]
theorem TZ {a : fQ} (h : bM a.path = 0) (h2 : lE a.id = true) (h3 : tC a.syms = false) (h4 : lF a = false) (h5 : zO a.syms = false) : ir a = 1 := by unfold ir; rw [if_neg (by simpa using h), if_neg (by simpa using h2), if_neg (by simpa using h3), if_neg (by simpa using h4), if_neg (by simpa using h5)]
theorem Lm (T : TypeId) (x y : Operand) (a b : ByteArray) : bE Tryz.prog (kM .leq T x y) (str a) (str b) = some (bl (Op.bytesLess a.toList b.toList || a.toList == b.toList)) := by
 simp [bE, cb, kM, binOp, Op.stringOp, eqGuard, aU, fg, bind, pure, Sem.bind]
theorem aE (T : TypeId) (x y : Operand) (a b : ByteArray) : bE Tryz.prog (kM .geq T x y) (str a) (str b) = some (bl (!qb a b)) := by
 unfold qb
 simp [bE, cb, kM, binOp, Op.stringOp, eqGuard, aU, fg, bind, pure, Sem.bind]
theorem Ln (a b : ByteArray) : (Op.bytesLess a.toList b.toList || a.toList == b.toList) = !qb b a := by
 have h := w7
 cases h1 : qb b a with
 | true =>
  have h2 : Op.bytesLess a.toList b.toList = false := h.asymm h1
  have h3 : (a.toList == b.toList) = false := by
   rw [beq_eq_false_iff_ne]; intro e; rw [ME e, h.irrefl] at h1; cases h1
  rw [h2, h3]; rfl
 | false =>
  cases h2 : qb a b with
  | true =>
   have MB : Op.bytesLess a.toList b.toList = true := h2; rw [MB]; rfl
  | false => rw [h.Mq a b h2 h1]; simp
theorem aS (T : TypeId) (x y : Operand) (a b : ByteArray) : bE Tryz.prog (kM .leq T x y) (str a) (str b) = some (bl (!qb b a)) := by rw [Lm, Ln]
def nY (s : List kr) : Bool := zO (s.map (·.path))
theorem tD (s : List kr) : nY s = true ↔ ∀ (i : Nat) a b, s[i]? = some a → s[i + 1]? = some b → qb a.path b.path = true := by
 unfold nY
 rw [pf]
 constructor
 ·intro h i a b ha hb; exact h i _ _ (by rw [List.getElem?_map, ha]; rfl) (by rw [List.getElem?_map, hb]; rfl)
 ·intro h i a b ha hb
  rw [List.getElem?_map, Option.map_eq_some_iff] at ha hb
  obtain ⟨x, hx, rfl⟩ := ha
  obtain ⟨y, hy, rfl⟩ := hb
  exact h i x y hx hy
theorem DB {s : List kr} {i : Nat} {a b : kr} (ha : s[i]? = some a) (hb : s[i + 1]? = some b) (h : qb a.path b.path = false) : nY s = false := by
 cases e : nY s with
 | false => rfl
 | true => have := (tD s).1 e i a b ha hb; rw [h] at this; cases this
def iX : List fQ → Int
 | [] => 0
 | a :: l => if ir a = 0 then iX l else ir a
theorem mX {l : List fQ} {i : Nat} {a : fQ} (h : l[i]? = some a) : iX (l.drop i) = if ir a = 0 then iX (l.drop (i + 1)) else ir a := by
 rw [List.drop_eq_getElem_cons (List.getElem?_eq_some_iff.1 h).1, (List.getElem?_eq_some_iff.1 h).2, iX]
theorem zP {l : List fQ} {i : Nat} (h : l.length ≤ i) : iX (l.drop i) = 0 := by rw [List.drop_eq_nil_of_le h]; rfl
theorem Iz (s : ByteArray) : ∃ r_, (fun w => w = bl (lE s)) r_ ∧ aR Tryz.prog 72 [str s] r_ := by
 refine eu tt_ok [] 11 [.tmp 2] (fn := Tryz.f72) Tryz.func72 rfl Tryz.call72 ⟨rfl, rfl, by simp⟩ fun K hK => ?_
 have gv : Tryz.prog.underlying 9 = some .string := by kernel_rfl
 have sl : ∀ (a : ByteArray) (ty : TypeId), dh Tryz.prog (Builtin.len_ #[9] ty) [.sc (.string a)] = some (num a.size) := fun a ty => cH (P := Tryz.prog) (tt := tt) (T := 9) a gv ty
 simp only [sl,go_sem,reduceIte,zA,zB,zC,zD,zE,zF,reduceCtorEq]
 refine aT (fun nz => ?_) (fun nz => ?_)
 ·simp only [sl,go_sem,reduceIte,zA,zB,zC,zD,zE,zF,reduceCtorEq]
  refine hK _ (congrArg bl ?_)
  unfold lE
  simp_all
  try omega
 ·simp only [sl,go_sem,reduceIte,zA,zB,zC,zD,zE,zF,reduceCtorEq]
  refine hK _ (congrArg bl ?_)
  unfold lE
  simp_all
  try omega
theorem PJ (s : ByteArray) : ∃ r_, (fun w => w = bl (!lE s)) r_ ∧ aR Tryz.prog 74 [str s] r_ := by
 refine eu tt_ok [] 6 [.tmp 2] (fn := Tryz.f74) Tryz.func74 rfl Tryz.call74 ⟨rfl, rfl, by simp⟩ fun K hK => ?_
 simp only [go_sem,reduceIte,zA,zB,zC,zD,zE,zF,reduceCtorEq]
 refine cF (Iz s) ?_
 rintro _ rfl
 simp only [go_sem,reduceIte,zA,zB,zC,zD,zE,zF,reduceCtorEq]
 exact hK _ rfl
theorem T0 (l : List ByteArray) (hl : l.length ≤ 1048576) : ∃ r_, (fun w => ∃ n : Int, w = num n ∧ decide (n ≥ 0) = tC l) r_ ∧ aR Tryz.prog 121 [.slice (l.map str), .sc (.func (.func 74) #[] #[])] r_ := by
 refine eu tt_ok [] 19 [.tmp 4] (fn := Tryz.f121) Tryz.func121 rfl Tryz.call121 ⟨rfl, rfl, by simp⟩ fun K hK => ?_
 simp only [List.length_map,go_sem,reduceIte,zA,zB,zC,zD,zE,zF,reduceCtorEq]
 refine bk tt_ok [] [8] 0 [0,1,7] (fun vs => ((l.length : Int) - Go.Eng.intOf (vs.headD .undef)).toNat) (fun vs => ∃ i : Nat, vs = [num i] ∧ i ≤ l.length ∧ ∀ j < i, ∀ x, l[j]? = some x → (!lE x) = false) (by omega) (by simp only [List.length_map,go_sem,reduceIte,zA,zB,zC,zD,zE,zF,reduceCtorEq]) (⟨0, rfl, Nat.zero_le _, fun j hj => absurd hj (Nat.not_lt_zero j)⟩) fun vs hI Z1 bX => ?_
 obtain ⟨i, rfl, hi, bp⟩ := hI
 simp only [List.length_map,go_sem,reduceIte,zA,zB,zC,zD,zE,zF,reduceCtorEq]
 refine aT (fun jC => ?_) (fun jC => ?_)
 ·have aL : i < l.length := by simpa using jC
  have hw := aq i (by omega)
  obtain ⟨x, hx⟩ : ∃ x, l[i]? = some x := ⟨_, List.getElem?_eq_getElem aL⟩
  simp only [hw,List.getElem?_map,hx,List.length_map,go_sem,reduceIte,zA,zB,zC,zD,zE,zF,reduceCtorEq]
  refine cF (PJ x) ?_
  rintro _ rfl
  simp only [hw,List.getElem?_map,hx,List.length_map,go_sem,reduceIte,zA,zB,zC,zD,zE,zF,reduceCtorEq]
  refine aT (fun ik => ?_) (fun ik => ?_)
  ·have ax : decide ((i : Int) ≥ 0) = tC l := by rw [decide_eq_true (by omega : (i : Int) ≥ 0)]; exact (nR hx ik).symm
   simp only [hw,List.getElem?_map,hx,List.length_map,go_sem,reduceIte,zA,zB,zC,zD,zE,zF,reduceCtorEq]
   exact hK _ ⟨_, rfl, ax⟩
  ·simp only [hw,List.getElem?_map,hx,List.length_map,go_sem,reduceIte,zA,zB,zC,zD,zE,zF,reduceCtorEq]
   refine bX _ (b5 (by omega) (by simp only [hw,List.getElem?_map,hx,List.length_map,go_sem,reduceIte,zA,zB,zC,zD,zE,zF,reduceCtorEq]) ?_ ?_) <;> simp only [dY,lk,reduceIte,zE]
   ·refine ⟨i + 1, rfl, aL, fun j hj => ?_⟩
    rcases Nat.lt_or_ge j i with h | h
    ·exact bp j h
    ·obtain rfl : j = i := by omega
     intro y hy
     rw [hx] at hy; cases hy; exact ik
   ·simp only [Go.Eng.intOf,List.headD_cons]; omega
 ·have cP : ¬ i < l.length := by simpa using jC
  have ax : decide ((-1 : Int) ≥ 0) = tC l := by rw [decide_eq_false (by decide : ¬ ((-1 : Int) ≥ 0))]; exact (any_none fun j hj => bp j (by omega)).symm
  simp only [List.length_map,go_sem,reduceIte,zA,zB,zC,zD,zE,zF,reduceCtorEq]
  exact hK _ ⟨_, rfl, ax⟩
theorem T1 (l : List ByteArray) (hl : l.length ≤ 1048576) : ∃ r_, (fun w => w = bl (tC l)) r_ ∧ aR Tryz.prog 73 [.slice (l.map str), .sc (.func (.func 74) #[] #[])] r_ := by
 refine eu tt_ok [] 9 [.tmp 4] (fn := Tryz.f73) Tryz.func73 rfl Tryz.call73 ⟨rfl, rfl, by simp⟩ fun K hK => ?_
 simp only [go_sem,reduceIte,zA,zB,zC,zD,zE,zF,reduceCtorEq]
 refine cF (T0 l hl) ?_
 rintro _ ⟨n, rfl, hn⟩
 simp only [go_sem,reduceIte,zA,zB,zC,zD,zE,zF,reduceCtorEq]
 exact hK _ (congrArg bl hn)
theorem Lo (hG : aK.g = some 0) (a : fQ) (hb : MG a) : ∃ r_, (fun w => w = num (ir a)) r_ ∧ aR Tryz.prog 30 [ay a] r_ := by
 refine eu tt_ok [] 77 [.tmp 2] (fn := Tryz.f30) Tryz.func30 rfl Tryz.call30 ⟨rfl, rfl, by simp⟩ fun K hK => ?_
 simp only [ay,aj]
 obtain ⟨oA, wq, Rw⟩ := hb
 have gv : Tryz.prog.underlying 9 = some .string := by kernel_rfl
 have sl : ∀ (a : ByteArray) (ty : TypeId), dh Tryz.prog (Builtin.len_ #[9] ty) [.sc (.string a)] = some (num a.size) := fun a ty => cH (P := Tryz.prog) (tt := tt) (T := 9) a gv ty
 simp only [List.length_map,sl,aE,go_sem,reduceIte,zA,zB,zC,zD,zE,zF,reduceCtorEq]
 refine cF (K3 hG a.path oA) ?_
 rintro _ ⟨nm, rfl⟩
 simp only [List.length_map,sl,aE,go_sem,reduceIte,zA,zB,zC,zD,zE,zF,reduceCtorEq]
 refine aT (fun jU => ?_) (fun jU => ?_)
 ·have ax := TV (a := a) (by simpa using jU)
  simp only [List.length_map,sl,aE,go_sem,reduceIte,zA,zB,zC,zD,zE,zF,reduceCtorEq]
  refine hK _ (congrArg num ?_)
  exact ax.symm
 ·have e1 : bM a.path = 0 := by simpa using jU
  simp only [List.length_map,sl,aE,go_sem,reduceIte,zA,zB,zC,zD,zE,zF,reduceCtorEq]
  refine cF (Iz a.id) ?_
  rintro _ rfl
  simp only [List.length_map,sl,aE,go_sem,reduceIte,zA,zB,zC,zD,zE,zF,reduceCtorEq]
  refine aT (fun IA => ?_) (fun IA => ?_)
  ·have ax := TW e1 (by simpa using IA)
   simp only [List.length_map,sl,aE,go_sem,reduceIte,zA,zB,zC,zD,zE,zF,reduceCtorEq]
   refine hK _ (congrArg num ?_)
   exact ax.symm
  ·have e2 : lE a.id = true := by simpa using IA
   simp only [List.length_map,sl,aE,go_sem,reduceIte,zA,zB,zC,zD,zE,zF,reduceCtorEq]
   refine cF (T1 a.syms Rw) ?_
   rintro _ rfl
   simp only [List.length_map,sl,aE,go_sem,reduceIte,zA,zB,zC,zD,zE,zF,reduceCtorEq]
   refine aT (fun mf => ?_) (fun mf => ?_)
   ·have ax := TX (a := a) e1 e2 (by simpa using mf)
    simp only [List.length_map,sl,aE,go_sem,reduceIte,zA,zB,zC,zD,zE,zF,reduceCtorEq]
    refine hK _ (congrArg num ?_)
    exact ax.symm
   ·have e3 : tC a.syms = false := by simpa using mf
    simp only [List.length_map,sl,aE,go_sem,reduceIte,zA,zB,zC,zD,zE,zF,reduceCtorEq]
    refine bR tt_ok aN [⟨.n, 0, [], [], []⟩, ⟨.r, 0, [], [], []⟩, ⟨.n, 0, [], [], []⟩, ⟨.n, 0, [], [], []⟩, ⟨.n, 0, [], [], []⟩, ⟨.n, 0, [], [], []⟩, ⟨.r, 0, [], [], []⟩, ⟨.n, 0, [], [], []⟩, ⟨.r, 0, [], [], []⟩, ⟨.n, 0, [], [], []⟩, ⟨.n, 0, [], [], []⟩, ⟨.n, 0, [], [], []⟩, ⟨.n, 0, [], [], []⟩, ⟨.n, 0, [], [], []⟩, ⟨.n, 0, [], [], []⟩, ⟨.r, 0, [], [], []⟩, ⟨.n, 0, [], [], []⟩, ⟨.n, 0, [], [], []⟩, ⟨.n, 0, [], [], []⟩, ⟨.n, 0, [], [], []⟩, ⟨.n, 0, [], [], []⟩, ⟨.r, 0, [], [], []⟩, ⟨.n, 0, [], [], []⟩, ⟨.n, 0, [], [], []⟩, ⟨.n, 0, [], [], []⟩, ⟨.n, 0, [], [], []⟩, ⟨.n, 0, [], [], []⟩, ⟨.r, 0, [], [], []⟩, ⟨.n, 0, [], [], []⟩, ⟨.n, 0, [], [], []⟩, ⟨.n, 0, [], [], []⟩] 0 (by kernel_rfl) ?_
    simp only [List.length_map,sl,aE,go_sem,reduceIte,zA,zB,zC,zD,zE,zF,reduceCtorEq]
    refine aT (fun tp => ?_) (fun tp => ?_)
    ·have ax := uz e1 e2 e3 (by unfold lF; rw [tp]; simp only [Bool.or_true,Bool.true_or])
     simp only [List.length_map,sl,aE,go_sem,reduceIte,zA,zB,zC,zD,zE,zF,reduceCtorEq]
     refine hK _ (congrArg num ?_)
     exact ax.symm
    ·simp only [List.length_map,sl,aE,go_sem,reduceIte,zA,zB,zC,zD,zE,zF,reduceCtorEq]
     refine cG (by have h := HW a.set wq; simp only [bY] at h; exact ⟨_, rfl, h⟩) ?_
     rintro _ rfl
     simp only [List.length_map,sl,aE,go_sem,reduceIte,zA,zB,zC,zD,zE,zF,reduceCtorEq]
     refine cG (by have h := HI a.set (canon a.set) wq; simp only [bY] at h; exact h) ?_
     rintro _ rfl
     simp only [List.length_map,sl,aE,go_sem,reduceIte,zA,zB,zC,zD,zE,zF,reduceCtorEq]
     refine aT (fun BX => ?_) (fun BX => ?_)
     ·have ax := uz e1 e2 e3 (by unfold lF; rw [BX]; simp only [Bool.or_true,Bool.true_or])
      simp only [List.length_map,sl,aE,go_sem,reduceIte,zA,zB,zC,zD,zE,zF,reduceCtorEq]
      refine hK _ (congrArg num ?_)
      exact ax.symm
     ·simp only [List.length_map,sl,aE,go_sem,reduceIte,zA,zB,zC,zD,zE,zF,reduceCtorEq]
      refine aT (fun BY => ?_) (fun BY => ?_)
      ·have ax := uz e1 e2 e3 (by unfold lF; rw [BY]; simp only [Bool.or_true,Bool.true_or])
       simp only [List.length_map,sl,aE,go_sem,reduceIte,zA,zB,zC,zD,zE,zF,reduceCtorEq]
       refine hK _ (congrArg num ?_)
       exact ax.symm
      ·simp only [List.length_map,sl,aE,go_sem,reduceIte,zA,zB,zC,zD,zE,zF,reduceCtorEq]
       refine aT (fun BZ => ?_) (fun BZ => ?_)
       ·have ax := uz e1 e2 e3 (by unfold lF; rw [BZ]; simp only [Bool.or_true,Bool.true_or])
        simp only [List.length_map,sl,aE,go_sem,reduceIte,zA,zB,zC,zD,zE,zF,reduceCtorEq]
        refine hK _ (congrArg num ?_)
        exact ax.symm
       ·simp only [List.length_map,sl,aE,go_sem,reduceIte,zA,zB,zC,zD,zE,zF,reduceCtorEq]
        refine aT (fun tE => ?_) (fun tE => ?_)
        ·have ax := uz e1 e2 e3 (by unfold lF; rw [tE]; simp only [Bool.or_true,Bool.true_or])
         simp only [List.length_map,sl,aE,go_sem,reduceIte,zA,zB,zC,zD,zE,zF,reduceCtorEq]
         refine hK _ (congrArg num ?_)
         exact ax.symm
        ·have e4 : lF a = false := by unfold lF; rw [tp, BX, BY, BZ, tE]; rfl
         simp only [List.length_map,sl,aE,go_sem,reduceIte,zA,zB,zC,zD,zE,zF,reduceCtorEq]
         refine bk tt_ok [] [6] 1 [1,26,57] (fun vs => ((a.syms.length : Int) - Go.Eng.intOf (vs.headD .undef)).toNat) (fun vs => ∃ i : Nat, vs = [num i] ∧ 1 ≤ i ∧ ∀ (j : Nat) x y, j + 1 < i → a.syms[j]? = some x → a.syms[j + 1]? = some y → qb x y = true) (by omega) (by simp only [List.length_map,sl,aE,go_sem,reduceIte,zA,zB,zC,zD,zE,zF,reduceCtorEq]) (⟨1, rfl, Nat.le_refl _, fun j x y h => absurd h (by omega)⟩) fun vs hI Z1 bX => ?_
         obtain ⟨i, rfl, hi, bp⟩ := hI
         simp only [List.length_map,sl,aE,go_sem,reduceIte,zA,zB,zC,zD,zE,zF,reduceCtorEq]
         refine aT (fun PK => ?_) (fun PK => ?_)
         ·have bD : i < a.syms.length := by have := of_decide_eq_true PK; omega
          have aP := aq i (by omega)
          obtain ⟨x, hx⟩ : ∃ x, a.syms[i]? = some x := ⟨_, List.getElem?_eq_getElem bD⟩
          obtain ⟨q, hq⟩ : ∃ q, a.syms[i - 1]? = some q := ⟨_, List.getElem?_eq_getElem (by omega)⟩
          have eV : IntKind.i64.wrap ((i : Int) - 1) = ((i - 1 : Nat) : Int) := jo _ _ (by omega) (by omega)
          have pE : ((i - 1 : Nat) : Int) < (a.syms.length : Int) := by omega
          simp only [aP,hx,hq,eV,pE,List.getElem?_map,List.length_map,sl,aE,go_sem,reduceIte,zA,zB,zC,zD,zE,zF,reduceCtorEq]
          refine bR tt_ok aN [⟨.n, 0, [], [], []⟩, ⟨.r, 0, [], [], []⟩, ⟨.n, 0, [], [], []⟩, ⟨.n, 0, [], [], []⟩, ⟨.r, 0, [], [], []⟩, ⟨.r, 0, [], [], []⟩, ⟨.n, 0, [], [], []⟩, ⟨.r, 0, [], [], []⟩, ⟨.n, 0, [], [], []⟩, ⟨.r, 0, [], [], []⟩, ⟨.r, 0, [], [], []⟩, ⟨.n, 0, [], [], []⟩] 0 (by kernel_rfl) ?_
          simp only [aP,hx,hq,eV,pE,List.getElem?_map,List.length_map,sl,aE,go_sem,reduceIte,zA,zB,zC,zD,zE,zF,reduceCtorEq]
          refine aT (fun PL => ?_) (fun PL => ?_)
          ·have ax : ir a = 1 := TZ e1 e2 e3 e4 (DA hq (by rw [show i - 1 + 1 = i by omega]; exact hx) (by simpa using PL))
           simp only [aP,hx,hq,eV,pE,List.getElem?_map,List.length_map,sl,aE,go_sem,reduceIte,zA,zB,zC,zD,zE,zF,reduceCtorEq]
           refine hK _ (congrArg num ?_)
           exact ax.symm
          ·simp only [aP,hx,hq,eV,pE,List.getElem?_map,List.length_map,sl,aE,go_sem,reduceIte,zA,zB,zC,zD,zE,zF,reduceCtorEq]
           refine bX _ (b5 (by omega) (by simp only [aP,hx,hq,eV,pE,List.getElem?_map,List.length_map,sl,aE,go_sem,reduceIte,zA,zB,zC,zD,zE,zF,reduceCtorEq]) ?_ ?_) <;> simp only [dY,lk,reduceIte,zE]
           ·refine ⟨i + 1, rfl, by omega, fun j x2 y2 hj h1 h2 => ?_⟩
            rcases Nat.lt_or_ge (j + 1) i with h | h
            ·exact bp j x2 y2 h h1 h2
            ·have CY : j = i - 1 := by omega
             subst CY
             rw [hq] at h1; rw [show i - 1 + 1 = i by omega, hx] at h2; cases h1; cases h2; simpa using PL
           ·simp only [Go.Eng.intOf,List.headD_cons]; omega
         ·have cP : a.syms.length ≤ i := by have := of_decide_eq_false PK; omega
          have ax : ir a = 0 := TY e1 e2 e3 e4 ((pf _).2 fun j x y h1 h2 => bp j x y (by have := (List.getElem?_eq_some_iff.1 h2).1; omega) h1 h2)
          simp only [List.length_map,sl,aE,go_sem,reduceIte,zA,zB,zC,zD,zE,zF,reduceCtorEq]
          refine hK _ (congrArg num ?_)
          exact ax.symm
end Go.Proofs.YtefbaladomfccaaGreatDoor
end

section
namespace Go.Proofs.YtefbaladomfccaaGreatDoor
section
variable {α : Type} [DecidableEq α] (lt : α → α → Bool)
def lf : List α → List α → Bool
 | a :: r, b :: t => lt a b || (decide (a = b) && lf r t)
 | _, _ => false
def uA (P Q : List α) : Prop := P = Q ∨ lf lt P Q = true
variable {lt} (hl : Ap lt)
include hl
theorem tF : ∀ P : List α, lf lt P P = false
 | [] => rfl
 | a :: r => by rw [lf, hl.irrefl, tF r]; simp
theorem DC : ∀ {P Q : List α}, P.length = Q.length → lf lt P Q = true ∨ P = Q ∨ lf lt Q P = true
 | [], [], _ => .inr (.inl rfl)
 | a :: r, b :: t, h => by
  rw [lf, lf]
  cases h1 : lt a b with
  | true => exact .inl rfl
  | false =>
   cases h2 : lt b a with
   | true => exact .inr (.inr rfl)
   | false =>
    obtain rfl := hl.Mq a b h1 h2
    simp only [decide_true,Bool.true_and,Bool.false_or]
    rcases DC (P := r) (Q := t) (by simpa using h) with h | h | h
    ·exact .inl h
    ·exact .inr (.inl (by rw [h]))
    ·exact .inr (.inr h)
theorem qf : ∀ {P Q R : List α}, lf lt P Q = true → lf lt Q R = true → lf lt P R = true
 | a :: p, b :: q, c :: r, h1, h2 => by
  rw [lf, Bool.or_eq_true, Bool.and_eq_true, decide_eq_true_eq] at h1 h2 ⊢
  rcases h1 with h1 | ⟨rfl, h1⟩
  ·rcases h2 with h2 | ⟨rfl, h2⟩
   ·exact .inl (hl.trans _ _ _ h1 h2)
   ·exact .inl h1
  ·rcases h2 with h2 | ⟨rfl, h2⟩
   ·exact .inl h2
   ·exact .inr ⟨rfl, qf h1 h2⟩
 | [], _, _, h1, _ => by simp [lf] at h1
 | _ :: _, [], _, h1, _ => by simp [lf] at h1
 | _ :: _, _ :: _, [], _, h2 => by simp [lf] at h2
theorem tG : ∀ {P Q : List α} {a b : α}, P.length = Q.length → (lf lt (P ++ [a]) (Q ++ [b]) = true ↔ lf lt P Q = true ∨ P = Q ∧ lt a b = true)
 | [], [], a, b, _ => by simp [lf]
 | x :: p, y :: q, a, b, hlen => by
  rw [List.cons_append, List.cons_append, lf, lf, Bool.or_eq_true, Bool.and_eq_true, decide_eq_true_eq, Bool.or_eq_true, Bool.and_eq_true, decide_eq_true_eq, tG (P := p) (Q := q) (by simpa using hlen)]
  constructor
  ·rintro (h | ⟨rfl, h | ⟨rfl, h⟩⟩)
   ·exact .inl (.inl h)
   ·exact .inl (.inr ⟨rfl, h⟩)
   ·exact .inr ⟨rfl, h⟩
  ·rintro ((h | ⟨rfl, h⟩) | ⟨h1, h2⟩)
   ·exact .inl h
   ·exact .inr ⟨rfl, .inl h⟩
   ·cases h1; exact .inr ⟨rfl, .inr ⟨rfl, h2⟩⟩
theorem IB {P Q : List α} {a : α} (hlen : P.length = Q.length) (h : uA lt P Q) : uA lt (P ++ [a]) (Q ++ [a]) := by
 rcases h with rfl | h
 ·exact .inl rfl
 ·exact .inr ((tG hl hlen).2 (.inl h))
theorem qg {P Q R : List α} (h1 : uA lt P Q) (h2 : uA lt Q R) : uA lt P R := by
 rcases h1 with rfl | h1
 ·exact h2
 ·rcases h2 with rfl | h2
  ·exact .inr h1
  ·exact .inr (qf hl h1 h2)
theorem xn {P Q : List α} (h1 : uA lt P Q) (h2 : uA lt Q P) : P = Q := by
 rcases h1 with h1 | h1
 ·exact h1
 ·rcases h2 with h2 | h2
  ·exact h2.symm
  ·have := qf hl h1 h2
   rw [tF hl] at this; cases this
end
section
variable {α : Type} [DecidableEq α] (D : α → List α) (s : α)
inductive Way : α → List α → Prop
 | one : Way s [s]
 | snoc {u P k} : Way u P → k ∈ D u → Way k (P ++ [k])
variable {D s}
theorem Way.pos {x : α} {P : List α} (h : Way D s x P) : 1 ≤ P.length := by cases h <;> simp
theorem Way.short {x : α} {P : List α} (h : Way D s x P) (hP : P.length ≤ 1) : x = s ∧ P = [s] := by
 cases h with
 | one => exact ⟨rfl, rfl⟩
 | snoc h _ => have := h.pos; simp at hP; rw [hP] at this; simp at this
variable (D s) (lt : α → α → Bool)
structure Lay (n : Nat) (K L : List α) (W : α → List α) : Prop where
 ws : ∀ x ∈ K, Way D s x (W x)
 QV : ∀ x P, Way D s x P → P.length ≤ n + 1 → x ∈ K ∧ (W x).length ≤ P.length ∧ ((W x).length = P.length → uA lt (W x) P)
 lay : ∀ x, x ∈ L ↔ x ∈ K ∧ (W x).length = n + 1
 QW : ∀ x ∈ K, (W x).length ≤ n + 1
 ord : L.Pairwise fun x y => lf lt (W x) (W y) = true
structure B8 (K L : List α) (W : α → List α) (i j : Nat) (K' N : List α) (W' : α → List α) : Prop where
 mem : ∀ x, x ∈ K' ↔ x ∈ K ∨ x ∈ N
 Xq : ∀ x ∈ N, x ∉ K
 ka : ∀ x ∈ K, W' x = W x
 new : ∀ k ∈ N, ∃ i' u', L[i']? = some u' ∧ k ∈ D u' ∧ W' k = W u' ++ [k] ∧ (∀ zQ B9, zQ < i' → L[zQ]? = some B9 → k ∉ D B9) ∧ (i' < i ∨ (i' = i ∧ ∃ j', j' < j ∧ (D u')[j']? = some k))
 full : ∀ zQ B9, zQ < i → L[zQ]? = some B9 → ∀ k ∈ D B9, k ∈ K'
 cur : ∀ u, L[i]? = some u → ∀ (j' : Nat) (k : α), j' < j → (D u)[j']? = some k → k ∈ K'
 Lp : N.Pairwise fun x y => lf lt (W' x) (W' y) = true
variable {D s lt}
theorem Lay.init : Lay D s lt 0 [s] [s] (fun _ => [s]) := by
 refine ⟨fun x hx => ?_, fun x P h hP => ?_, fun x => by simp, fun x _ => by simp, by simp⟩
 ·rw [List.mem_singleton] at hx; subst hx; exact .one
 ·obtain ⟨rfl, rfl⟩ := h.short hP
  exact ⟨List.mem_singleton.2 rfl, Nat.le_refl _, fun _ => .inl rfl⟩
theorem B8.init (K L : List α) (W : α → List α) : B8 D lt K L W 0 0 K [] W :=
 ⟨fun x => by simp, fun x hx => by simp at hx, fun x _ => rfl, fun k hk => by simp at hk, fun zQ B9 h => absurd h (Nat.not_lt_zero _), fun u _ j' k h => absurd h (Nat.not_lt_zero _), List.Pairwise.nil⟩
section
variable {K L : List α} {W : α → List α} {i j n : Nat} {K' N : List α} {W' : α → List α} {u k : α}
theorem B8.IC (m : B8 D lt K L W i j K' N W') (hu : L[i]? = some u) (hk : (D u)[j]? = some k) (hK : k ∈ K') : B8 D lt K L W i (j + 1) K' N W' := by
 refine ⟨m.mem, m.Xq, m.ka, fun x hx => ?_, m.full, fun v hv j' x hj hx => ?_, m.Lp⟩
 ·obtain ⟨i', u', h1, h2, h3, h4, h5⟩ := m.new x hx
  exact ⟨i', u', h1, h2, h3, h4, h5.imp id fun ⟨e, j', hj, h⟩ => ⟨e, j', by omega, h⟩⟩
 ·rw [hu] at hv; cases hv
  rcases Nat.lt_or_ge j' j with h | h
  ·exact m.cur u hu j' x h hx
  ·obtain rfl : j' = j := by omega
   rw [hk] at hx; cases hx; exact hK
theorem B8.next (m : B8 D lt K L W i j K' N W') (hu : L[i]? = some u) (hj : (D u).length ≤ j) : B8 D lt K L W (i + 1) 0 K' N W' := by
 refine ⟨m.mem, m.Xq, m.ka, fun x hx => ?_, fun zQ B9 hi h x hx => ?_, fun v _ j' x h => absurd h (Nat.not_lt_zero _), m.Lp⟩
 ·obtain ⟨i', u', h1, h2, h3, h4, h5⟩ := m.new x hx
  refine ⟨i', u', h1, h2, h3, h4, .inl ?_⟩
  rcases h5 with h | ⟨h, -⟩ <;> omega
 ·rcases Nat.lt_or_ge zQ i with aL | cP
  ·exact m.full zQ B9 aL h x hx
  ·obtain rfl : zQ = i := by omega
   rw [hu] at h; cases h
   obtain ⟨j', HL⟩ := List.mem_iff_getElem?.1 hx
   exact m.cur u hu j' x (Nat.lt_of_lt_of_le (List.getElem?_eq_some_iff.1 HL).1 hj) HL
theorem B8.add (hl : Ap lt) (hD : ∀ u, zd lt (D u)) (y : Lay D s lt n K L W) (m : B8 D lt K L W i j K' N W') (hu : L[i]? = some u) (hk : (D u)[j]? = some k) (hK : k ∉ K') :
  B8 D lt K L W i (j + 1) (K' ++ [k]) (N ++ [k]) (fun x => if x = k then W u ++ [k] else W' x) := by
 have bL : ∀ x ∈ K', ¬ x = k := fun x hx e => hK (e ▸ hx)
 have hN : ∀ x ∈ N, x ∈ K' := fun x hx => (m.mem x).2 (.inr hx)
 have Zw : ∀ x ∈ K, x ∈ K' := fun x hx => (m.mem x).2 (.inl hx)
 have huL : u ∈ L := List.mem_of_getElem? hu
 have TO := ((y.lay u).1 huL).2
 refine ⟨fun x => ?_, fun x hx => ?_, fun x hx => by rw [if_neg (bL x (Zw x hx)), m.ka x hx], fun x hx => ?_, fun zQ B9 hi h x hx => List.mem_append_left _ (m.full zQ B9 hi h x hx), fun v hv j' x hj hx => ?_, ?_⟩
 ·rw [List.mem_append, List.mem_append, m.mem, or_assoc]
 ·rcases List.mem_append.1 hx with hx | hx
  ·exact m.Xq x hx
  ·rw [List.mem_singleton] at hx; subst hx; exact fun h => hK (Zw _ h)
 ·rcases List.mem_append.1 hx with hx | hx
  ·obtain ⟨i', u', h1, h2, h3, h4, h5⟩ := m.new x hx
   exact ⟨i', u', h1, h2, by rw [if_neg (bL x (hN x hx))]; exact h3, h4, h5.imp id fun ⟨e, j', hj, h⟩ => ⟨e, j', by omega, h⟩⟩
  ·rw [List.mem_singleton] at hx; subst hx
   exact ⟨i, u, hu, List.mem_of_getElem? hk, by rw [if_pos rfl], fun zQ B9 hi h oR => hK (m.full zQ B9 hi h _ oR), .inr ⟨rfl, j, by omega, hk⟩⟩
 ·rw [hu] at hv; cases hv
  rcases Nat.lt_or_ge j' j with h | h
  ·exact List.mem_append_left _ (m.cur u hu j' x h hx)
  ·obtain rfl : j' = j := by omega
   rw [hk] at hx; cases hx; simp
 ·rw [List.pairwise_append]
  refine ⟨m.Lp.imp_of_mem fun ha hb h => by rw [if_neg (bL _ (hN _ ha)), if_neg (bL _ (hN _ hb))]; exact h, by simp, fun x hx z hz => ?_⟩
  rw [List.mem_singleton] at hz; subst hz
  rw [if_neg (bL x (hN x hx)), if_pos rfl]
  obtain ⟨i', u', h1, h2, h3, -, h5⟩ := m.new x hx
  have Xr := ((y.lay u').1 (List.mem_of_getElem? h1)).2
  rw [h3]
  refine (tG hl (by rw [TO, Xr])).2 ?_
  rcases h5 with h5 | ⟨rfl, j', HL, h5⟩
  ·left
   have h6 := (List.getElem?_eq_some_iff.1 h1)
   have h7 := (List.getElem?_eq_some_iff.1 hu)
   have := List.pairwise_iff_getElem.1 y.ord i' i h6.1 h7.1 h5
   rwa [h6.2, h7.2] at this
  ·right
   rw [hu] at h1; cases h1
   refine ⟨rfl, ?_⟩
   have h6 := (List.getElem?_eq_some_iff.1 h5)
   have h7 := (List.getElem?_eq_some_iff.1 hk)
   have := List.pairwise_iff_getElem.1 (hD u) j' j h6.1 h7.1 HL
   rwa [h6.2, h7.2] at this
theorem B8.lay (hl : Ap lt) (y : Lay D s lt n K L W) (m : B8 D lt K L W i j K' N W') (hi : L.length ≤ i) : Lay D s lt (n + 1) K' N W' := by
 have gZ : ∀ k ∈ N, ∃ (i' : Nat) (u' : α), L[i']? = some u' ∧ k ∈ D u' ∧ W' k = W u' ++ [k] ∧ (W u').length = n + 1 ∧ u' ∈ K ∧ ∀ zQ B9, zQ < i' → L[zQ]? = some B9 → k ∉ D B9 := fun k hk => by
  obtain ⟨i', u', h1, h2, h3, h4, -⟩ := m.new k hk
  obtain ⟨h5, h6⟩ := (y.lay u').1 (List.mem_of_getElem? h1)
  exact ⟨i', u', h1, h2, h3, h6, h5, h4⟩
 refine ⟨fun x hx => ?_, fun x P h hP => ?_, fun x => ?_, fun x hx => ?_, m.Lp⟩
 ·rcases (m.mem x).1 hx with hx | hx
  ·rw [m.ka x hx]; exact y.ws x hx
  ·obtain ⟨i', u', h1, h2, h3, h4, h5, -⟩ := gZ x hx
   rw [h3]; exact (y.ws u' h5).snoc h2
 ·rcases Nat.lt_or_ge (n + 1) P.length with aL | cP
  ·cases h with
   | one => simp at aL
   | @snoc u Q k hw hk =>
    have hQ : Q.length = n + 1 := by simp at hP aL; omega
    obtain ⟨c1, c2, c3⟩ := y.QV u Q hw (by omega)
    have Ve : ∀ h : x ∈ K, x ∈ K' ∧ (W' x).length ≤ (Q ++ [x]).length ∧ ((W' x).length = (Q ++ [x]).length → uA lt (W' x) (Q ++ [x])) := fun h => by
     have := y.QW x h
     rw [m.ka x h]
     refine ⟨(m.mem x).2 (.inl h), by simp; omega, fun e => ?_⟩
     simp at e; omega
    rcases Nat.lt_or_ge (W u).length (n + 1) with hs | hg
    ·exact Ve (y.QV x _ ((y.ws u c1).snoc hk) (by simp; omega)).1
    ·have Xs : (W u).length = n + 1 := by omega
     obtain ⟨i0, AJ⟩ := List.mem_iff_getElem?.1 ((y.lay u).2 ⟨c1, Xs⟩)
     have h7 := List.getElem?_eq_some_iff.1 AJ
     have T2 := m.full i0 u (Nat.lt_of_lt_of_le h7.1 hi) AJ x hk
     rcases (m.mem x).1 T2 with hx | hx
     ·exact Ve hx
     ·obtain ⟨i', u', h1, h2, h3, h4, h5, h6⟩ := gZ x hx
      have hle : i' ≤ i0 := by
       rcases Nat.lt_or_ge i0 i' with h | h
       ·exact absurd hk (h6 i0 u h AJ)
       ·exact h
      have h8 : uA lt (W u') (W u) := by
       have h9 := List.getElem?_eq_some_iff.1 h1
       rcases Nat.lt_or_ge i' i0 with h | h
       ·have := List.pairwise_iff_getElem.1 y.ord i' i0 h9.1 h7.1 h
        rw [h9.2, h7.2] at this; exact .inr this
       ·obtain rfl : i' = i0 := by omega
        rw [AJ] at h1; cases h1; exact .inl rfl
      refine ⟨T2, by rw [h3]; simp; omega, fun _ => ?_⟩
      rw [h3]
      exact IB hl (by omega) (qg hl h8 (c3 (by omega)))
  ·obtain ⟨c1, c2, c3⟩ := y.QV x P h cP
   rw [m.ka x c1]
   exact ⟨(m.mem x).2 (.inl c1), c2, c3⟩
 ·constructor
  ·intro hx
   obtain ⟨i', u', h1, h2, h3, h4, h5, -⟩ := gZ x hx
   exact ⟨(m.mem x).2 (.inr hx), by rw [h3]; simp; omega⟩
  ·rintro ⟨hx, hlen⟩
   rcases (m.mem x).1 hx with hx | hx
   ·have := y.QW x hx; rw [m.ka x hx] at hlen; omega
   ·exact hx
 ·rcases (m.mem x).1 hx with hx | hx
  ·have := y.QW x hx; rw [m.ka x hx]; omega
  ·obtain ⟨i', u', h1, h2, h3, h4, h5, -⟩ := gZ x hx
   rw [h3]; simp; omega
theorem Lay.closed (y : Lay D s lt n K [] W) : ∀ {x : α} {P : List α}, Way D s x P → x ∈ K := by
 intro x P h
 induction h with
 | one => exact (y.QV s [s] .one (by simp)).1
 | @snoc u P k hw hk ih =>
  have h1 := y.QW u ih
  have h2 : ¬ (W u).length = n + 1 := fun e => by have := (y.lay u).2 ⟨ih, e⟩; simp at this
  exact (y.QV k _ ((y.ws u ih).snoc hk) (by simp; omega)).1
def nA (D : α → List α) (s : α) (lt : α → α → Bool) (to : α → Bool) (c : List α) : Prop :=
 (∃ x, Way D s x c ∧ to x = true) ∧ ∀ x P, Way D s x P → to x = true → c.length < P.length ∨ c.length = P.length ∧ uA lt c P
theorem Lay.found (hl : Ap lt) (y : Lay D s lt n K L W) {to : α → Bool} (Vf : ∀ x ∈ K, (W x).length ≤ n → to x = false) {x : α} (hx : L[i]? = some x) (lO : ∀ (j : Nat) z, j < i → L[j]? = some z → to z = false) (ht : to x = true) : nA D s lt to (W x) := by
 have hxL := List.mem_of_getElem? hx
 obtain ⟨Ve, xC⟩ := (y.lay x).1 hxL
 refine ⟨⟨x, y.ws x Ve, ht⟩, fun z P h hz => ?_⟩
 rcases Nat.lt_or_ge (n + 1) P.length with aL | cP
 ·exact .inl (by omega)
 ·obtain ⟨c1, c2, c3⟩ := y.QV z P h cP
  have xS : (W z).length = n + 1 := by
   have := y.QW z c1
   rcases Nat.lt_or_ge (W z).length (n + 1) with h1 | h1
   ·have := Vf z c1 (by omega); rw [hz] at this; cases this
   ·omega
  obtain ⟨i0, AJ⟩ := List.mem_iff_getElem?.1 ((y.lay z).2 ⟨c1, xS⟩)
  have hle : i ≤ i0 := by
   rcases Nat.lt_or_ge i0 i with h1 | h1
   ·have := lO i0 z h1 AJ; rw [hz] at this; cases this
   ·exact h1
  have h8 : uA lt (W x) (W z) := by
   have h7 := List.getElem?_eq_some_iff.1 AJ
   have h9 := List.getElem?_eq_some_iff.1 hx
   rcases Nat.lt_or_ge i i0 with h1 | h1
   ·have := List.pairwise_iff_getElem.1 y.ord i i0 h9.1 h7.1 h1
    rw [h9.2, h7.2] at this; exact .inr this
   ·obtain rfl : i = i0 := by omega
    rw [AJ] at hx; cases hx; exact .inl rfl
  exact .inr ⟨by omega, qg hl h8 (c3 (by omega))⟩
theorem nA.unique (hl : Ap lt) {to : α → Bool} {c e : List α} (h1 : nA D s lt to c) (h2 : nA D s lt to e) : c = e := by
 obtain ⟨⟨x, hx, tx⟩, m1⟩ := h1
 obtain ⟨⟨z, hz, tz⟩, m2⟩ := h2
 rcases m1 z e hz tz with h | ⟨h, h3⟩
 ·rcases m2 x c hx tx with h' | ⟨h', -⟩ <;> omega
 ·rcases m2 x c hx tx with h' | ⟨-, h4⟩
  ·omega
  ·exact xn hl h3 h4
end
end
end Go.Proofs.YtefbaladomfccaaGreatDoor
end

section
namespace Go.Proofs.YtefbaladomfccaaGreatDoor
open Go.Eng
open Nat renaming reduceAdd → zA, reduceLT → zB, reduceLeDiff → zC, reduceMul → zD, reduceEqDiff → zE, reduceSub → zF
variable [aK]
set_option maxHeartbeats 4000000
set_option maxRecDepth 100000
section
variable {look : Us → Option Dc} {s : Us} {T : xl} {n : Nat} {B : rG} {L : List Us} {W : Us → List Us}
theorem ID (u : Us) : zd dM (dW look u) := k9 jr List.Pairwise.nil
structure pg (look : Us → Option Dc) (s : Us) (T : xl) (n : Nat) (B : rG) (L : List Us) (W : Us → List Us) : Prop where
 lay : Lay (dW look) s dM n (B.map Prod.fst) L W
 wp : ∀ i k u, B[i + 1]? = some (k, u) → W k = W u ++ [k]
 w0 : W s = [s]
 to : ∀ x ∈ B.map Prod.fst, (W x).length ≤ n → oi T x = false
structure ph (look : Us → Option Dc) (s : Us) (B : rG) (L : List Us) (W : Us → List Us) (i j : Nat) (B' : rG) (N : List Us) (W' : Us → List Us) : Prop where
 Lq : B8 (dW look) dM (B.map Prod.fst) L W i j (B'.map Prod.fst) N W'
 wp : ∀ i k u, B'[i + 1]? = some (k, u) → W' k = W' u ++ [k]
theorem zR {D : Us → List Us} {x : Us} {P : List Us} (h : Way D s x P) : P = P.dropLast ++ [x] := by cases h <;> simp
theorem pg.init (hs : isVal look s) : pg look s T 0 [(s, s)] [s] (fun _ => [s]) :=
 ⟨Lay.init, fun i k u h => by simp at h, rfl, fun x _ h => by simp at h⟩
theorem pg.Xt (y : pg look s T n B L W) : ph look s B L W 0 0 B [] W := ⟨B8.init _ _ _, y.wp⟩
theorem ph.IC {i j : Nat} {B' : rG} {N : List Us} {W' : Us → List Us} {u k : Us} (m : ph look s B L W i j B' N W') (hu : L[i]? = some u) (hk : (dW look u)[j]? = some k) (hK : k ∈ B'.map Prod.fst) : ph look s B L W i (j + 1) B' N W' := ⟨m.Lq.IC hu hk hK, m.wp⟩
theorem ph.next {i j : Nat} {B' : rG} {N : List Us} {W' : Us → List Us} {u : Us} (m : ph look s B L W i j B' N W') (hu : L[i]? = some u) (hj : (dW look u).length ≤ j) : ph look s B L W (i + 1) 0 B' N W' := ⟨m.Lq.next hu hj, m.wp⟩
theorem ph.add {i j : Nat} {B' : rG} {N : List Us} {W' : Us → List Us} {u k : Us} (y : pg look s T n B L W) (hB : Bf look s B') (m : ph look s B L W i j B' N W') (hu : L[i]? = some u) (hk : (dW look u)[j]? = some k) (hg : jF k B' = none) :
  ph look s B L W i (j + 1) (B' ++ [(k, u)]) (N ++ [k]) (fun x => if x = k then W u ++ [k] else W' x) := by
 have hK : k ∉ B'.map Prod.fst := vq hg
 have Zx : u ∈ B.map Prod.fst := ((y.lay.lay u).1 (List.mem_of_getElem? hu)).1
 have Xu : u ∈ B'.map Prod.fst := (m.Lq.mem u).2 (.inl Zx)
 refine ⟨by rw [List.map_append]; exact m.Lq.add jr ID y.lay hu hk hK, fun i2 k2 u2 h => ?_⟩
 have gC : 0 < B'.length := (List.getElem?_eq_some_iff.1 hB.pos).1
 rcases Nat.lt_or_ge (i2 + 1) B'.length with aL | cP
 ·rw [List.getElem?_append_left aL] at h
  have h2 := m.wp i2 k2 u2 h
  have iz : k2 ∈ B'.map Prod.fst := List.mem_map.2 ⟨_, List.mem_of_getElem? h, rfl⟩
  obtain ⟨j2, w, -, h3, -⟩ := hB.step i2 k2 u2 h
  have QX : u2 ∈ B'.map Prod.fst := List.mem_map.2 ⟨_, List.mem_of_getElem? h3, rfl⟩
  have n1 : ¬ k2 = k := fun e => hK (e ▸ iz)
  have n2 : ¬ u2 = k := fun e => hK (e ▸ QX)
  show (if k2 = k then W u ++ [k] else W' k2) = (if u2 = k then W u ++ [k] else W' u2) ++ [k2]
  rw [if_neg n1, if_neg n2, h2]
 ·rw [List.getElem?_append_right cP] at h
  have h0 : i2 + 1 - B'.length = 0 := by have := (List.getElem?_eq_some_iff.1 h).1; simp at this; omega
  rw [h0] at h
  simp at h
  obtain ⟨rfl, rfl⟩ := h
  have n1 : ¬ u = k := fun e => hK (e ▸ Xu)
  show (if k = k then W u ++ [k] else W' k) = (if u = k then W u ++ [k] else W' u) ++ [k]
  rw [if_pos rfl, if_neg n1, m.Lq.ka u Zx]
theorem ph.lay {i j : Nat} {B' : rG} {N : List Us} {W' : Us → List Us} (y : pg look s T n B L W) (hB : Bf look s B) (m : ph look s B L W i j B' N W') (hi : L.length ≤ i) (bp : ∀ z ∈ L, oi T z = false) : pg look s T (n + 1) B' N W' := by
 have hl := m.Lq.lay jr y.lay hi
 have hsK : s ∈ B.map Prod.fst := List.mem_map.2 ⟨_, List.mem_of_getElem? hB.pos, rfl⟩
 refine ⟨hl, m.wp, by rw [m.Lq.ka s hsK, y.w0], fun x hx hlen => ?_⟩
 rcases (m.Lq.mem x).1 hx with hx | hx
 ·rw [m.Lq.ka x hx] at hlen
  rcases Nat.lt_or_ge n (W x).length with h | h
  ·exact bp x ((y.lay.lay x).2 ⟨hx, by omega⟩)
  ·exact y.to x hx h
 ·have := ((hl.lay x).1 hx).2; omega
theorem pg.none (y : pg look s T n B [] W) : ∀ x P, Way (dW look) s x P → oi T x = false := fun x P h => by
 have hK := y.lay.closed h
 have h1 := y.lay.QW x hK
 have h2 : ¬ (W x).length = n + 1 := fun e => by have := (y.lay.lay x).2 ⟨hK, e⟩; simp at this
 exact y.to x hK (by omega)
def tH (W : Us → List Us) (x : Us) (O : List Us) (v : Us) : Prop := W x = (W v).dropLast ++ O.reverse
theorem tH.one (y : pg look s T n B L W) {x : Us} (hx : x ∈ B.map Prod.fst) : tH W x [x] x := zR (y.lay.ws x hx)
theorem tH.next (y : pg look s T n B L W) (hB : Bf look s B) {x v u : Us} {O : List Us} {j : Nat} (p : JJ B look x O v j) (q : tH W x O v) (bL : ¬ v = s) (hu : jF v B = some u) : tH W x (O ++ [u]) u := by
 obtain ⟨u', KY⟩ := p.at_
 have e := hB.get KY
 rw [hu] at e; cases e
 cases j with
 | zero => rw [hB.pos] at KY; exact absurd (congrArg Prod.fst (Option.some.inj KY)).symm bL
 | succ j =>
  have h1 := y.wp j v u KY
  obtain ⟨j2, w, -, h3, -⟩ := hB.step j v u KY
  have hk : u ∈ B.map Prod.fst := List.mem_map.2 ⟨_, List.mem_of_getElem? h3, rfl⟩
  have h4 := zR (y.lay.ws u hk)
  unfold tH at q ⊢
  rw [q, h1, List.dropLast_concat, List.reverse_append, List.reverse_singleton, ← List.append_assoc, ← h4]
theorem tH.done (y : pg look s T n B L W) {x v : Us} {O : List Us} (q : tH W x O v) (he : v = s) : W x = O.reverse := by
 subst he
 unfold tH at q
 rw [q, y.w0]; rfl
end
theorem Fk {B : rG} {k u : Us} (h : jF k B = some u) : k ∈ B.map Prod.fst := by
 unfold jF at h
 rw [Option.map_eq_some_iff] at h
 obtain ⟨e, he, -⟩ := h
 have h1 := List.find?_some he
 exact List.mem_map.2 ⟨e, List.mem_of_find?_eq_some he, of_decide_eq_true h1⟩
theorem Fl (g : GD) (T : xl) (s : Us) (hg : g.length ≤ 1048576) (KX : ∀ u d, aY u g = some d → d.wt ≤ 1048576) (hs : isVal (fun v => aY v g) s) : ∃ r_, (fun r : V => (r = V.sc (.slice none 0 0) ∧ ∀ x P, Way (dW (fun v => aY v g)) s x P → oi T x = false) ∨ ∃ c : List Us, c ≠ [] ∧ r = V.slice (c.map az) ∧ QU (fun v => aY v g) s (oi T) c ∧ nA (dW (fun v => aY v g)) s dM (oi T) c) r_ ∧ bF Tryz.prog 40 [.mp 0, az s, .mp 1] ([.map (b8 cI 0 (bn g)) (bn g).length, .map (b8 cI 0 (ca T)) (ca T).length]) r_ ([.map (b8 cI 0 (bn g)) (bn g).length, .map (b8 cI 0 (ca T)) (ca T).length]) := by
 refine Mz tt_ok [13,28] 86 [.tmp 6] (fn := Tryz.f40) Tryz.func40 rfl Tryz.call40 ⟨rfl, rfl, by simp⟩ fun K hK => ?_
 simp only [az]
 have dN := fun B2 => TS (u := s) (B := []) rfl s (mem := [.map (b8 cI 0 (bn g)) (bn g).length, .map (b8 cI 0 (ca T)) (ca T).length, B2, .map [] 0]) (b := 3) rfl
 simp only [ab,aQ,ag,dN,List.length_map,aZ,go_sem,reduceIte,zA,zB,zC,zD,zE,zF,reduceCtorEq]
 refine o0 (v' := .slice [.agg [str s.1, str s.2]]) 8 (by decide) rfl rfl ?_
 refine dk tt_ok [13,28] (fun a : rG × List Us => [(0, .mp 0), (2, .mp 1), (4, .ptr 2 0), (7, .mp 3), (8, .slice (a.2.map az))]) (fun a : rG × List Us => [.map (b8 cI 0 (bn g)) (bn g).length, .map (b8 cI 0 (ca T)) (ca T).length, .box [str s.1, str s.2], .map (b8 cI 0 (eW a.1)) (eW a.1).length]) (fun a => 2 * (g.length - a.1.length) + (if a.2.length = 0 then 0 else 1)) (fun a => Bf (fun v => aY v g) s a.1 ∧ (∀ x ∈ a.2, ∃ u, (x, u) ∈ a.1) ∧ a.2.length ≤ 1048576 ∧ ∃ n W, pg (fun v => aY v g) s T n a.1 a.2 W) (([(s, s)], [s])) 4 (bz (by omega) (by simp only [ab,aQ,ag,dN,List.length_map,aZ,eW,List.map_cons,List.map_nil,b8,List.length_cons,List.length_nil,az,Nat.zero_add,Int.cast_ofNat_Int,go_sem,reduceIte,zA,zB,zC,zD,zE,zF,reduceCtorEq] <;> rfl)) (⟨Bf.one hs, fun x hx => by rw [List.mem_singleton] at hx; subst hx; exact ⟨_, List.mem_singleton.2 rfl⟩, by simp, 0, _, pg.init hs⟩) ?_
 intro ⟨B, L⟩ ⟨hB, hL, Ta, n, W, hY⟩
 try dsimp only at hB hL Ta hY
 try dsimp only
 have hBg := hB.len
 intro Z1 bX
 simp only [ab,aQ,ag,dN,List.length_map,aZ,go_sem,reduceIte,zA,zB,zC,zD,zE,zF,reduceCtorEq]
 refine aT (fun xp => ?_) (fun xp => ?_)
 ·have hLp : 0 < L.length := by have := of_decide_eq_true xp; omega
  simp only [ab,aQ,ag,dN,List.length_map,aZ,go_sem,reduceIte,zA,zB,zC,zD,zE,zF,reduceCtorEq]
  refine bk tt_ok [13,28] [30] 4 [0,2,4,7,8,27,28,29] (fun vs => ((L.length : Int) - Go.Eng.intOf (vs.headD .undef)).toNat) (fun vs => ∃ i : Nat, vs = [num i] ∧ i ≤ L.length ∧ ∀ (j : Nat) z, j < i → L[j]? = some z → oi T z = false) (by omega) (by simp only [ab,aQ,ag,dN,List.length_map,aZ,go_sem,reduceIte,zA,zB,zC,zD,zE,zF,reduceCtorEq]) (⟨0, rfl, Nat.zero_le _, fun j z h => absurd h (Nat.not_lt_zero j)⟩) fun vs hI Z2 jD => ?_
  obtain ⟨i, rfl, hi, cT⟩ := hI
  simp only [ab,aQ,ag,dN,List.length_map,aZ,go_sem,reduceIte,zA,zB,zC,zD,zE,zF,reduceCtorEq]
  refine aT (fun fp => ?_) (fun fp => ?_)
  ·have bD : i < L.length := by simpa using fp
   have aP := aq i (by omega)
   obtain ⟨x, hx⟩ : ∃ x, L[i]? = some x := ⟨_, List.getElem?_eq_getElem bD⟩
   have aL := fun B4 => TR x T (mem := [.map (b8 cI 0 (bn g)) (bn g).length, .map (b8 cI 0 (ca T)) (ca T).length, .box [str s.1, str s.2], .map (b8 cI 0 (eW B)) (eW B).length, B4]) (b := 1) rfl
   simp only [ab,aQ,ag,dN,aP,hx,List.getElem?_map,az,aL,List.length_map,aZ,go_sem,reduceIte,zA,zB,zC,zD,zE,zF,reduceCtorEq]
   refine aT (fun lD => ?_) (fun lD => ?_)
   ·simp only [ab,aQ,ag,dN,aP,hx,List.getElem?_map,az,aL,List.length_map,aZ,go_sem,reduceIte,zA,zB,zC,zD,zE,zF,reduceCtorEq]
    refine jD _ (b5 (by omega) (by simp only [ab,aQ,ag,dN,aP,hx,List.getElem?_map,az,aL,List.length_map,aZ,go_sem,reduceIte,zA,zB,zC,zD,zE,zF,reduceCtorEq]) ?_ ?_) <;> simp only [dY,lk,reduceIte,zE]
    ·refine ⟨i + 1, rfl, bD, fun j z hj hz => ?_⟩
     rcases Nat.lt_or_ge j i with h | h
     ·exact cT j z h hz
     ·obtain rfl : j = i := by omega
      rw [hx] at hz; cases hz; simpa using lD
    ·simp only [Go.Eng.intOf,List.headD_cons]; omega
   ·have Vf : oi T x = true := by simpa using lD
    obtain ⟨ux, T3⟩ := hL x (List.mem_of_getElem? hx)
    obtain ⟨jx, hjx⟩ := List.mem_iff_getElem?.1 T3
    simp only [ab,aQ,ag,dN,aP,hx,List.getElem?_map,az,aL,dy,List.length_map,aZ,go_sem,reduceIte,zA,zB,zC,zD,zE,zF,reduceCtorEq]
    refine dk tt_ok [13,28] (fun a : List Us × Us × Nat × Nat => [(0, .mp 0), (2, .mp 1), (4, .ptr 2 0), (7, .mp 3), (10, .ptr 4 0), (11, .ms 5 a.2.2.2 0 a.1.length)]) (fun a : List Us × Us × Nat × Nat => [.map (b8 cI 0 (bn g)) (bn g).length, .map (b8 cI 0 (ca T)) (ca T).length, .box [str s.1, str s.2], .map (b8 cI 0 (eW B)) (eW B).length, .box [str a.2.1.1, str a.2.1.2], .rows a.2.2.2 2 (a.1.map az)]) (fun a => a.2.2.1) (fun a => JJ B (fun v => aY v g) x a.1 a.2.1 a.2.2.1 ∧ tH W x a.1 a.2.1) (([x], x, jx, 0)) 6 (bz (by omega) (by simp only [ab,aQ,ag,dN,aP,hx,List.getElem?_map,az,aL,dy,List.length_map,aZ,List.map_cons,List.map_nil,List.length_cons,List.length_nil,az,Nat.zero_add,Int.cast_ofNat_Int,go_sem,reduceIte,zA,zB,zC,zD,zE,zF,reduceCtorEq] <;> rfl)) (⟨JJ.one hB hjx, tH.one hY (List.mem_map.2 ⟨_, T3, rfl⟩)⟩) ?_
    intro ⟨O, v, j, w⟩ ⟨hP, hQ⟩
    try dsimp only at hP hQ
    try dsimp only
    have Xv : 0 < O.length := (List.getElem?_eq_some_iff.1 hP.head).1
    have QO := hP.len
    have Zy : O.length ≤ 1048576 := by omega
    intro Z3 Ca
    simp only [ab,aQ,ag,dN,aP,hx,List.getElem?_map,az,aL,dy,List.length_map,aZ,go_sem,reduceIte,zA,zB,zC,zD,zE,zF,reduceCtorEq]
    refine aT (fun Cb => ?_) (fun Cb => ?_)
    ·have bL : ¬ v = s := by simpa using Cb
     obtain ⟨u2, j2, QX, hj2, hP2⟩ := hP.next hB bL
     have QT := fun B4 B5 => MN v B (mem := [.map (b8 cI 0 (bn g)) (bn g).length, .map (b8 cI 0 (ca T)) (ca T).length, .box [str s.1, str s.2], .map (b8 cI 0 (eW B)) (eW B).length, B4, B5]) (b := 3) rfl false
     have qE : O.length + 1 ≤ 34359738368 := by omega
     simp only [ab,aQ,ag,dN,aP,hx,List.getElem?_map,az,aL,dy,QT,QX,qE,dy,rL,Option.map_some,Option.getD_some,az,List.length_map,aZ,go_sem,reduceIte,zA,zB,zC,zD,zE,zF,reduceCtorEq]
     refine Ca _ ⟨(O ++ [u2], u2, j2, w + 1), ?_, ?_, bz (by omega) (by (simp only [List.length_map,PI,re,az,ab,aQ,ag,go_sem,reduceIte,zA,zB,zC,zD,zE,zF,reduceCtorEq]))⟩
     ·exact ⟨hP2, hQ.next hY hB hP bL QX⟩
     ·exact hj2
    ·have heq : v = s := by simpa using Cb
     have Xw := hP.done heq Vf (by omega)
     have hle : nA (dW (fun v => aY v g)) s dM (oi T) O.reverse := by rw [← hQ.done hY heq]; exact hY.lay.found jr hY.to hx cT Vf
     have ax : ((fun r : V => (r = V.sc (.slice none 0 0) ∧ ∀ x P, Way (dW (fun v => aY v g)) s x P → oi T x = false) ∨ ∃ c : List Us, c ≠ [] ∧ r = V.slice (c.map az) ∧ QU (fun v => aY v g) s (oi T) c ∧ nA (dW (fun v => aY v g)) s dM (oi T) c)) (.slice (O.reverse.map az)) := Or.inr ⟨O.reverse, fun e => by have := congrArg List.length e; simp at this; rw [this] at Xv; simp at Xv, rfl, Xw, hle⟩
     simp only [ab,aQ,ag,dN,aP,hx,List.getElem?_map,az,aL,dy,List.length_map,aZ,go_sem,reduceIte,zA,zB,zC,zD,zE,zF,reduceCtorEq]
     refine cW (by have h := Px w O Xv Zy [.map (b8 cI 0 (bn g)) (bn g).length, .map (b8 cI 0 (ca T)) (ca T).length, .box [str s.1, str s.2], .map (b8 cI 0 (eW B)) (eW B).length, .box [str v.1, str v.2], .rows w 2 (O.map az)] 5 rfl; simp only [List.set_cons_succ,List.set_cons_zero] at h; exact h) ?_
     rintro _ _ ⟨rfl, rfl⟩
     simp only [ab,aQ,ag,dN,aP,hx,List.getElem?_map,az,aL,dy,List.length_map,aZ,go_sem,reduceIte,zA,zB,zC,zD,zE,zF,reduceCtorEq]
     refine o0 (v' := .slice (O.reverse.map az)) 11 (by decide) rfl (by first | (simp only [dR,br,List.getElem?_cons_succ,List.getElem?_cons_zero]; simp; exact List.take_of_length_le (by simp)) | (simp [lk, dR, br]; exact List.take_of_length_le (by simp)) | simp [lk, dR, br, List.take_of_length_le]) ?_
     refine Mw tt_ok [13,28] ?_
     simp only [ab,aQ,ag,dN,aP,hx,List.getElem?_map,az,aL,dy,List.length_map,aZ,go_sem,reduceIte,zA,zB,zC,zD,zE,zF,reduceCtorEq]
     exact hK _ _ ⟨ax, rfl⟩
  ·have gw : i = L.length := by have := of_decide_eq_false fp; omega
   have bp : ∀ z ∈ L, oi T z = false := fun z hz => by obtain ⟨j, hj⟩ := List.mem_iff_getElem?.1 hz; exact cT j z (by rw [gw]; exact (List.getElem?_eq_some_iff.1 hj).1) hj
   simp only [ab,aQ,ag,dN,List.length_map,aZ,go_sem,reduceIte,zA,zB,zC,zD,zE,zF,reduceCtorEq]
   refine OI 12 0 2 (by decide) rfl ?_
   refine dk tt_ok [13,28] (fun a : Nat × rG × List Us => [(0, .mp 0), (2, .mp 1), (4, .ptr 2 0), (7, .mp 3), (12, .ms 4 a.2.2.length 0 a.2.2.length), (54, .slice (L.map az)), (55, num L.length), (56, num a.1)]) (fun a : Nat × rG × List Us => [.map (b8 cI 0 (bn g)) (bn g).length, .map (b8 cI 0 (ca T)) (ca T).length, .box [str s.1, str s.2], .map (b8 cI 0 (eW a.2.1)) (eW a.2.1).length, .rows a.2.2.length 2 (a.2.2.map az)]) (fun a => L.length - a.1) (fun a => a.1 ≤ L.length ∧ Bf (fun v => aY v g) s a.2.1 ∧ a.2.1.length = B.length + a.2.2.length ∧ (∀ e ∈ B, e ∈ a.2.1) ∧ (∀ x ∈ a.2.2, ∃ u, (x, u) ∈ a.2.1) ∧ ∃ W2, ph (fun v => aY v g) s B L W a.1 0 a.2.1 a.2.2 W2) ((0, B, [])) 5 (bz (by omega) (by simp only [ab,aQ,ag,dN,List.length_map,aZ,List.map_nil,List.length_nil,Int.cast_ofNat_Int,go_sem,reduceIte,zA,zB,zC,zD,zE,zF,reduceCtorEq] <;> rfl)) (⟨Nat.zero_le _, hB, by simp, fun e he => he, fun x hx => by simp at hx, W, hY.Xt⟩) ?_
   intro ⟨i, B1, N1⟩ ⟨hi, An, Xx, Xy, Xz, W1, XA⟩
   try dsimp only at hi An Xx Xy Xz XA
   try dsimp only
   have abv := An.len
   intro Z4 QY
   simp only [ab,aQ,ag,dN,List.length_map,aZ,go_sem,reduceIte,zA,zB,zC,zD,zE,zF,reduceCtorEq]
   refine aT (fun tE => ?_) (fun tE => ?_)
   ·have bD : i < L.length := by simpa using tE
    have aP := aq i (by omega)
    obtain ⟨x, hx⟩ : ∃ x, L[i]? = some x := ⟨_, List.getElem?_eq_getElem bD⟩
    obtain ⟨ux, T3⟩ := hL x (List.mem_of_getElem? hx)
    have XB := Xy _ T3
    obtain ⟨d, Vg, TP⟩ := An.val _ XB
    dsimp only at Vg
    have Vc := KX x d Vg
    obtain ⟨D, T4⟩ : ∃ D, D = dW (fun v => aY v g) x := ⟨_, rfl⟩
    have hD : a7 dM [] (bg g d.expr) = D := by rw [T4]; unfold dW; dsimp only; rw [Vg]; rfl
    have hDl : D.length ≤ 1048576 := by have h1 := e6 dM (bg g d.expr) []; have h2 : (bg g d.expr).length ≤ d.expr.wt := gJ _ _; have h4 : 1 + d.expr.wt ≤ d.wt := by { unfold Dc.wt; omega }; rw [hD, List.length_nil] at h1; omega
    simp only [ab,aQ,ag,dN,aP,hx,List.getElem?_map,az,List.length_map,aZ,go_sem,reduceIte,zA,zB,zC,zD,zE,zF,reduceCtorEq]
    refine cS (⟨_, rfl, by have h := Fe g x d Vg [.map (b8 cI 0 (bn g)) (bn g).length, .map (b8 cI 0 (ca T)) (ca T).length, .box [str s.1, str s.2], .map (b8 cI 0 (eW B1)) (eW B1).length, .rows N1.length 2 (N1.map az), .box [str x.1, str x.2]] 0 rfl (by simp [aB, ah, bA, ab, aQ, ag]) Vc; rw [hD] at h; simp only [az] at h; exact h⟩) ?_
    rintro _ rfl
    simp only [ab,aQ,ag,dN,aP,hx,List.getElem?_map,az,List.length_map,aZ,go_sem,reduceIte,zA,zB,zC,zD,zE,zF,reduceCtorEq]
    refine dk tt_ok [13,28] (fun a : Nat × rG × List Us => [(0, .mp 0), (2, .mp 1), (4, .ptr 2 0), (7, .mp 3), (12, .ms 4 a.2.2.length 0 a.2.2.length), (14, .ptr 5 0), (54, .slice (L.map az)), (55, num L.length), (56, num i), (62, .slice (D.map az)), (63, num D.length), (64, num a.1)]) (fun a : Nat × rG × List Us => [.map (b8 cI 0 (bn g)) (bn g).length, .map (b8 cI 0 (ca T)) (ca T).length, .box [str s.1, str s.2], .map (b8 cI 0 (eW a.2.1)) (eW a.2.1).length, .rows a.2.2.length 2 (a.2.2.map az), .box [str x.1, str x.2]]) (fun a => D.length - a.1) (fun a => a.1 ≤ D.length ∧ Bf (fun v => aY v g) s a.2.1 ∧ a.2.1.length = B.length + a.2.2.length ∧ (∀ e ∈ B, e ∈ a.2.1) ∧ (∀ x ∈ a.2.2, ∃ u, (x, u) ∈ a.2.1) ∧ ∃ W2, ph (fun v => aY v g) s B L W i a.1 a.2.1 a.2.2 W2) ((0, B1, N1)) 6 (bz (by omega) (by simp only [ab,aQ,ag,dN,aP,hx,List.getElem?_map,az,List.length_map,aZ,Int.cast_ofNat_Int,go_sem,reduceIte,zA,zB,zC,zD,zE,zF,reduceCtorEq] <;> rfl)) (⟨Nat.zero_le _, An, Xx, Xy, Xz, W1, XA⟩) ?_
    intro ⟨j, B2, N2⟩ ⟨hj, DD, PM, IE, Vh, W2, JH⟩
    try dsimp only at hj DD PM IE Vh JH
    try dsimp only
    have abw := DD.len
    intro Z5 Zz
    simp only [ab,aQ,ag,dN,aP,hx,List.getElem?_map,az,List.length_map,aZ,go_sem,reduceIte,zA,zB,zC,zD,zE,zF,reduceCtorEq]
    refine aT (fun PN => ?_) (fun PN => ?_)
    ·have iM : j < D.length := by simpa using PN
     have ml := aq j (by omega)
     obtain ⟨y, hy⟩ : ∃ y, D[j]? = some y := ⟨_, List.getElem?_eq_getElem iM⟩
     have hyD : y ∈ dW (fun v => aY v g) x := by rw [← T4]; exact List.mem_of_getElem? hy
     have XC := IE _ T3
     have QT := fun B4 B5 B6 => MN y B2 (mem := [.map (b8 cI 0 (bn g)) (bn g).length, .map (b8 cI 0 (ca T)) (ca T).length, .box [str s.1, str s.2], .map (b8 cI 0 (eW B2)) (eW B2).length, B4, B5, B6]) (b := 3) rfl true
     rcases QZ : jF y B2 with _ | y2
     ·have hpb := fun B4 B5 B6 B7 => TS QZ x (mem := [.map (b8 cI 0 (bn g)) (bn g).length, .map (b8 cI 0 (ca T)) (ca T).length, .box [str s.1, str s.2], .map (b8 cI 0 (eW B2)) (eW B2).length, B4, B5, B6, B7]) (b := 3) rfl
      have qE : N2.length + 1 ≤ 34359738368 := by omega
      simp only [ab,aQ,ag,dN,aP,hx,List.getElem?_map,az,ml,hy,List.getElem?_map,az,QT,QZ,hpb,qE,dy,Option.isSome_none,Option.map_none,Option.getD_none,rL,List.length_map,aZ,go_sem,reduceIte,zA,zB,zC,zD,zE,zF,reduceCtorEq]
      refine Zz _ ⟨(j + 1, B2 ++ [(y, x)], N2 ++ [y]), ?_, ?_, bz (by omega) (by (simp only [ml,List.length_map,PI,re,az,ab,aQ,ag,go_sem,reduceIte,zA,zB,zC,zD,zE,zF,reduceCtorEq]))⟩
      ·refine ⟨iM, DD.add QZ XC hyD, by simp only [List.length_append,List.length_singleton]; omega, fun e he => List.mem_append_left _ (IE e he), fun z hz => ?_, _, JH.add hY DD hx (by rw [← T4]; exact hy) QZ⟩
       rcases List.mem_append.1 hz with hz | hz
       ·obtain ⟨u, hu⟩ := Vh z hz; exact ⟨u, List.mem_append_left _ hu⟩
       ·rw [List.mem_singleton] at hz; subst hz; exact ⟨x, List.mem_append_right _ (List.mem_singleton.2 rfl)⟩
      ·dsimp only; omega
     ·simp only [ab,aQ,ag,dN,aP,hx,List.getElem?_map,az,ml,hy,List.getElem?_map,az,QT,QZ,Option.isSome_some,Option.map_some,Option.getD_some,rL,List.length_map,aZ,go_sem,reduceIte,zA,zB,zC,zD,zE,zF,reduceCtorEq]
      refine Zz _ ⟨(j + 1, B2, N2), ?_, ?_, bz (by omega) (by (simp only [ml,ab,aQ,ag,go_sem,reduceIte,zA,zB,zC,zD,zE,zF,reduceCtorEq]))⟩
      ·exact ⟨iM, DD, PM, IE, Vh, W2, JH.IC hx (by rw [← T4]; exact hy) (Fk QZ)⟩
      ·dsimp only; omega
    ·have th : j = D.length := by have := of_decide_eq_false PN; omega
     simp only [ab,aQ,ag,dN,aP,hx,List.getElem?_map,az,List.length_map,aZ,go_sem,reduceIte,zA,zB,zC,zD,zE,zF,reduceCtorEq]
     refine QY _ ⟨(i + 1, B2, N2), ?_, ?_, bz (by omega) (by (simp only [aP,ab,aQ,ag,go_sem,reduceIte,zA,zB,zC,zD,zE,zF,reduceCtorEq]))⟩
     ·exact ⟨bD, DD, PM, IE, Vh, W2, JH.next hx (by rw [← T4]; omega)⟩
     ·dsimp only; omega
   ·have gw : i = L.length := by have := of_decide_eq_false tE; omega
    simp only [ab,aQ,ag,dN,List.length_map,aZ,go_sem,reduceIte,zA,zB,zC,zD,zE,zF,reduceCtorEq]
    refine o0 (v' := .slice (N1.map az)) 12 (by decide) rfl (by first | (simp only [dR,br,List.getElem?_cons_succ,List.getElem?_cons_zero]; simp; exact List.take_of_length_le (by simp)) | (simp [lk, dR, br]; exact List.take_of_length_le (by simp)) | simp [lk, dR, br, List.take_of_length_le]) ?_
    refine EG tt_ok ?_
    simp only [ab,aQ,ag,dN,List.length_map,aZ,go_sem,reduceIte,zA,zB,zC,zD,zE,zF,reduceCtorEq]
    refine bX _ ⟨(B1, N1), ?_, ?_, bz (by omega) (by (simp only [ab,aQ,ag,go_sem,reduceIte,zA,zB,zC,zD,zE,zF,reduceCtorEq]))⟩
    ·exact ⟨An, Xz, (by omega : N1.length ≤ 1048576), n + 1, W1, XA.lay hY hB (by omega) bp⟩
    ·have bL : L.length ≠ 0 := by omega
     dsimp only; rw [if_neg bL]; split <;> omega
 ·have hL0 : L = [] := List.length_eq_zero_iff.1 (by have := of_decide_eq_false xp; omega)
  rw [hL0] at hY
  have ax : ((fun r : V => (r = V.sc (.slice none 0 0) ∧ ∀ x P, Way (dW (fun v => aY v g)) s x P → oi T x = false) ∨ ∃ c : List Us, c ≠ [] ∧ r = V.slice (c.map az) ∧ QU (fun v => aY v g) s (oi T) c ∧ nA (dW (fun v => aY v g)) s dM (oi T) c)) (.sc (.slice none 0 0)) := Or.inl ⟨rfl, hY.none⟩
  simp only [ab,aQ,ag,dN,List.length_map,aZ,go_sem,reduceIte,zA,zB,zC,zD,zE,zF,reduceCtorEq]
  exact hK _ _ ⟨ax, rfl⟩
end Go.Proofs.YtefbaladomfccaaGreatDoor
end
