/-
  CONTRACTS: Canonical, by the reference.
  PLAIN: keywords, segments and versions of paths, as the reference of layer 3 finds them.
  CONTRACTS: names, by the reference.
  CONTRACTS: versions of paths, by the reference.
  CONTRACTS: paths, by the reference.
  CONTRACTS: lines, comparing, by the reference.
  CONTRACTS: the checks, by the reference.
  CONTRACTS: bytes of numbers and strings, by the reference.
  CONTRACTS: numbers and strings read, by the reference.
  CONTRACTS: requirements read, by the reference.
  PLAIN LAW: the reference reads what the program reads.
  CONTRACTS: Read, by the reference.
  CONTRACTS: Manifest, by the reference.
  THE LAW IndexManifests.
  THE LAW IndexManifests, A: what it does at every argument of the bound, in every world of the shape.
  CLOSING, B: a world for the witness.
-/
import Derived.Test.YtnfeacnbgbggfaaGreatDoorO6
import Derived.Test.YtnfeacnbgbggfaaGreatDoorCards
import Derived.Test.YtnfeacnbgbggfaaGreatDoorTie
import Derived.Lib.LaidTab
set_option linter.all false
section
namespace Go.Proofs.YtnfeacnbgbggfaaGreatDoor
open Go.Eng
open Nat renaming reduceAdd → zA, reduceLT → zB, reduceLeDiff → zC, reduceMul → zD, reduceEqDiff → zE, reduceSub → zF
variable [aE]
set_option maxHeartbeats 4000000
set_option maxRecDepth 100000
theorem D8 {L : List br} {x : br} {k : Nat} (ha : fZ L) (hd : ∀ y ∈ L.drop k, x.lo ≤ y.lo) (ht : ∀ y ∈ L.take k, y.lo ≤ x.lo) : fZ (L.take k ++ x :: L.drop k) := by
  have h := ha
  rw [← List.take_append_drop k L] at h
  obtain ⟨h1, h2, h3⟩ := List.pairwise_append.1 h
  refine List.pairwise_append.2 ⟨h1, List.pairwise_cons.2 ⟨hd, h2⟩, fun a ha b hb => ?_⟩
  rcases List.mem_cons.1 hb with rfl | hb
  · exact ht a ha
  · exact h3 a ha b hb
theorem Ap {L : List br} {k : Nat} {z : br} {c : Int} (ha : fZ L) (hk : 0 < k) (hz : L[k - 1]? = some z) (hc : z.lo ≤ c) : ∀ y ∈ L.take k, y.lo ≤ c := by
  intro y hy
  have e : L.take k = L.take (k - 1) ++ [z] := by
    have := List.take_add_one (l := L) (i := k - 1)
    rw [Nat.sub_add_cancel hk, hz] at this
    exact this
  rw [e] at hy
  have h : fZ (L.take k) := List.Pairwise.sublist (List.take_sublist _ _) ha
  rw [e] at h
  obtain ⟨-, -, h3⟩ := List.pairwise_append.1 h
  rcases List.mem_append.1 hy with hy | hy
  · have := h3 y hy z (List.mem_singleton.2 rfl); omega
  · rw [List.mem_singleton.1 hy]; exact hc
theorem FI {L : List br} {k : Nat} {z : br} (hk : 0 < k) (hz : L[k - 1]? = some z) : L.drop (k - 1) = z :: L.drop k := by
  have aF := (List.getElem?_eq_some_iff.1 hz).1
  rw [List.drop_eq_getElem_cons aF, (List.getElem?_eq_some_iff.1 hz).2, Nat.sub_add_cancel hk]
theorem ix (L : List br) (k : Nat) : bM (L.map aj) k 2 = true := by
  unfold bM
  rw [List.getElem?_map]
  cases L[k]? <;> rfl
theorem Aq {L m : List br} {x : br} (k : Nat) (h : L.Perm m) : (L.take k ++ x :: L.drop k).Perm (m ++ [x]) := by
  refine List.perm_middle.trans ?_
  rw [List.take_append_drop]
  exact ((List.Perm.cons x h).trans (List.perm_append_comm (l₁ := [x]) (l₂ := m)))
theorem FJ (o : List br) (x : br) : (dd o x).length ≤ o.length + 1 := by
  unfold dd
  split
  · split
    · simp only [List.length_append,List.length_dropLast,List.length_singleton]; omega
    · simp only [List.length_append,List.length_singleton]; omega
  · simp only [List.length_singleton]; omega
theorem FK (l : List br) : (merge l).length ≤ l.length := by
  have key : ∀ (l o : List br), (l.foldl dd o).length ≤ o.length + l.length := by
    intro l
    induction l with
    | nil => intro o; exact Nat.le_refl _
    | cons x l ih =>
      intro o
      rw [List.foldl_cons, List.length_cons]
      have := ih (dd o x); have := FJ o x; omega
  have := key l []
  simpa [merge] using this
theorem I5 {R : List br} {y : br} (h : R.getLast? = some y) (z : br) : R.set (R.length - 1) z = R.dropLast ++ [z] := by
  obtain ⟨D, rfl⟩ := List.getLast?_eq_some_iff.1 h
  rw [List.length_append, List.length_singleton, Nat.add_sub_cancel, List.set_append_right _ _ (Nat.le_refl _), Nat.sub_self, List.set_cons_zero, List.dropLast_concat]
theorem Cv {mem : List au} {b v e l : Nat} {rs D0 : List V} (h : mem[b]? = some (.rows v e rs)) (hl : l = rs.length) (hr : rs = D0) : er mem (.ms b v 0 l) = some (.slice D0) := by
  subst hl; subst hr
  simp [er, bz, h]
theorem FL (s : List br) (hl : s.length ≤ 1048576) : ∃ r_, (fun w => w = al (canon s)) r_ ∧ aP Tryz.prog 88 [al s] r_ := by
  refine ek tt_ok [4] 113 [.tmp 2] (fn := Tryz.f88) Tryz.func88 rfl Tryz.call88 ⟨rfl, rfl, by simp⟩ fun K hK => ?_
  simp only [al]
  simp only [List.length_map,go_sem,reduceIte,zA,zB,zC,zD,zE,zF,reduceCtorEq]
  refine pW (v' := .slice []) 3 (by decide) rfl rfl ?_
  refine cT tt_ok [4] (fun a : Nat × List br => [(0, .slice (s.map aj)), (3, .slice (a.2.map aj)), (4, num a.1)]) (fun a : Nat × List br => []) (fun a => s.length - a.1) (fun a => a.1 ≤ s.length ∧ a.2.Perm (clip (s.take a.1)) ∧ fZ a.2) ((0, [])) 0 (bd (by omega) (by simp only [List.length_map,List.map_nil,Int.cast_ofNat_Int,go_sem,reduceIte,zA,zB,zC,zD,zE,zF,reduceCtorEq] <;> rfl)) (⟨Nat.zero_le _, List.Perm.refl _, List.Pairwise.nil⟩) ?_
  rintro ⟨i, L⟩ ⟨hi, hp, hA⟩
  try dsimp only at hi hp hA
  try dsimp only
  intro Z1 cE
  simp only [List.length_map,go_sem,reduceIte,zA,zB,zC,zD,zE,zF,reduceCtorEq]
  refine aL (fun eY => ?_) (fun eY => ?_)
  · skip
    have aF : i < s.length := by simpa using eY
    have hw := aC i (by omega)
    obtain ⟨x, hx⟩ : ∃ x, s[i]? = some x := ⟨_, List.getElem?_eq_getElem aF⟩
    have rW : (if (0 : Int) < x.lo then x.lo else 0) = max x.lo 0 := by split <;> omega
    have rv : (if x.hi < (1000000 : Int) then x.hi else 1000000) = min x.hi 1000000 := by split <;> omega
    have zQ : L.length ≤ 1048576 := by rw [hp.length_eq]; have := jn (s.take i); rw [List.length_take] at this; omega
    simp only [hw,List.getElem?_map,hx,aj,rW,rv,List.length_map,go_sem,reduceIte,zA,zB,zC,zD,zE,zF,reduceCtorEq]
    refine bH tt_ok aK [⟨.n, 0, [], [], []⟩, ⟨.n, 0, [], [], []⟩, ⟨.r, 0, [0], [], []⟩, ⟨.n, 0, [], [], []⟩, ⟨.r, 0, [0], [], []⟩, ⟨.n, 0, [], [], []⟩, ⟨.n, 0, [], [], []⟩, ⟨.n, 0, [], [], []⟩, ⟨.r, 0, [0], [], []⟩, ⟨.n, 0, [], [], []⟩, ⟨.r, 0, [0], [], []⟩, ⟨.n, 0, [], [], []⟩, ⟨.n, 0, [], [], []⟩, ⟨.a, 0, [], [], []⟩, ⟨.s, 0, [], [], []⟩] 1 (by kernel_rfl) ?_
    simp only [hw,List.getElem?_map,hx,aj,rW,rv,List.length_map,go_sem,reduceIte,zA,zB,zC,zD,zE,zF,reduceCtorEq]
    refine aL (fun Qk => ?_) (fun Qk => ?_)
    · skip
      let nv : Nat × List br := (i + 1, L)
      have oa : L.Perm (clip (s.take (i + 1))) := by rw [mC hx, Dy (by have := of_decide_eq_true Qk; omega)]; simpa using hp
      have CX : fZ nv.2 := hA
      simp only [hw,List.getElem?_map,hx,aj,rW,rv,List.length_map,go_sem,reduceIte,zA,zB,zC,zD,zE,zF,reduceCtorEq]
      refine pW (v' := .slice (nv.2.map aj)) 3 (by decide) rfl (by first | rfl | exact Cv rfl (by simp [uW]) (by simp [nv, aj])) ?_
      refine uM tt_ok ?_
      simp only [hw,List.getElem?_map,hx,aj,rW,rv,List.length_map,go_sem,reduceIte,zA,zB,zC,zD,zE,zF,reduceCtorEq]
      refine cE _ ⟨nv, ?_, ?_, bd (by omega) (by (simp [nv, pV, lk, bY, cQ, ai, aB]))⟩
      · exact ⟨aF, oa, CX⟩
      · dsimp only [nv]; omega
    · skip
      have kf : clip (s.take (i + 1)) = clip (s.take i) ++ [⟨max x.lo 0, min x.hi 1000000⟩] := by rw [mC hx, Dx (by have := of_decide_eq_false Qk; omega)]; rfl
      simp only [hw,List.getElem?_map,hx,aj,rW,rv,List.length_map,go_sem,reduceIte,zA,zB,zC,zD,zE,zF,reduceCtorEq]
      refine bO tt_ok [4] [6] 1 [0,2,3,4,5,11,12,13,14,17,18,19,20,21,22,23,24,25,26,27,28,29,30,31,32,33,34,35,36] (fun vs => (Go.Eng.intOf (vs.headD .undef)).toNat) (fun vs => ∃ k : Nat, vs = [num k] ∧ k ≤ L.length ∧ ∀ y ∈ L.drop k, max x.lo 0 ≤ y.lo) (by omega) (by simp only [hw,List.getElem?_map,hx,aj,rW,rv,List.length_map,go_sem,reduceIte,zA,zB,zC,zD,zE,zF,reduceCtorEq]) (⟨L.length, rfl, Nat.le_refl _, fun y hy => by rw [List.drop_length] at hy; cases hy⟩) fun vs hI Z2 pn => ?_
      obtain ⟨k, rfl, hk, hd⟩ := hI
      simp only [hw,List.getElem?_map,hx,aj,rW,rv,List.length_map,go_sem,reduceIte,zA,zB,zC,zD,zE,zF,reduceCtorEq]
      refine bH tt_ok aK [⟨.n, 0, [], [], []⟩, ⟨.n, 0, [], [], []⟩, ⟨.n, 0, [], [], []⟩, ⟨.n, 0, [], [], []⟩, ⟨.n, 0, [], [], []⟩, ⟨.n, 0, [], [], []⟩, ⟨.r, 0, [], [], []⟩, ⟨.n, 0, [], [], []⟩, ⟨.r, 0, [], [], []⟩, ⟨.n, 0, [], [], []⟩, ⟨.r, 0, [], [], []⟩, ⟨.n, 0, [], [], []⟩, ⟨.n, 0, [], [], []⟩] 0 (by kernel_rfl) ?_
      simp only [hw,List.getElem?_map,hx,aj,rW,rv,List.length_map,go_sem,reduceIte,zA,zB,zC,zD,zE,zF,reduceCtorEq]
      refine aL (fun rk => ?_) (fun rk => ?_)
      · skip
        have W6 : 0 < k := by have := of_decide_eq_true rk; omega
        obtain ⟨z, hz⟩ : ∃ z, L[k - 1]? = some z := ⟨_, List.getElem?_eq_getElem (by omega)⟩
        have vY : IntKind.i64.wrap ((k : Int) - 1) = ((k - 1 : Nat) : Int) := oS _ _ (by omega) (by omega)
        simp only [hw,List.getElem?_map,hx,aj,rW,rv,vY,hz,List.length_map,go_sem,reduceIte,zA,zB,zC,zD,zE,zF,reduceCtorEq]
        refine aL (fun Mc => ?_) (fun Mc => ?_)
        · skip
          simp only [hw,List.getElem?_map,hx,aj,rW,rv,vY,hz,List.length_map,go_sem,reduceIte,zA,zB,zC,zD,zE,zF,reduceCtorEq]
          refine pn _ (eR (by omega) (by simp only [hw,List.getElem?_map,hx,aj,rW,rv,vY,hz,List.length_map,go_sem,reduceIte,zA,zB,zC,zD,zE,zF,reduceCtorEq]) ?_ ?_) <;> simp only [ja,lk,reduceIte,zE]
          · refine ⟨k - 1, rfl, by omega, fun y hy => ?_⟩
            rw [FI W6 hz] at hy
            rcases List.mem_cons.1 hy with rfl | hy
            · have := of_decide_eq_true Mc; omega
            · exact hd y hy
          · simp only [Go.Eng.intOf,List.headD_cons]; omega
        · skip
          have ht : ∀ y ∈ L.take k, y.lo ≤ max x.lo 0 := by
            by_cases MQ : k = 0
            · subst MQ; simp
            · first
              | exact Ap hA W6 hz (by have := of_decide_eq_false Mc; omega)
              | (exfalso; have := of_decide_eq_false rk; omega)
          have Md : (k : Int) ≤ (L.length : Int) := by omega
          have fJ := ix L k
          have W7 : (List.drop k (List.map aj L)).take ((L.length : Int) - (k : Int)).toNat = (L.drop k).map aj := by rw [← List.map_drop, List.take_of_length_le]; rw [List.length_map, List.length_drop]; omega
          have cU : ∀ mem : List au, cutAt mem 2 (k : Int) none (.slice (L.map aj)) = some (.slice ((L.drop k).map aj)) := fun mem => by
            unfold cutAt
            simp only [Option.getD_none,List.length_map,Int.natCast_nonneg,Md,Int.le_refl,Int.toNat_natCast,fJ,and_self,if_true,W7]
          have nR := ix (L.drop k) 0
          have uq : List.take k (List.map aj L) = (L.take k).map aj := (List.map_take ..).symm
          have Cw := ix (L.take k) 0
          have qG : 1 + (L.length - k) ≤ 34359738368 := by omega
          have Ko : List.take (L.length - k) (List.map aj (L.drop k)) = (L.drop k).map aj := List.take_of_length_le (by rw [List.length_map, List.length_drop]; exact Nat.le_refl _)
          let nv : Nat × List br := (i + 1, L.take k ++ ⟨max x.lo 0, min x.hi 1000000⟩ :: L.drop k)
          have oa : nv.2.Perm (clip (s.take (i + 1))) := by rw [kf]; exact Aq k hp
          have CX : fZ nv.2 := D8 hA hd ht
          have uW : min k L.length = k := Nat.min_eq_left hk
          have sC : k + (L.length - k + 1) ≤ 34359738368 := by omega
          simp only [hw,List.getElem?_map,hx,aj,rW,rv,vY,hz,Md,cU,Ko,Nat.min_self,nR,uq,Cw,qG,uW,sC,List.length_drop,List.length_take,List.length_append,List.length_cons,List.length_nil,Nat.zero_add,Int.le_refl,Int.natCast_nonneg,Int.toNat_natCast,List.length_map,go_sem,reduceIte,zA,zB,zC,zD,zE,zF,reduceCtorEq]
          refine bH tt_ok aK [⟨.n, 0, [], [], []⟩, ⟨.n, 0, [], [], []⟩, ⟨.n, 0, [], [], []⟩, ⟨.n, 0, [], [0,1,2], []⟩, ⟨.r, 0, [], [], []⟩, ⟨.a, 0, [], [4], []⟩, ⟨.n, 0, [], [], []⟩, ⟨.n, 0, [], [], []⟩, ⟨.r, 0, [0], [6,7], []⟩, ⟨.w, 1, [], [4,5,6,7,8], []⟩, ⟨.w, 2, [], [0,1,2,3,4,5,6,7,8,9], []⟩, ⟨.n, 0, [], [0,1,2,3,4,5,6,7,8,9,10], []⟩] 3 (by kernel_rfl) ?_
          simp only [hw,List.getElem?_map,hx,aj,rW,rv,vY,hz,Md,cU,Ko,Nat.min_self,nR,uq,Cw,qG,uW,sC,List.length_drop,List.length_take,List.length_append,List.length_cons,List.length_nil,Nat.zero_add,Int.le_refl,Int.natCast_nonneg,Int.toNat_natCast,List.length_map,go_sem,reduceIte,zA,zB,zC,zD,zE,zF,reduceCtorEq]
          refine pW (v' := .slice (nv.2.map aj)) 3 (by decide) rfl (by first | rfl | exact Cv rfl (by simp [uW]) (by simp [nv, aj])) ?_
          refine uM tt_ok ?_
          simp only [hw,List.getElem?_map,hx,aj,rW,rv,vY,hz,Md,cU,Ko,Nat.min_self,nR,uq,Cw,qG,uW,sC,List.length_drop,List.length_take,List.length_append,List.length_cons,List.length_nil,Nat.zero_add,Int.le_refl,Int.natCast_nonneg,Int.toNat_natCast,List.length_map,go_sem,reduceIte,zA,zB,zC,zD,zE,zF,reduceCtorEq]
          refine cE _ ⟨nv, ?_, ?_, bd (by omega) (by (simp [nv, pV, lk, bY, cQ, ai, aB]))⟩
          · exact ⟨aF, oa, CX⟩
          · dsimp only [nv]; omega
      · skip
        have ht : ∀ y ∈ L.take k, y.lo ≤ max x.lo 0 := by
          by_cases MQ : k = 0
          · subst MQ; simp
          · first
            | exact Ap hA W6 hz (by have := of_decide_eq_false Mc; omega)
            | (exfalso; have := of_decide_eq_false rk; omega)
        have Md : (k : Int) ≤ (L.length : Int) := by omega
        have fJ := ix L k
        have W7 : (List.drop k (List.map aj L)).take ((L.length : Int) - (k : Int)).toNat = (L.drop k).map aj := by rw [← List.map_drop, List.take_of_length_le]; rw [List.length_map, List.length_drop]; omega
        have cU : ∀ mem : List au, cutAt mem 2 (k : Int) none (.slice (L.map aj)) = some (.slice ((L.drop k).map aj)) := fun mem => by
          unfold cutAt
          simp only [Option.getD_none,List.length_map,Int.natCast_nonneg,Md,Int.le_refl,Int.toNat_natCast,fJ,and_self,if_true,W7]
        have nR := ix (L.drop k) 0
        have uq : List.take k (List.map aj L) = (L.take k).map aj := (List.map_take ..).symm
        have Cw := ix (L.take k) 0
        have qG : 1 + (L.length - k) ≤ 34359738368 := by omega
        have Ko : List.take (L.length - k) (List.map aj (L.drop k)) = (L.drop k).map aj := List.take_of_length_le (by rw [List.length_map, List.length_drop]; exact Nat.le_refl _)
        let nv : Nat × List br := (i + 1, L.take k ++ ⟨max x.lo 0, min x.hi 1000000⟩ :: L.drop k)
        have oa : nv.2.Perm (clip (s.take (i + 1))) := by rw [kf]; exact Aq k hp
        have CX : fZ nv.2 := D8 hA hd ht
        have uW : min k L.length = k := Nat.min_eq_left hk
        have sC : k + (L.length - k + 1) ≤ 34359738368 := by omega
        simp only [hw,List.getElem?_map,hx,aj,rW,rv,Md,cU,Ko,Nat.min_self,nR,uq,Cw,qG,uW,sC,List.length_drop,List.length_take,List.length_append,List.length_cons,List.length_nil,Nat.zero_add,Int.le_refl,Int.natCast_nonneg,Int.toNat_natCast,List.length_map,go_sem,reduceIte,zA,zB,zC,zD,zE,zF,reduceCtorEq]
        refine bH tt_ok aK [⟨.n, 0, [], [], []⟩, ⟨.n, 0, [], [], []⟩, ⟨.n, 0, [], [], []⟩, ⟨.n, 0, [], [0,1,2], []⟩, ⟨.r, 0, [], [], []⟩, ⟨.a, 0, [], [4], []⟩, ⟨.n, 0, [], [], []⟩, ⟨.n, 0, [], [], []⟩, ⟨.r, 0, [0], [6,7], []⟩, ⟨.w, 1, [], [4,5,6,7,8], []⟩, ⟨.w, 2, [], [0,1,2,3,4,5,6,7,8,9], []⟩, ⟨.n, 0, [], [0,1,2,3,4,5,6,7,8,9,10], []⟩] 3 (by kernel_rfl) ?_
        simp only [hw,List.getElem?_map,hx,aj,rW,rv,Md,cU,Ko,Nat.min_self,nR,uq,Cw,qG,uW,sC,List.length_drop,List.length_take,List.length_append,List.length_cons,List.length_nil,Nat.zero_add,Int.le_refl,Int.natCast_nonneg,Int.toNat_natCast,List.length_map,go_sem,reduceIte,zA,zB,zC,zD,zE,zF,reduceCtorEq]
        refine pW (v' := .slice (nv.2.map aj)) 3 (by decide) rfl (by first | rfl | exact Cv rfl (by simp [uW]) (by simp [nv, aj])) ?_
        refine uM tt_ok ?_
        simp only [hw,List.getElem?_map,hx,aj,rW,rv,Md,cU,Ko,Nat.min_self,nR,uq,Cw,qG,uW,sC,List.length_drop,List.length_take,List.length_append,List.length_cons,List.length_nil,Nat.zero_add,Int.le_refl,Int.natCast_nonneg,Int.toNat_natCast,List.length_map,go_sem,reduceIte,zA,zB,zC,zD,zE,zF,reduceCtorEq]
        refine cE _ ⟨nv, ?_, ?_, bd (by omega) (by (simp [nv, pV, lk, bY, cQ, ai, aB]))⟩
        · exact ⟨aF, oa, CX⟩
        · dsimp only [nv]; omega
  · skip
    have dg : ¬ i < s.length := by simpa using eY
    have DG : L.Perm (clip s) := by rw [show i = s.length by omega, List.take_length] at hp; exact hp
    have zQ : L.length ≤ 1048576 := by rw [DG.length_eq]; have := jn s; omega
    simp only [List.length_map,go_sem,reduceIte,zA,zB,zC,zD,zE,zF,reduceCtorEq]
    refine cT tt_ok [4] (fun a : Nat × List br => [(3, .slice (L.map aj)), (7, .ms 0 a.2.length 0 a.2.length), (8, num a.1)]) (fun a : Nat × List br => [.rows (a.2.length) 2 (a.2.map aj)]) (fun a => L.length - a.1) (fun a => a.1 ≤ L.length ∧ a.2 = merge (L.take a.1)) ((0, [])) 1 (bd (by omega) (by simp only [List.length_map,List.map_nil,List.length_nil,Int.cast_ofNat_Int,go_sem,reduceIte,zA,zB,zC,zD,zE,zF,reduceCtorEq] <;> rfl)) (⟨Nat.zero_le _, rfl⟩) ?_
    rintro ⟨i, R⟩ ⟨hi, hR⟩
    try dsimp only at hi hR
    try dsimp only
    intro Z3 AM
    simp only [List.length_map,go_sem,reduceIte,zA,zB,zC,zD,zE,zF,reduceCtorEq]
    refine aL (fun xJ => ?_) (fun xJ => ?_)
    · skip
      have aF : i < L.length := by simpa using xJ
      have hw := aC i (by omega)
      obtain ⟨x, hx⟩ : ∃ x, L[i]? = some x := ⟨_, List.getElem?_eq_getElem aF⟩
      have LY : R.length ≤ i := by rw [hR]; have := FK (L.take i); rw [List.length_take] at this; omega
      have fS : R.length + 1 ≤ 34359738368 := by omega
      simp only [hw,List.getElem?_map,hx,aj,fS,List.length_append,List.length_cons,List.length_nil,Nat.zero_add,List.length_map,go_sem,reduceIte,zA,zB,zC,zD,zE,zF,reduceCtorEq]
      refine bH tt_ok aK [⟨.n, 0, [], [], []⟩, ⟨.n, 0, [], [], []⟩, ⟨.n, 0, [], [], []⟩, ⟨.n, 0, [], [], []⟩, ⟨.n, 0, [], [], []⟩, ⟨.r, 0, [], [], []⟩, ⟨.n, 0, [], [], []⟩, ⟨.r, 0, [], [], []⟩, ⟨.n, 0, [], [], []⟩, ⟨.n, 0, [], [], []⟩, ⟨.n, 0, [], [], []⟩, ⟨.r, 0, [], [], []⟩, ⟨.n, 0, [], [], []⟩, ⟨.r, 0, [], [], []⟩, ⟨.n, 0, [], [], []⟩, ⟨.n, 0, [], [], []⟩] 0 (by kernel_rfl) ?_
      simp only [hw,List.getElem?_map,hx,aj,fS,List.length_append,List.length_cons,List.length_nil,Nat.zero_add,List.length_map,go_sem,reduceIte,zA,zB,zC,zD,zE,zF,reduceCtorEq]
      refine aL (fun xK => ?_) (fun xK => ?_)
      · skip
        have iF : 0 < R.length := by have := of_decide_eq_true xK; omega
        obtain ⟨y, hy⟩ : ∃ y, R[R.length - 1]? = some y := ⟨_, List.getElem?_eq_getElem (by omega)⟩
        have rb : R.getLast? = some y := by rw [List.getLast?_eq_getElem?]; exact hy
        have HZ : IntKind.i64.wrap ((R.length : Int) - 1) = ((R.length - 1 : Nat) : Int) := oS _ _ (by omega) (by omega)
        have Dz : ((R.length - 1 : Nat) : Int) < (R.length : Int) := by omega
        simp only [hw,List.getElem?_map,hx,aj,fS,List.length_append,List.length_cons,List.length_nil,Nat.zero_add,HZ,hy,Dz,List.length_map,go_sem,reduceIte,zA,zB,zC,zD,zE,zF,reduceCtorEq]
        refine aL (fun Me => ?_) (fun Me => ?_)
        · skip
          have hle : x.lo ≤ y.hi := by simpa using Me
          have TR : (if y.hi < x.hi then x.hi else y.hi) = max y.hi x.hi := by split <;> omega
          let nv : Nat × List br := (i + 1, R.set (R.length - 1) ⟨y.lo, max y.hi x.hi⟩)
          have TS : R.set (R.length - 1) ⟨y.lo, max y.hi x.hi⟩ = merge (L.take (i + 1)) := by
            rw [iO hx, ← hR]; unfold dd; rw [rb]; dsimp only; rw [if_pos hle]; exact I5 rb _
          simp only [hw,List.getElem?_map,hx,aj,fS,List.length_append,List.length_cons,List.length_nil,Nat.zero_add,HZ,hy,Dz,TR,List.length_map,go_sem,reduceIte,zA,zB,zC,zD,zE,zF,reduceCtorEq]
          refine bH tt_ok aK [⟨.n, 0, [], [], []⟩, ⟨.n, 0, [], [], []⟩, ⟨.n, 0, [], [1], []⟩, ⟨.n, 0, [], [], []⟩, ⟨.n, 0, [], [], []⟩, ⟨.n, 0, [], [4], []⟩, ⟨.r, 0, [], [3,4,5], []⟩, ⟨.n, 0, [], [3,4,5,6], []⟩, ⟨.r, 0, [], [3,4,5,6,7], []⟩, ⟨.n, 0, [], [], []⟩, ⟨.n, 0, [], [], []⟩, ⟨.r, 0, [], [9,10], []⟩, ⟨.n, 0, [], [9,10,11], []⟩, ⟨.r, 0, [], [9,10,11,12], []⟩, ⟨.n, 0, [], [3,4,5,6,7,8,9,10,11,12,13], []⟩, ⟨.r, 0, [], [0,1,2,3,4,5,6,7,8,9,10,11,12,13,14], []⟩, ⟨.n, 0, [], [0,1,2,3,4,5,6,7,8,9,10,11,12,13,14,15], []⟩, ⟨.w, 0, [], [0,1,2,3,4,5,6,7,8,9,10,11,12,13,14,15,16], []⟩] 1 (by kernel_rfl) ?_
          simp only [hw,List.getElem?_map,hx,aj,fS,List.length_append,List.length_cons,List.length_nil,Nat.zero_add,HZ,hy,Dz,TR,List.length_map,go_sem,reduceIte,zA,zB,zC,zD,zE,zF,reduceCtorEq]
          refine AM _ ⟨nv, ?_, ?_, bd (by omega) (by (simp [nv, pV, lk, bY, cQ, ai, aB, List.map_set, List.map_append, aj, setRow, cA, V.cells]))⟩
          · exact ⟨aF, TS⟩
          · dsimp only [nv]; omega
        · skip
          have AA : dd R x = R ++ [x] := mD fun z Fw => by
            first
              | (rw [rb] at Fw; cases Fw; have := of_decide_eq_false Me; omega)
              | (have h0 : R = [] := List.length_eq_zero_iff.1 (by have := of_decide_eq_false xK; omega)
                 rw [h0] at Fw; cases Fw)
          let nv : Nat × List br := (i + 1, R ++ [x])
          have TS : nv.2 = merge (L.take (i + 1)) := by rw [iO hx, ← hR, AA]
          simp only [hw,List.getElem?_map,hx,aj,fS,List.length_append,List.length_cons,List.length_nil,Nat.zero_add,HZ,hy,Dz,List.length_map,go_sem,reduceIte,zA,zB,zC,zD,zE,zF,reduceCtorEq]
          refine AM _ ⟨nv, ?_, ?_, bd (by omega) (by (simp [nv, pV, lk, bY, cQ, ai, aB, List.map_set, List.map_append, aj, setRow, cA, V.cells]))⟩
          · exact ⟨aF, TS⟩
          · dsimp only [nv]; omega
      · skip
        have AA : dd R x = R ++ [x] := mD fun z Fw => by
          first
            | (rw [rb] at Fw; cases Fw; have := of_decide_eq_false Me; omega)
            | (have h0 : R = [] := List.length_eq_zero_iff.1 (by have := of_decide_eq_false xK; omega)
               rw [h0] at Fw; cases Fw)
        let nv : Nat × List br := (i + 1, R ++ [x])
        have TS : nv.2 = merge (L.take (i + 1)) := by rw [iO hx, ← hR, AA]
        simp only [hw,List.getElem?_map,hx,aj,fS,List.length_append,List.length_cons,List.length_nil,Nat.zero_add,List.length_map,go_sem,reduceIte,zA,zB,zC,zD,zE,zF,reduceCtorEq]
        refine AM _ ⟨nv, ?_, ?_, bd (by omega) (by (simp [nv, pV, lk, bY, cQ, ai, aB, List.map_set, List.map_append, aj, setRow, cA, V.cells]))⟩
        · exact ⟨aF, TS⟩
        · dsimp only [nv]; omega
    · skip
      have Tr : ¬ i < L.length := by simpa using xJ
      have qc : R = canon s := by rw [hR, show i = L.length by omega, List.take_length]; exact zl DG hA
      simp only [List.length_map,go_sem,reduceIte,zA,zB,zC,zD,zE,zF,reduceCtorEq]
      refine hK _ ?_
      simp [uH, sO, yE, MG, er, bz, al, ← qc, List.take_of_length_le]
end Go.Proofs.YtnfeacnbgbggfaaGreatDoor
end

section
namespace Go.Proofs.YtnfeacnbgbggfaaGreatDoor
open Go.Eng
def TU : List (List UInt8) := [[97,110,100], [97,110,121], [97,115], [98,111,111,108], [100,101,112,114,101,99,97,116,101,100], [101,108,115,101], [101,120,112,111,114,116], [102,97,108,115,101], [102,110], [102,111,108,100], [102,114,111,109], [105,102], [105,109,112,111,114,116], [105,110], [105,110,116], [108,101,110,103,116,104], [108,101,116], [108,105,115,116], [109,97,116,99,104], [109,111,100,117,108,101], [110,111,110,101], [110,111,116], [111,114], [116,101,120,116], [116,104,101,110], [116,114,117,101], [116,121,112,101], [117,115,101]]
def Ql : List ByteArray := TU.map fun l => ⟨l.toArray⟩
theorem Mf : TU.all (fun k => Lib.contains ng.data.toList (32 :: k ++ [32])) = true := by kernel_rfl
def tw (l : List UInt8) : List UInt8 := l.takeWhile (· != 32)
theorem TV : (List.range 200).all (fun i => !((ng.data.toList.drop i).head? == some 32) || ((ng.data.toList.drop (i + 1)).isEmpty || TU.contains (tw (ng.data.toList.drop (i + 1))))) = true := by kernel_rfl
theorem Qm {k r : List UInt8} (h : ∀ b ∈ k, b ≠ 32) : tw (k ++ 32 :: r) = k := by
 induction k with
 | nil => rfl
 | cons b k ih =>
  have hb : (b != 32) = true := by simpa using h b (List.mem_cons_self ..)
  show List.takeWhile _ (b :: (k ++ 32 :: r)) = _
  rw [List.takeWhile_cons, hb]
  simp only [if_true]
  exact congrArg (b :: ·) (ih fun c hc => h c (List.mem_cons_of_mem _ hc))
theorem Mh : Nat.ble ng.data.toList.length 200 = true := by kernel_rfl
theorem Mi (s : ByteArray) (h : gj kJ s = true) : Ux s = Ql.any fun k => decide (k = s) := by
 have dH : ∀ b ∈ bc s, b ≠ 32 := fun b hb e => by
  have h1 := List.all_eq_true.1 h b hb
  rw [e] at h1; revert h1; decide
 have hd : (⟨#[32]⟩ ++ s ++ ⟨#[32]⟩ : ByteArray).data.toList = 32 :: bc s ++ [32] := by
  rw [ByteArray.data_append, ByteArray.data_append]
  simp [bc]
 have hm : s ∈ Ql ↔ bc s ∈ TU := by
  unfold Ql
  rw [List.mem_map]
  refine ⟨fun ⟨l, hl, e⟩ => by rw [← e]; simpa [bc] using hl, fun h => ⟨_, h, ?_⟩⟩
  obtain ⟨⟨l⟩⟩ := s; rfl
 have Og : (Ql.any fun k => decide (k = s)) = true ↔ bc s ∈ TU := by
  rw [List.any_eq_true, ← hm]
  exact ⟨fun ⟨k, hk, e⟩ => by rw [← of_decide_eq_true e]; exact hk, fun h => ⟨s, h, by simp⟩⟩
 rw [Bool.eq_iff_iff, Og]
 unfold Ux
 rw [hd]
 constructor
 ·intro hc
  unfold Lib.contains at hc
  rw [decide_eq_true_eq] at hc
  rcases Lib.index_spec ng.data.toList (32 :: bc s ++ [32]) with ⟨h1, _⟩ | ⟨i, h1, h2, h3, _⟩
  ·omega
  unfold Lib.occAt at h3
  rw [List.isPrefixOf_iff_prefix] at h3
  obtain ⟨r, hr⟩ := h3
  have hi : i < 200 := by
   have hl := congrArg List.length hr
   have := Nat.le_of_ble_eq_true Mh
   simp only [List.length_append,List.length_cons,List.length_drop] at hl; omega
  have h4 := List.all_eq_true.1 TV i (List.mem_range.2 hi)
  have e1 : ng.data.toList.drop (i + 1) = bc s ++ 32 :: r := by
   have : ng.data.toList.drop (i + 1) = (ng.data.toList.drop i).drop 1 := by rw [List.drop_drop]
   rw [this, ← hr]; simp
  rw [← hr, e1, Qm dH] at h4
  simpa using h4
 ·intro hc
  exact List.all_eq_true.1 Mf _ hc
theorem ma (s : ByteArray) : jU s = (decide (1 ≤ s.size) && decide (s.size ≤ 32) && uP (cC s 0) && gj kJ s && !(Ql.any fun k => decide (k = s))) := by
 unfold jU
 cases h : gj kJ s with
 | false => simp
 | true => rw [Mi s h]
def fc (o : List ByteArray) (c : UInt8) : List ByteArray := if c = 47 then o ++ [⟨#[]⟩] else o.set (o.length - 1) ((o[o.length - 1]?).getD ⟨#[]⟩ ++ ⟨#[c]⟩)
def fe (l : List UInt8) : List ByteArray := l.foldl fc [⟨#[]⟩]
def pe (cur : List UInt8) : List (List UInt8) → List (List UInt8)
 | [] => [cur]
 | h :: t => (cur ++ h) :: t
def FM (l : List UInt8) : ByteArray := ⟨l.toArray⟩
theorem uX (r : List UInt8) : Lib.split (47 :: r) [47] = [] :: Lib.split r [47] := by
 have ca : Lib.index (47 :: r) [47] = 0 := by rw [Lib.index]; simp [List.isPrefixOf]
 unfold Lib.split
 rw [Lib.count_cons_eq, Nat.add_comm, Lib.splitK, ca]
 simp
theorem uY (b : UInt8) (r : List UInt8) (h : b ≠ 47) : Lib.split (b :: r) [47] = pe [b] (Lib.split r [47]) := by
 have hp : ([47] : List UInt8).isPrefixOf (b :: r) = false := by simp [List.isPrefixOf, Ne.symm h]
 have ca : Lib.index (b :: r) [47] = if Lib.index r [47] == -1 then -1 else Lib.index r [47] + 1 := by rw [Lib.index, hp]; simp
 unfold Lib.split
 rw [Lib.count_cons_ne b 47 r h]
 cases hk : Lib.count r [47] with
 | zero => rfl
 | succ k =>
  rw [Lib.splitK, Lib.splitK, ca]
  by_cases hm : Lib.index r [47] = -1
  ·rw [hm]; rfl
  ·have dg := Lib.index_ge r [47]
   obtain ⟨j, hj⟩ : ∃ j : Nat, Lib.index r [47] = j := ⟨(Lib.index r [47]).toNat, by omega⟩
   have h1 : ((j : Int) == -1) = false := by rw [beq_eq_false_iff_ne]; omega
   have h2 : ((j : Int) + 1 == -1) = false := by rw [beq_eq_false_iff_ne]; omega
   have h3 : ((j : Int) + 1).toNat = j + 1 := by omega
   rw [hj, h1]
   simp only [Bool.false_eq_true,if_false,h2,h3,Int.toNat_natCast,pe,List.length_cons,List.length_nil,Nat.add_zero]
   rw [show j + 1 + (0 + 1) = (j + (0 + 1)) + 1 by omega, List.drop_succ_cons]
   rfl
theorem Mj (a b : List UInt8) : FM a ++ FM b = FM (a ++ b) := by
 apply ByteArray.ext
 rw [ByteArray.data_append]
 simp [FM]
theorem xL : ∀ (l : List UInt8) (pre : List ByteArray) (cur : List UInt8), l.foldl fc (pre ++ [FM cur]) = pre ++ (pe cur (Lib.split l [47])).map FM
 | [], pre, cur => by
  have : Lib.split [] [47] = [[]] := rfl
  rw [this]; simp [pe]
 | b :: r, pre, cur => by
  rw [List.foldl_cons]
  by_cases h : b = 47
  ·subst h
   have hs : fc (pre ++ [FM cur]) 47 = (pre ++ [FM cur]) ++ [FM []] := by simp [fc, FM]
   rw [hs, xL r, uX]
   have : pe [] (Lib.split r [47]) = Lib.split r [47] := by
    cases hq : Lib.split r [47] with
    | nil => exfalso; unfold Lib.split at hq; cases hk : Lib.count r [47] <;> rw [hk] at hq <;> rw [Lib.splitK] at hq <;> first | cases hq | (split at hq <;> cases hq)
    | cons a t => rfl
   rw [this]
   simp [pe]
  ·have hs : fc (pre ++ [FM cur]) b = pre ++ [FM (cur ++ [b])] := by
    unfold fc
    rw [if_neg h, List.length_append, List.length_singleton, Nat.add_sub_cancel]
    rw [List.getElem?_append_right (Nat.le_refl _), Nat.sub_self]
    simp only [List.getElem?_cons_zero,Option.getD_some]
    rw [List.set_append_right _ _ (Nat.le_refl _), Nat.sub_self, List.set_cons_zero]
    exact congrArg (fun z => pre ++ [z]) (Mj cur [b])
   rw [hs, xL r, uY b r h]
   cases hq : Lib.split r [47] with
   | nil => simp [pe]
   | cons a t => simp [pe]
theorem FN (s : ByteArray) : FM s.data.toList = s := by obtain ⟨⟨l⟩⟩ := s; rfl
theorem mb (s : ByteArray) : fe (bc s) = pieces s := by
 have h := xL (bc s) [] []
 have h2 : pe [] (Lib.split (bc s) [47]) = Lib.split (bc s) [47] := by
  cases hq : Lib.split (bc s) [47] with
  | nil => exfalso; unfold Lib.split at hq; cases hk : Lib.count (bc s) [47] <;> rw [hk] at hq <;> rw [Lib.splitK] at hq <;> first | cases hq | (split at hq <;> cases hq)
  | cons a t => rfl
 rw [h2, List.nil_append] at h
 have h3 := Lib.splitB_data ⟨#[47]⟩ 0 (Lib.countB s ⟨#[47]⟩) s
 have h4 : (pieces s).map (fun x => x.data.toList) = Lib.split (bc s) [47] := h3
 rw [show fe (bc s) = _ from h, ← h4, List.map_map]
 conv => rhs; rw [← List.map_id (pieces s)]
 exact List.map_congr_left fun x _ => FN x
theorem pf (l : List UInt8) (c : UInt8) : fe (l ++ [c]) = fc (fe l) c := by unfold fe; rw [List.foldl_append]; rfl
theorem qp (s : ByteArray) : lT s = (decide (1 ≤ s.size) && decide (cC s 0 = 118)) := by
 obtain ⟨⟨l⟩⟩ := s
 cases l with
 | nil => rfl
 | cons b l =>
  have hb : cC ⟨⟨b :: l⟩⟩ 0 = (b.toNat : Int) := rfl
  have hs : (⟨⟨b :: l⟩⟩ : ByteArray).size = l.length + 1 := rfl
  rw [hb, hs]
  show ((118 : UInt8) == b && ([] : List UInt8).isPrefixOf l) = _
  simp only [List.isPrefixOf_nil_left,Bool.and_true]
  rw [Bool.eq_iff_iff]
  simp only [beq_iff_eq,Bool.and_eq_true,decide_eq_true_eq]
  constructor
  ·rintro rfl; exact ⟨by omega, rfl⟩
  ·rintro ⟨-, h⟩
   apply UInt8.toNat_inj.1
   have : b.toNat = 118 := by omega
   rw [this]; rfl
theorem nU {s : ByteArray} (h : lT s = true) (k : Nat) : (gp s)[k]? = s[k + 1]? := by
 have hd : (gp s).data.toList = s.data.toList.drop 1 := by
  show Lib.trimPrefix s.data.toList [118] = _
  unfold Lib.trimPrefix
  rw [if_pos (show Lib.hasPrefix s.data.toList [118] = true from h)]; rfl
 have g : ∀ (t : ByteArray) (j : Nat), t[j]? = t.data.toList[j]? := fun t j => by
  obtain ⟨⟨l⟩⟩ := t
  by_cases hj : j < l.length
  ·rw [getElem?_pos (⟨⟨l⟩⟩ : ByteArray) j (by exact hj)]
   show some _ = l[j]?
   rw [List.getElem?_eq_getElem hj]; rfl
  ·rw [getElem?_neg (⟨⟨l⟩⟩ : ByteArray) j (by exact hj)]
   show none = l[j]?
   rw [List.getElem?_eq_none (by omega)]
 rw [g, g, hd, List.getElem?_drop, Nat.add_comm]
theorem mc {s : ByteArray} (h : lT s = true) : (gp s).size = s.size - 1 := by
 have hd : (gp s).data.toList = s.data.toList.drop 1 := by
  show Lib.trimPrefix s.data.toList [118] = _
  unfold Lib.trimPrefix
  rw [if_pos (show Lib.hasPrefix s.data.toList [118] = true from h)]; rfl
 rw [Lib.size_eq, hd, List.length_drop, ← Lib.size_eq]
theorem FO {s : ByteArray} (h : lT s = true) (k : Nat) : cC (gp s) k = cC s (k + 1) := by unfold cC; rw [nU h]
def rI (s : ByteArray) : Bool := !(decide (s.size < 2) || decide (4 < s.size) || !decide (cC s 0 = 118) || (decide (cC s 1 = 48) && decide (2 < s.size)))
theorem iY (s : ByteArray) : cf s = (rI s && gj ew (gp s)) := by
 unfold cf rI
 cases hv : lT s with
 | false =>
  rw [qp] at hv
  by_cases h1 : s.size < 2 <;> simp_all <;> (intros; omega)
 | true =>
  have h1 := mc hv
  have h2 := FO hv 0
  rw [qp] at hv
  simp only [Bool.and_eq_true,decide_eq_true_eq] at hv
  unfold lU
  rw [h1, h2]
  cases gj ew (gp s)
  ·simp
  ·rw [Bool.eq_iff_iff]
   simp [hv.2]
   omega
end Go.Proofs.YtnfeacnbgbggfaaGreatDoor
end

section
namespace Go.Proofs.YtnfeacnbgbggfaaGreatDoor
open Go.Eng
open Nat renaming reduceAdd → zA, reduceLT → zB, reduceLeDiff → zC, reduceMul → zD, reduceEqDiff → zE, reduceSub → zF
variable [aE]
set_option maxHeartbeats 4000000
set_option maxRecDepth 100000
theorem xM  : ∃ r_, (fun w => w = .slice (Ql.map str)) r_ ∧ aP Tryz.prog 192 [] r_ := by
 refine ek tt_ok [] 2 [.tmp 0] (fn := Tryz.f192) Tryz.func192 rfl Tryz.call192 ⟨rfl, rfl, by simp⟩ fun K hK => ?_
 simp only [go_sem,reduceIte,zA,zB,zC,zD,zE,zF,reduceCtorEq]
 exact hK _ rfl
theorem Cx (l : List ByteArray) (s : ByteArray) (hl : l.length ≤ 1048576) : ∃ r_, (fun w => w = bl (l.any fun k => decide (k = s))) r_ ∧ aP Tryz.prog 191 [.slice (l.map str), str s] r_ := by
 refine ek tt_ok [] 18 [.tmp 4] (fn := Tryz.f191) Tryz.func191 rfl Tryz.call191 ⟨rfl, rfl, by simp⟩ fun K hK => ?_
 simp only [List.length_map,go_sem,reduceIte,zA,zB,zC,zD,zE,zF,reduceCtorEq]
 refine bO tt_ok [] [5] 0 [0,1] (fun vs => ((l.length : Int) - Go.Eng.intOf (vs.headD .undef)).toNat) (fun vs => ∃ i : Nat, vs = [num i] ∧ i ≤ l.length ∧ ∀ j < i, ∀ x, l[j]? = some x → decide (x = s) = false) (by omega) (by simp only [List.length_map,go_sem,reduceIte,zA,zB,zC,zD,zE,zF,reduceCtorEq]) (⟨0, rfl, Nat.zero_le _, fun j hj => absurd hj (Nat.not_lt_zero j)⟩) fun vs hI Z1 cE => ?_
 obtain ⟨i, rfl, hi, bn⟩ := hI
 simp only [List.length_map,go_sem,reduceIte,zA,zB,zC,zD,zE,zF,reduceCtorEq]
 refine aL (fun la => ?_) (fun la => ?_)
 ·have aF : i < l.length := by simpa using la
  have hw := aC i (by omega)
  obtain ⟨x, hx⟩ : ∃ x, l[i]? = some x := ⟨_, List.getElem?_eq_getElem aF⟩
  simp only [hw,List.getElem?_map,hx,List.length_map,go_sem,reduceIte,zA,zB,zC,zD,zE,zF,reduceCtorEq]
  refine aL (fun xp => ?_) (fun xp => ?_)
  ·have ax : true = l.any fun k => decide (k = s) := (BN hx (by simpa [bU] using xp)).symm
   simp only [hw,List.getElem?_map,hx,List.length_map,go_sem,reduceIte,zA,zB,zC,zD,zE,zF,reduceCtorEq]
   exact hK _ (congrArg bl ax)
  ·simp only [hw,List.getElem?_map,hx,List.length_map,go_sem,reduceIte,zA,zB,zC,zD,zE,zF,reduceCtorEq]
   refine cE _ (eR (by omega) (by simp only [hw,List.getElem?_map,hx,List.length_map,go_sem,reduceIte,zA,zB,zC,zD,zE,zF,reduceCtorEq]) ?_ ?_) <;> simp only [ja,lk,reduceIte,zE]
   ·refine ⟨i + 1, rfl, aF, fun j hj => ?_⟩
    rcases Nat.lt_or_ge j i with h | h
    ·exact bn j h
    ·obtain rfl : j = i := by omega
     intro y hy
     rw [hx] at hy; cases hy; simpa [bU] using xp
   ·simp only [Go.Eng.intOf,List.headD_cons]; omega
 ·have dg : ¬ i < l.length := by simpa using la
  have ax : false = l.any fun k => decide (k = s) := (any_none fun j hj => bn j (by omega)).symm
  simp only [List.length_map,go_sem,reduceIte,zA,zB,zC,zD,zE,zF,reduceCtorEq]
  exact hK _ (congrArg bl ax)
theorem Cy (s : ByteArray) : ∃ r_, (fun w => w = bl (jU s)) r_ ∧ aP Tryz.prog 180 [str s] r_ := by
 refine ek tt_ok [] 26 [.tmp 2] (fn := Tryz.f180) Tryz.func180 rfl Tryz.call180 ⟨rfl, rfl, by simp⟩ fun K hK => ?_
 have eE : Tryz.prog.underlying 9 = some .string := by kernel_rfl
 have sl : ∀ (a : ByteArray) (ty : TypeId), cd Tryz.prog (Builtin.len_ #[9] ty) [.sc (.string a)] = some (num a.size) := fun a ty => bE (P := Tryz.prog) (tt := tt) (T := 9) a eE ty
 simp only [sl,go_sem,reduceIte,zA,zB,zC,zD,zE,zF,reduceCtorEq]
 refine aL (fun ra => ?_) (fun ra => ?_)
 ·simp only [sl,go_sem,reduceIte,zA,zB,zC,zD,zE,zF,reduceCtorEq]
  refine aL (fun vG => ?_) (fun vG => ?_)
  ·obtain ⟨v0, lV⟩ := bI (s := s) (i := 0) (by have := of_decide_eq_true ra; omega)
   have aU := cx (P := Tryz.prog) s eE .i64 (0 : Int) (by omega) (c := v0) (show s[((0 : Nat) : Int).toNat]? = some v0 from lV)
   have Wt : cC s 0 = v0.toNat := cX lV
   simp only [aU,sl,go_sem,reduceIte,zA,zB,zC,zD,zE,zF,reduceCtorEq]
   refine cF (qa _) ?_
   rintro _ rfl
   simp only [aU,sl,go_sem,reduceIte,zA,zB,zC,zD,zE,zF,reduceCtorEq]
   refine aL (fun Cz => ?_) (fun Cz => ?_)
   ·simp only [aU,sl,go_sem,reduceIte,zA,zB,zC,zD,zE,zF,reduceCtorEq]
    refine cF (HI s (by have := of_decide_eq_true vG; omega)) ?_
    rintro _ rfl
    simp only [aU,sl,go_sem,reduceIte,zA,zB,zC,zD,zE,zF,reduceCtorEq]
    refine aL (fun CA => ?_) (fun CA => ?_)
    ·simp only [aU,sl,go_sem,reduceIte,zA,zB,zC,zD,zE,zF,reduceCtorEq]
     refine cF (xM) ?_
     rintro _ rfl
     simp only [aU,sl,go_sem,reduceIte,zA,zB,zC,zD,zE,zF,reduceCtorEq]
     refine cF (Cx Ql s (by decide)) ?_
     rintro _ rfl
     simp only [aU,sl,go_sem,reduceIte,zA,zB,zC,zD,zE,zF,reduceCtorEq]
     exact hK _ (congrArg bl (by rw [ma]; simp_all <;> (intros; omega)))
    ·simp only [aU,sl,go_sem,reduceIte,zA,zB,zC,zD,zE,zF,reduceCtorEq]
     exact hK _ (congrArg bl (by rw [ma]; simp_all <;> (intros; omega)))
   ·simp only [aU,sl,go_sem,reduceIte,zA,zB,zC,zD,zE,zF,reduceCtorEq]
    exact hK _ (congrArg bl (by rw [ma]; simp_all <;> (intros; omega)))
  ·simp only [sl,go_sem,reduceIte,zA,zB,zC,zD,zE,zF,reduceCtorEq]
   exact hK _ (congrArg bl (by rw [ma]; simp_all <;> (intros; omega)))
 ·simp only [sl,go_sem,reduceIte,zA,zB,zC,zD,zE,zF,reduceCtorEq]
  exact hK _ (congrArg bl (by rw [ma]; simp_all <;> (intros; omega)))
theorem Ar (s : ByteArray) (hs : s.size ≤ 1048576) : ∃ r_, (fun w => w = bl (mR s)) r_ ∧ aP Tryz.prog 155 [str s] r_ := by
 refine ek tt_ok [] 24 [.tmp 2] (fn := Tryz.f155) Tryz.func155 rfl Tryz.call155 ⟨rfl, rfl, by simp⟩ fun K hK => ?_
 have eE : Tryz.prog.underlying 9 = some .string := by kernel_rfl
 have sl : ∀ (a : ByteArray) (ty : TypeId), cd Tryz.prog (Builtin.len_ #[9] ty) [.sc (.string a)] = some (num a.size) := fun a ty => bE (P := Tryz.prog) (tt := tt) (T := 9) a eE ty
 simp only [sl,go_sem,reduceIte,zA,zB,zC,zD,zE,zF,reduceCtorEq]
 refine bO tt_ok [] [3] 0 [0] (fun vs => ((s.size : Int) - Go.Eng.intOf (vs.headD .undef)).toNat) (fun vs => ∃ i : Nat, vs = [num i] ∧ i ≤ s.size ∧ ∀ j < i, ∀ b, s[j]? = some b → tu b.toNat = true) (by omega) (by simp only [sl,go_sem,reduceIte,zA,zB,zC,zD,zE,zF,reduceCtorEq]) (⟨0, rfl, Nat.zero_le _, fun j hj => absurd hj (Nat.not_lt_zero j)⟩) fun vs hI Z1 cE => ?_
 obtain ⟨i, rfl, hi, dH⟩ := hI
 simp only [sl,go_sem,reduceIte,zA,zB,zC,zD,zE,zF,reduceCtorEq]
 refine aL (fun HJ => ?_) (fun HJ => ?_)
 ·have aF : i < s.size := by simpa using HJ
  have hw := aC i (by omega)
  obtain ⟨c, jD⟩ := bI (s := s) (i := i) aF
  have ca := cx (P := Tryz.prog) s eE .i64 (i : Int) (by omega) (c := c) (show s[((i : Nat) : Int).toNat]? = some c from jD)
  simp only [hw,ca,sl,go_sem,reduceIte,zA,zB,zC,zD,zE,zF,reduceCtorEq]
  refine cF (qa _) ?_
  rintro _ rfl
  simp only [hw,ca,sl,go_sem,reduceIte,zA,zB,zC,zD,zE,zF,reduceCtorEq]
  refine aL (fun TW => ?_) (fun TW => ?_)
  ·simp only [hw,ca,sl,go_sem,reduceIte,zA,zB,zC,zD,zE,zF,reduceCtorEq]
   refine cF (mB _) ?_
   rintro _ rfl
   simp only [hw,ca,sl,go_sem,reduceIte,zA,zB,zC,zD,zE,zF,reduceCtorEq]
   refine aL (fun lX => ?_) (fun lX => ?_)
   ·have ax : false = mR s := by unfold mR; rw [iM (p := tu) jD (by unfold tu; simp_all), Bool.and_false]
    simp only [hw,ca,sl,go_sem,reduceIte,zA,zB,zC,zD,zE,zF,reduceCtorEq]
    exact hK _ (congrArg bl ax)
   ·simp only [hw,ca,sl,go_sem,reduceIte,zA,zB,zC,zD,zE,zF,reduceCtorEq]
    refine cE _ (eR (by omega) (by simp only [hw,ca,sl,go_sem,reduceIte,zA,zB,zC,zD,zE,zF,reduceCtorEq]) ?_ ?_) <;> simp only [ja,lk,reduceIte,zE]
    ·refine ⟨i + 1, rfl, aF, fun j hj b hb => ?_⟩
     rcases Nat.lt_or_ge j i with h | h
     ·exact dH j h b hb
     ·obtain rfl : j = i := by omega
      rw [jD] at hb; cases hb; unfold tu; simp_all
    ·simp only [Go.Eng.intOf,List.headD_cons]; omega
  ·simp only [hw,ca,sl,go_sem,reduceIte,zA,zB,zC,zD,zE,zF,reduceCtorEq]
   refine cE _ (eR (by omega) (by simp only [hw,ca,sl,go_sem,reduceIte,zA,zB,zC,zD,zE,zF,reduceCtorEq]) ?_ ?_) <;> simp only [ja,lk,reduceIte,zE]
   ·refine ⟨i + 1, rfl, aF, fun j hj b hb => ?_⟩
    rcases Nat.lt_or_ge j i with h | h
    ·exact dH j h b hb
    ·obtain rfl : j = i := by omega
     rw [jD] at hb; cases hb; unfold tu; simp_all
   ·simp only [Go.Eng.intOf,List.headD_cons]; omega
 ·have dg : ¬ i < s.size := by simpa using HJ
  have bn : gj tu s = true := jT fun j hj b hb => dH j (by omega) b hb
  have ax : jU s = mR s := by unfold mR; rw [bn, Bool.and_true]
  simp only [sl,go_sem,reduceIte,zA,zB,zC,zD,zE,zF,reduceCtorEq]
  refine cF (Cy s) ?_
  rintro _ rfl
  simp only [sl,go_sem,reduceIte,zA,zB,zC,zD,zE,zF,reduceCtorEq]
  exact hK _ (congrArg bl ax)
end Go.Proofs.YtnfeacnbgbggfaaGreatDoor
end

section
namespace Go.Proofs.YtnfeacnbgbggfaaGreatDoor
open Go.Eng
open Nat renaming reduceAdd → zA, reduceLT → zB, reduceLeDiff → zC, reduceMul → zD, reduceEqDiff → zE, reduceSub → zF
variable [aE]
set_option maxHeartbeats 4000000
set_option maxRecDepth 100000
theorem As (t : ByteArray) : ∀ k, (∀ j < k, ew (cC t j) = true) → 0 ≤ dz t k ∧ dz t k < 10 ^ k
 | 0, _ => ⟨Int.le_refl _, by simp [dz]⟩
 | k + 1, h => by
  obtain ⟨h1, h2⟩ := As t k fun j hj => h j (by omega)
  have h3 := h k (by omega)
  unfold ew at h3
  simp only [Bool.and_eq_true,decide_eq_true_eq] at h3
  rw [dz, Int.pow_succ]
  omega
theorem vZ {t : ByteArray} {k : Nat} (hk : k ≤ 3) (h : ∀ j < k, ew (cC t j) = true) : 0 ≤ dz t k ∧ dz t k < 1000 := by
 obtain ⟨h1, h2⟩ := As t k h
 refine ⟨h1, Int.lt_of_lt_of_le h2 ?_⟩
 have : k = 0 ∨ k = 1 ∨ k = 2 ∨ k = 3 := by omega
 rcases this with rfl | rfl | rfl | rfl <;> decide
theorem CB {s : ByteArray} (h : rI s = true) : lT s = true ∧ 2 ≤ s.size ∧ s.size ≤ 4 := by
 unfold rI at h
 rw [qp]
 by_cases h1 : s.size < 2 <;> by_cases h2 : 4 < s.size <;> simp_all <;> omega
theorem I6 {o : List ByteArray} {z : ByteArray} {c : UInt8} (h : o[o.length - 1]? = some z) (hc : c ≠ 47) : fc o c = o.set (o.length - 1) (z ++ ⟨#[c]⟩) := by
 unfold fc; rw [if_neg hc, h]; rfl
theorem v7 {s : ByteArray} {i : Nat} {c : UInt8} (h : s[i]? = some c) : (bc s).take (i + 1) = (bc s).take i ++ [c] := by
 unfold bc; rw [List.take_add_one, jS h]; rfl
theorem Au (s : ByteArray) : ∃ r_, (fun w => w = num (if cf s = true then jc s else -1)) r_ ∧ aP Tryz.prog 156 [str s] r_ := by
 refine ek tt_ok [] 48 [.tmp 2] (fn := Tryz.f156) Tryz.func156 rfl Tryz.call156 ⟨rfl, rfl, by simp⟩ fun K hK => ?_
 have eE : Tryz.prog.underlying 9 = some .string := by kernel_rfl
 have sl : ∀ (a : ByteArray) (ty : TypeId), cd Tryz.prog (Builtin.len_ #[9] ty) [.sc (.string a)] = some (num a.size) := fun a ty => bE (P := Tryz.prog) (tt := tt) (T := 9) a eE ty
 have tC : Tryz.prog.underlying 5 = some (.int .u8) := by kernel_rfl
 have rU : Tryz.prog.underlying 3 = some (.int .i64) := by kernel_rfl
 have cv := fun (k : IntKind) (n : Int) => bJ (P := Tryz.prog) (src := 5) (dst := 3) tC rU k n
 simp only [sl,cv,go_sem,reduceIte,zA,zB,zC,zD,zE,zF,reduceCtorEq]
 refine aL (fun ra => ?_) (fun ra => ?_)
 ·have dH : cf s = false := by rw [iY]; unfold rI; simp_all <;> (intros; omega)
  have ax : -1 = if cf s = true then jc s else -1 := by rw [dH]; rfl
  simp only [sl,cv,go_sem,reduceIte,zA,zB,zC,zD,zE,zF,reduceCtorEq]
  exact hK _ (congrArg num ax)
 ·simp only [sl,cv,go_sem,reduceIte,zA,zB,zC,zD,zE,zF,reduceCtorEq]
  refine aL (fun vG => ?_) (fun vG => ?_)
  ·have dH : cf s = false := by rw [iY]; unfold rI; simp_all <;> (intros; omega)
   have ax : -1 = if cf s = true then jc s else -1 := by rw [dH]; rfl
   simp only [sl,cv,go_sem,reduceIte,zA,zB,zC,zD,zE,zF,reduceCtorEq]
   exact hK _ (congrArg num ax)
  ·have eD : 2 ≤ s.size := by simp_all <;> omega
   obtain ⟨v0, lV⟩ := bI (s := s) (i := 0) (by omega)
   have aU := cx (P := Tryz.prog) s eE .i64 (0 : Int) (by omega) (c := v0) (show s[((0 : Nat) : Int).toNat]? = some v0 from lV)
   have Wt : cC s 0 = v0.toNat := cX lV
   simp only [aU,sl,cv,go_sem,reduceIte,zA,zB,zC,zD,zE,zF,reduceCtorEq]
   refine aL (fun Cz => ?_) (fun Cz => ?_)
   ·have dH : cf s = false := by rw [iY]; unfold rI; simp_all <;> (intros; omega)
    have ax : -1 = if cf s = true then jc s else -1 := by rw [dH]; rfl
    simp only [aU,sl,cv,go_sem,reduceIte,zA,zB,zC,zD,zE,zF,reduceCtorEq]
    exact hK _ (congrArg num ax)
   ·obtain ⟨v1, Nk⟩ := bI (s := s) (i := 1) (by omega)
    have fa := cx (P := Tryz.prog) s eE .i64 (1 : Int) (by omega) (c := v1) (show s[((1 : Nat) : Int).toNat]? = some v1 from Nk)
    have qG : cC s 1 = v1.toNat := cX Nk
    simp only [aU,fa,sl,cv,go_sem,reduceIte,zA,zB,zC,zD,zE,zF,reduceCtorEq]
    refine aL (fun CA => ?_) (fun CA => ?_)
    ·simp only [aU,fa,sl,cv,go_sem,reduceIte,zA,zB,zC,zD,zE,zF,reduceCtorEq]
     refine aL (fun W8 => ?_) (fun W8 => ?_)
     ·have dH : cf s = false := by rw [iY]; unfold rI; simp_all <;> (intros; omega)
      have ax : -1 = if cf s = true then jc s else -1 := by rw [dH]; rfl
      simp only [aU,fa,sl,cv,go_sem,reduceIte,zA,zB,zC,zD,zE,zF,reduceCtorEq]
      exact hK _ (congrArg num ax)
     ·have TX : rI s = true := by unfold rI; simp_all <;> (intros; omega)
      obtain ⟨hv, eD, Qn⟩ := CB TX
      obtain ⟨t, ht⟩ : ∃ t, t = gp s := ⟨_, rfl⟩
      have W9 : t.size = s.size - 1 := by rw [ht]; exact mc hv
      have AJ : cf s = gj ew t := by rw [iY, TX, ht]; rfl
      simp only [aU,fa,sl,cv,go_sem,reduceIte,zA,zB,zC,zD,zE,zF,reduceCtorEq]
      refine bO tt_ok [] [4,3] 0 [0,27] (fun vs => ((s.size : Int) - Go.Eng.intOf (vs.headD .undef)).toNat) (fun vs => ∃ i : Nat, vs = [num i, num (dz t (i - 1))] ∧ 1 ≤ i ∧ i ≤ s.size ∧ ∀ j < i - 1, ew (cC t j) = true) (by omega) (by simp only [aU,fa,sl,cv,go_sem,reduceIte,zA,zB,zC,zD,zE,zF,reduceCtorEq]) (⟨1, rfl, Nat.le_refl _, by omega, fun j hj => absurd hj (Nat.not_lt_zero j)⟩) fun vs hI Z1 cE => ?_
      obtain ⟨i, rfl, qC, hi, dH⟩ := hI
      simp only [aU,fa,sl,cv,go_sem,reduceIte,zA,zB,zC,zD,zE,zF,reduceCtorEq]
      refine aL (fun CC => ?_) (fun CC => ?_)
      ·have aF : i < s.size := by simpa using CC
       have hw := aC i (by omega)
       obtain ⟨c, jD⟩ := bI (s := s) (i := i) aF
       have ca := cx (P := Tryz.prog) s eE .i64 (i : Int) (by omega) (c := c) (show s[((i : Nat) : Int).toNat]? = some c from jD)
       have TY : t[i - 1]? = some c := by rw [ht, nU hv, Nat.sub_add_cancel qC]; exact jD
       have H6 : cC t (i - 1) = c.toNat := cX TY
       simp only [aU,fa,hw,ca,sl,cv,go_sem,reduceIte,zA,zB,zC,zD,zE,zF,reduceCtorEq]
       refine cF (mB _) ?_
       rintro _ rfl
       simp only [aU,fa,hw,ca,sl,cv,go_sem,reduceIte,zA,zB,zC,zD,zE,zF,reduceCtorEq]
       refine aL (fun jC => ?_) (fun jC => ?_)
       ·have R2 : ew (c.toNat : Int) = false := by simpa using jC
        have BD : cf s = false := by rw [AJ]; exact iM TY R2
        have ax : -1 = if cf s = true then jc s else -1 := by rw [BD]; rfl
        simp only [aU,fa,hw,ca,sl,cv,go_sem,reduceIte,zA,zB,zC,zD,zE,zF,reduceCtorEq]
        exact hK _ (congrArg num ax)
       ·have K9 : ew (c.toNat : Int) = true := by simpa using jC
        have I7 := K9
        unfold ew at I7
        simp only [Bool.and_eq_true,decide_eq_true_eq] at I7
        obtain ⟨RS, NY⟩ := vZ (t := t) (k := i - 1) (by omega) dH
        have hu : IntKind.u8.wrap ((c.toNat : Int) - 48) = (c.toNat : Int) - 48 := by have h := c.toNat_lt; simp only [IntKind.wrap,IntKind.bits,IntKind.signed]; simp; omega
        have tD : IntKind.i64.wrap ((c.toNat : Int) - 48) = (c.toNat : Int) - 48 := IntWalk.i64_in _ (by omega)
        have tE : IntKind.i64.wrap (10 * dz t (i - 1)) = 10 * dz t (i - 1) := IntWalk.i64_in _ (by omega)
        have vH : IntKind.i64.wrap (10 * dz t (i - 1) + ((c.toNat : Int) - 48)) = dz t i := by
         conv => rhs; rw [show i = i - 1 + 1 by omega, dz, H6]
         exact IntWalk.i64_in _ (by omega)
        simp only [aU,fa,hw,ca,hu,tD,tE,vH,sl,cv,go_sem,reduceIte,zA,zB,zC,zD,zE,zF,reduceCtorEq]
        refine cE _ (eR (by omega) (by simp only [aU,fa,hw,ca,hu,tD,tE,vH,sl,cv,go_sem,reduceIte,zA,zB,zC,zD,zE,zF,reduceCtorEq]) ?_ ?_) <;> simp only [ja,lk,reduceIte,zE]
        ·refine ⟨i + 1, by rw [Nat.add_sub_cancel], by omega, aF, fun j hj => ?_⟩
         rw [Nat.add_sub_cancel] at hj
         rcases Nat.lt_or_ge j (i - 1) with h | h
         ·exact dH j h
         ·obtain rfl : j = i - 1 := by omega
          rw [H6]; simpa using jC
        ·simp only [Go.Eng.intOf,List.headD_cons]; omega
      ·have dg : i = s.size := Nat.le_antisymm hi (Nat.le_of_not_lt (by simpa using CC))
       have zJ : gj ew t = true := jT fun j hj b hb => by have h := dH j (by omega); rwa [cX hb] at h
       have ax : dz t (i - 1) = if cf s = true then jc s else -1 := by
        rw [AJ, zJ, if_pos rfl]
        unfold jc
        rw [← ht, W9, dg]
       simp only [aU,fa,sl,cv,go_sem,reduceIte,zA,zB,zC,zD,zE,zF,reduceCtorEq]
       exact hK _ (congrArg num ax)
    ·have TX : rI s = true := by unfold rI; simp_all <;> (intros; omega)
     obtain ⟨hv, eD, Qn⟩ := CB TX
     obtain ⟨t, ht⟩ : ∃ t, t = gp s := ⟨_, rfl⟩
     have W9 : t.size = s.size - 1 := by rw [ht]; exact mc hv
     have AJ : cf s = gj ew t := by rw [iY, TX, ht]; rfl
     simp only [aU,fa,sl,cv,go_sem,reduceIte,zA,zB,zC,zD,zE,zF,reduceCtorEq]
     refine bO tt_ok [] [4,3] 0 [0,27] (fun vs => ((s.size : Int) - Go.Eng.intOf (vs.headD .undef)).toNat) (fun vs => ∃ i : Nat, vs = [num i, num (dz t (i - 1))] ∧ 1 ≤ i ∧ i ≤ s.size ∧ ∀ j < i - 1, ew (cC t j) = true) (by omega) (by simp only [aU,fa,sl,cv,go_sem,reduceIte,zA,zB,zC,zD,zE,zF,reduceCtorEq]) (⟨1, rfl, Nat.le_refl _, by omega, fun j hj => absurd hj (Nat.not_lt_zero j)⟩) fun vs hI Z2 pn => ?_
     obtain ⟨i, rfl, qC, hi, dH⟩ := hI
     simp only [aU,fa,sl,cv,go_sem,reduceIte,zA,zB,zC,zD,zE,zF,reduceCtorEq]
     refine aL (fun CC => ?_) (fun CC => ?_)
     ·have aF : i < s.size := by simpa using CC
      have hw := aC i (by omega)
      obtain ⟨c, jD⟩ := bI (s := s) (i := i) aF
      have ca := cx (P := Tryz.prog) s eE .i64 (i : Int) (by omega) (c := c) (show s[((i : Nat) : Int).toNat]? = some c from jD)
      have TY : t[i - 1]? = some c := by rw [ht, nU hv, Nat.sub_add_cancel qC]; exact jD
      have H6 : cC t (i - 1) = c.toNat := cX TY
      simp only [aU,fa,hw,ca,sl,cv,go_sem,reduceIte,zA,zB,zC,zD,zE,zF,reduceCtorEq]
      refine cF (mB _) ?_
      rintro _ rfl
      simp only [aU,fa,hw,ca,sl,cv,go_sem,reduceIte,zA,zB,zC,zD,zE,zF,reduceCtorEq]
      refine aL (fun jC => ?_) (fun jC => ?_)
      ·have R2 : ew (c.toNat : Int) = false := by simpa using jC
       have BD : cf s = false := by rw [AJ]; exact iM TY R2
       have ax : -1 = if cf s = true then jc s else -1 := by rw [BD]; rfl
       simp only [aU,fa,hw,ca,sl,cv,go_sem,reduceIte,zA,zB,zC,zD,zE,zF,reduceCtorEq]
       exact hK _ (congrArg num ax)
      ·have K9 : ew (c.toNat : Int) = true := by simpa using jC
       have I7 := K9
       unfold ew at I7
       simp only [Bool.and_eq_true,decide_eq_true_eq] at I7
       obtain ⟨RS, NY⟩ := vZ (t := t) (k := i - 1) (by omega) dH
       have hu : IntKind.u8.wrap ((c.toNat : Int) - 48) = (c.toNat : Int) - 48 := by have h := c.toNat_lt; simp only [IntKind.wrap,IntKind.bits,IntKind.signed]; simp; omega
       have tD : IntKind.i64.wrap ((c.toNat : Int) - 48) = (c.toNat : Int) - 48 := IntWalk.i64_in _ (by omega)
       have tE : IntKind.i64.wrap (10 * dz t (i - 1)) = 10 * dz t (i - 1) := IntWalk.i64_in _ (by omega)
       have vH : IntKind.i64.wrap (10 * dz t (i - 1) + ((c.toNat : Int) - 48)) = dz t i := by
        conv => rhs; rw [show i = i - 1 + 1 by omega, dz, H6]
        exact IntWalk.i64_in _ (by omega)
       simp only [aU,fa,hw,ca,hu,tD,tE,vH,sl,cv,go_sem,reduceIte,zA,zB,zC,zD,zE,zF,reduceCtorEq]
       refine pn _ (eR (by omega) (by simp only [aU,fa,hw,ca,hu,tD,tE,vH,sl,cv,go_sem,reduceIte,zA,zB,zC,zD,zE,zF,reduceCtorEq]) ?_ ?_) <;> simp only [ja,lk,reduceIte,zE]
       ·refine ⟨i + 1, by rw [Nat.add_sub_cancel], by omega, aF, fun j hj => ?_⟩
        rw [Nat.add_sub_cancel] at hj
        rcases Nat.lt_or_ge j (i - 1) with h | h
        ·exact dH j h
        ·obtain rfl : j = i - 1 := by omega
         rw [H6]; simpa using jC
       ·simp only [Go.Eng.intOf,List.headD_cons]; omega
     ·have dg : i = s.size := Nat.le_antisymm hi (Nat.le_of_not_lt (by simpa using CC))
      have zJ : gj ew t = true := jT fun j hj b hb => by have h := dH j (by omega); rwa [cX hb] at h
      have ax : dz t (i - 1) = if cf s = true then jc s else -1 := by
       rw [AJ, zJ, if_pos rfl]
       unfold jc
       rw [← ht, W9, dg]
      simp only [aU,fa,sl,cv,go_sem,reduceIte,zA,zB,zC,zD,zE,zF,reduceCtorEq]
      exact hK _ (congrArg num ax)
end Go.Proofs.YtnfeacnbgbggfaaGreatDoor
end

section
namespace Go.Proofs.YtnfeacnbgbggfaaGreatDoor
open Go.Eng
open Nat renaming reduceAdd → zA, reduceLT → zB, reduceLeDiff → zC, reduceMul → zD, reduceEqDiff → zE, reduceSub → zF
variable [aE]
set_option maxHeartbeats 4000000
set_option maxRecDepth 100000
theorem Mk (c : UInt8) : strOfNums [(c.toNat : Int)] = ⟨#[c]⟩ := o4 [c]
theorem FP {s : ByteArray} {i : Nat} {c : UInt8} {xs : List ByteArray} {y : ByteArray} (hc : s[i]? = some c) (hx : fe ((bc s).take i) = xs ++ [y]) (h : (c.toNat : Int) = 47) : fe ((bc s).take (i + 1)) = (xs ++ [y]) ++ [⟨#[]⟩] := by
 have e : c = 47 := UInt8.toNat_inj.1 (by rw [show (47 : UInt8).toNat = 47 from rfl]; omega)
 rw [v7 hc, pf, hx, e]; rfl
theorem I8 {s : ByteArray} {i : Nat} {c : UInt8} {xs : List ByteArray} {y : ByteArray} (hc : s[i]? = some c) (hx : fe ((bc s).take i) = xs ++ [y]) (h : ¬ (c.toNat : Int) = 47) : fe ((bc s).take (i + 1)) = xs ++ [y ++ ⟨#[c]⟩] := by
 have e : c ≠ 47 := fun e => h (by rw [e]; rfl)
 rw [v7 hc, pf, hx, I6 (z := y) (by simp) e]
 simp
theorem I9 {s : ByteArray} (h : bu s = true) : ∃ j : Nat, j < s.size ∧ s[j]? = some 47 := by
 unfold bu at h
 simp only [Bool.and_eq_true,decide_eq_true_eq] at h
 obtain ⟨⟨-, h2⟩, -⟩ := h
 rw [dX] at h2
 have hc : Lib.countB s ⟨#[47]⟩ = s.data.toList.count 47 := by
  unfold Lib.countB
  exact Lib.count_one 47 s.data.toList
 have hm : (47 : UInt8) ∈ s.data.toList := List.count_pos_iff.1 (by omega)
 obtain ⟨j, hj⟩ := List.mem_iff_getElem?.1 hm
 have qw : j < s.size := by have := (List.getElem?_eq_some_iff.1 hj).1; simpa using this
 obtain ⟨c, jD⟩ := bI qw
 have := jS jD
 rw [hj] at this; cases this
 exact ⟨j, qw, jD⟩
theorem CD (s : ByteArray) : 0 < (pieces s).length := by rw [dX]; omega
theorem CE {s z : ByteArray} (h : z ∈ pieces s) : z.size ≤ s.size := by
 have key : ∀ (l : List UInt8) (o : List ByteArray) (n : Nat), (∀ x ∈ o, x.size ≤ n) → ∀ x ∈ l.foldl fc o, x.size ≤ n + l.length := by
  intro l
  induction l with
  | nil => intro o n h x hx; simpa using h x hx
  | cons b l ih =>
   intro o n h x hx
   rw [List.foldl_cons] at hx
   have := ih (fc o b) (n + 1) (fun y hy => by
    unfold fc at hy
    split at hy
    ·rcases List.mem_append.1 hy with hy | hy
     ·exact Nat.le_succ_of_le (h y hy)
     ·rw [List.mem_singleton.1 hy]; exact Nat.zero_le _
    ·rcases List.mem_or_eq_of_mem_set hy with hy | hy
     ·exact Nat.le_succ_of_le (h y hy)
     ·rw [hy, ByteArray.size_append]
      have hs : (⟨#[b]⟩ : ByteArray).size = 1 := rfl
      have : ((o[o.length - 1]?).getD ⟨#[]⟩).size ≤ n := by
       cases hq : o[o.length - 1]? with
       | none => exact Nat.zero_le _
       | some q => exact h q (List.mem_of_getElem? hq)
      omega) x hx
   rw [List.length_cons]; omega
 rw [← mb] at h
 have := key (bc s) [⟨#[]⟩] 0 (fun x hx => by rw [List.mem_singleton.1 hx]; exact Nat.zero_le _) z h
 rw [Nat.zero_add] at this
 exact this
theorem xN {z : ByteArray} (h : cf z = true) : 0 ≤ jc z := by
 rw [iY] at h
 simp only [Bool.and_eq_true] at h
 obtain ⟨-, -, h4⟩ := CB h.1
 exact (nJ h.2 _ (Nat.le_refl _)).1
theorem Ja (s : ByteArray) (hs : s.size ≤ 1048576) : ∃ r_, (fun w => w = .slice ((pieces s).map str)) r_ ∧ aP Tryz.prog 154 [str s] r_ := by
 refine ek tt_ok [] 37 [.tmp 2] (fn := Tryz.f154) Tryz.func154 rfl Tryz.call154 ⟨rfl, rfl, by simp⟩ fun K hK => ?_
 have eE : Tryz.prog.underlying 9 = some .string := by kernel_rfl
 have sl : ∀ (a : ByteArray) (ty : TypeId), cd Tryz.prog (Builtin.len_ #[9] ty) [.sc (.string a)] = some (num a.size) := fun a ty => bE (P := Tryz.prog) (tt := tt) (T := 9) a eE ty
 have F9 := fun (n : Int) => ye (P := Tryz.prog) (mem := []) (s := 159) (d := 9) (e := 5) (rows := [.sc (.int .u8 n)]) (ns := [n]) (by kernel_rfl) (by kernel_rfl) eE rfl
 have uf : ∀ c : Int, (strOfNums [c]).size = 1 := fun c => rfl
 simp only [sl,F9,go_sem,reduceIte,zA,zB,zC,zD,zE,zF,reduceCtorEq]
 refine cT tt_ok [] (fun a : Nat × Nat × List ByteArray × ByteArray => [(0, str s), (3, .ms 0 a.2.1 0 (a.2.1 + 1)), (4, num a.1)]) (fun a : Nat × Nat × List ByteArray × ByteArray => [.rows a.2.1 1 ((a.2.2.1 ++ [a.2.2.2]).map str)]) (fun a => s.size - a.1) (fun a => a.1 ≤ s.size ∧ a.2.2.1.length = a.2.1 ∧ a.2.1 ≤ a.1 ∧ a.2.2.2.size ≤ a.1 ∧ (∀ x ∈ a.2.2.1, x.size ≤ s.size) ∧ fe ((bc s).take a.1) = a.2.2.1 ++ [a.2.2.2]) ((0, 0, [], ⟨#[]⟩)) 1 (bd (by omega) (by simp only [sl,F9,List.map_cons,List.map_nil,List.nil_append,Int.cast_ofNat_Int,go_sem,reduceIte,zA,zB,zC,zD,zE,zF,reduceCtorEq] <;> rfl)) (⟨Nat.zero_le _, rfl, Nat.le_refl _, Nat.le_refl _, (fun x hx => by cases hx), rfl⟩) ?_
 rintro ⟨i, k, xs, y⟩ ⟨hi, yq, Vo, ZX, bn, Ml⟩
 try dsimp only at hi yq Vo ZX bn Ml
 try dsimp only
 intro Z1 cE
 simp only [sl,F9,go_sem,reduceIte,zA,zB,zC,zD,zE,zF,reduceCtorEq]
 refine aL (fun la => ?_) (fun la => ?_)
 ·have aF : i < s.size := by simpa using la
  have hw := aC i (by omega)
  obtain ⟨c, jD⟩ := bI (s := s) (i := i) aF
  have ca := cx (P := Tryz.prog) s eE .i64 (i : Int) (by omega) (c := c) (show s[((i : Nat) : Int).toNat]? = some c from jD)
  have gq : IntKind.i64.wrap (((k + 1 : Nat) : Int) - 1) = ((k : Nat) : Int) := oS _ k (by omega) (by omega)
  have fK : ((k : Nat) : Int) < ((k + 1 : Nat) : Int) := by omega
  have UK : (xs ++ [y])[k]? = some y := by rw [List.getElem?_append_right (by omega), yq, Nat.sub_self]; rfl
  have fS : k + 1 + 1 ≤ 34359738368 := by omega
  have zS := fun a b => kB Tryz.prog 9 a b y (strOfNums [(c.toNat : Int)]) (by rw [uf, show IntKind.i64.max = 9223372036854775807 from rfl]; omega)
  simp only [hw,ca,gq,fK,fS,yq,List.getElem?_map,UK,zS,List.length_map,List.length_append,List.length_cons,List.length_nil,Nat.zero_add,sl,F9,go_sem,reduceIte,zA,zB,zC,zD,zE,zF,reduceCtorEq]
  refine aL (fun lS => ?_) (fun lS => ?_)
  ·let nv : Nat × Nat × List ByteArray × ByteArray := (i + 1, k + 1, xs ++ [y], ⟨#[]⟩)
   have Jb : ∀ x ∈ nv.2.2.1, x.size ≤ s.size := fun x hx => by
    rcases List.mem_append.1 hx with h | h
    ·exact bn x h
    ·rw [List.mem_singleton.1 h]; omega
   have Jc : fe ((bc s).take nv.1) = nv.2.2.1 ++ [nv.2.2.2] := FP jD Ml (by simpa using lS)
   simp only [hw,ca,gq,fK,fS,yq,List.getElem?_map,UK,zS,List.length_map,List.length_append,List.length_cons,List.length_nil,Nat.zero_add,sl,F9,go_sem,reduceIte,zA,zB,zC,zD,zE,zF,reduceCtorEq]
   refine cE _ ⟨nv, ?_, ?_, bd (by omega) (by (simp [nv, pV, lk, bY, cQ, ai, aB, List.map_append]; first | done | (rw [List.set_append_right _ _ (by rw [List.length_map]; omega), List.length_map, yq, Nat.sub_self]; rfl)))⟩
   ·refine ⟨aF, ?_, ?_, ?_, ?_⟩
    ·dsimp only [nv]; first | exact yq | (rw [List.length_append, yq]; rfl)
    ·dsimp only [nv]; omega
    ·dsimp only [nv]; first | exact Nat.zero_le _ | (rw [ByteArray.size_append, uf]; omega)
    ·exact ⟨Jb, Jc⟩
   ·dsimp only [nv]; omega
  ·let nv : Nat × Nat × List ByteArray × ByteArray := (i + 1, k, xs, y ++ strOfNums [(c.toNat : Int)])
   have Jb : ∀ x ∈ nv.2.2.1, x.size ≤ s.size := bn
   have Jc : fe ((bc s).take nv.1) = nv.2.2.1 ++ [nv.2.2.2] := by show _ = xs ++ [y ++ strOfNums [(c.toNat : Int)]]; rw [Mk]; exact I8 jD Ml (by simpa using lS)
   simp only [hw,ca,gq,fK,fS,yq,List.getElem?_map,UK,zS,List.length_map,List.length_append,List.length_cons,List.length_nil,Nat.zero_add,sl,F9,go_sem,reduceIte,zA,zB,zC,zD,zE,zF,reduceCtorEq]
   refine bH tt_ok aK [⟨.n, 0, [], [], []⟩, ⟨.n, 0, [], [], []⟩, ⟨.n, 0, [], [], []⟩, ⟨.n, 0, [], [], []⟩, ⟨.n, 0, [], [], []⟩, ⟨.n, 0, [], [], []⟩, ⟨.n, 0, [], [], []⟩, ⟨.n, 0, [], [], []⟩, ⟨.r, 0, [], [], []⟩, ⟨.r, 0, [], [], []⟩, ⟨.n, 0, [], [], []⟩, ⟨.n, 0, [], [], []⟩, ⟨.n, 0, [], [], []⟩, ⟨.n, 0, [], [], []⟩, ⟨.n, 0, [], [], []⟩, ⟨.n, 0, [], [], []⟩, ⟨.r, 0, [], [], []⟩, ⟨.w, 0, [], [], []⟩] 1 (by kernel_rfl) ?_
   simp only [hw,ca,gq,fK,fS,yq,List.getElem?_map,UK,zS,List.length_map,List.length_append,List.length_cons,List.length_nil,Nat.zero_add,sl,F9,go_sem,reduceIte,zA,zB,zC,zD,zE,zF,reduceCtorEq]
   refine cE _ ⟨nv, ?_, ?_, bd (by omega) (by (simp [nv, pV, lk, bY, cQ, ai, aB, List.map_append]; first | done | (rw [List.set_append_right _ _ (by rw [List.length_map]; omega), List.length_map, yq, Nat.sub_self]; rfl)))⟩
   ·refine ⟨aF, ?_, ?_, ?_, ?_⟩
    ·dsimp only [nv]; first | exact yq | (rw [List.length_append, yq]; rfl)
    ·dsimp only [nv]; omega
    ·dsimp only [nv]; first | exact Nat.zero_le _ | (rw [ByteArray.size_append, uf]; omega)
    ·exact ⟨Jb, Jc⟩
   ·dsimp only [nv]; omega
 ·have dg : ¬ i < s.size := by simpa using la
  have qc : pieces s = xs ++ [y] := by rw [← mb, ← Ml, List.take_of_length_le]; exact Nat.le_of_not_lt dg
  simp only [sl,F9,go_sem,reduceIte,zA,zB,zC,zD,zE,zF,reduceCtorEq]
  exact Hw (by simp [yq]) (hK _ (by rw [qc]))
theorem v8 (s : ByteArray) (hs : s.size ≤ 1048576) : ∃ r_, (fun w => w = .bt [num (bF s), num (bw s)]) r_ ∧ aP Tryz.prog 133 [str s] r_ := by
 refine ek tt_ok [] 39 [.tmp 2, .tmp 3] (fn := Tryz.f133) Tryz.func133 rfl Tryz.call133 ⟨rfl, rfl, by simp⟩ fun K hK => ?_
 have eE : Tryz.prog.underlying 9 = some .string := by kernel_rfl
 have sl : ∀ (a : ByteArray) (ty : TypeId), cd Tryz.prog (Builtin.len_ #[9] ty) [.sc (.string a)] = some (num a.size) := fun a ty => bE (P := Tryz.prog) (tt := tt) (T := 9) a eE ty
 simp only [sl,List.length_map,go_sem,reduceIte,zA,zB,zC,zD,zE,zF,reduceCtorEq]
 refine aL (fun la => ?_) (fun la => ?_)
 ·have dH : bu s = false := by unfold bu; simp_all <;> (intros; omega)
  simp only [sl,List.length_map,go_sem,reduceIte,zA,zB,zC,zD,zE,zF,reduceCtorEq]
  refine hK _ ?_
  first
   | (unfold bF bw; rw [dH]; rfl)
   | (unfold bF bw; rw [bB, ob]; simp_all; done)
   | (unfold bF bw; rw [bB, ob]; simp_all; rfl)
 ·simp only [sl,List.length_map,go_sem,reduceIte,zA,zB,zC,zD,zE,zF,reduceCtorEq]
  refine cF (Ja s (by omega)) ?_
  rintro _ rfl
  obtain ⟨P, hP⟩ : ∃ P, P = pieces s := ⟨_, rfl⟩
  have Wu := vJ s
  have Wv := CD s
  have ZY : ∀ x ∈ P, x.size ≤ s.size := fun x hx => CE (hP ▸ hx)
  rw [← hP]
  rw [← hP] at Wu Wv
  obtain ⟨z, hz⟩ : ∃ z, P[P.length - 1]? = some z := ⟨_, List.getElem?_eq_getElem (by omega)⟩
  have ob : vI s = z := zK (by rw [← hP]; exact hz)
  have gq : IntKind.i64.wrap ((P.length : Int) - 1) = ((P.length - 1 : Nat) : Int) := oS _ _ (by omega) (by omega)
  simp only [List.getElem?_map,hz,gq,sl,List.length_map,go_sem,reduceIte,zA,zB,zC,zD,zE,zF,reduceCtorEq]
  refine bO tt_ok [] [5] 0 [4,9] (fun vs => ((P.length : Int) - Go.Eng.intOf (vs.headD .undef)).toNat) (fun vs => ∃ i : Nat, vs = [num i] ∧ i ≤ P.length ∧ ∀ j < i, ∀ x, P[j]? = some x → mR x = true) (by omega) (by simp only [List.getElem?_map,hz,gq,sl,List.length_map,go_sem,reduceIte,zA,zB,zC,zD,zE,zF,reduceCtorEq]) (⟨0, rfl, Nat.zero_le _, fun j hj => absurd hj (Nat.not_lt_zero j)⟩) fun vs hI Z1 cE => ?_
  obtain ⟨i, rfl, hi, bn⟩ := hI
  simp only [List.getElem?_map,hz,gq,sl,List.length_map,go_sem,reduceIte,zA,zB,zC,zD,zE,zF,reduceCtorEq]
  refine aL (fun lS => ?_) (fun lS => ?_)
  ·have aF : i < P.length := by simpa using lS
   have hw := aC i (by omega)
   obtain ⟨x, hx⟩ : ∃ x, P[i]? = some x := ⟨_, List.getElem?_eq_getElem aF⟩
   simp only [List.getElem?_map,hz,gq,hw,hx,sl,List.length_map,go_sem,reduceIte,zA,zB,zC,zD,zE,zF,reduceCtorEq]
   refine cF (Ar x (by have := ZY x (List.mem_of_getElem? hx); omega)) ?_
   rintro _ rfl
   simp only [List.getElem?_map,hz,gq,hw,hx,sl,List.length_map,go_sem,reduceIte,zA,zB,zC,zD,zE,zF,reduceCtorEq]
   refine aL (fun xD => ?_) (fun xD => ?_)
   ·have dH : bu s = false := by
     have ha : P.all mR = false := BU hx (by simpa using xD)
     unfold bu; rw [← hP, ha]; simp
    simp only [List.getElem?_map,hz,gq,hw,hx,sl,List.length_map,go_sem,reduceIte,zA,zB,zC,zD,zE,zF,reduceCtorEq]
    refine hK _ ?_
    first
     | (unfold bF bw; rw [dH]; rfl)
     | (unfold bF bw; rw [bB, ob]; simp_all; done)
     | (unfold bF bw; rw [bB, ob]; simp_all; rfl)
   ·simp only [List.getElem?_map,hz,gq,hw,hx,sl,List.length_map,go_sem,reduceIte,zA,zB,zC,zD,zE,zF,reduceCtorEq]
    refine cE _ (eR (by omega) (by simp only [List.getElem?_map,hz,gq,hw,hx,sl,List.length_map,go_sem,reduceIte,zA,zB,zC,zD,zE,zF,reduceCtorEq]) ?_ ?_) <;> simp only [ja,lk,reduceIte,zE]
    ·refine ⟨i + 1, rfl, aF, fun j hj => ?_⟩
     rcases Nat.lt_or_ge j i with h | h
     ·exact bn j h
     ·obtain rfl : j = i := by omega
      intro y hy
      rw [hx] at hy; cases hy; simpa using xD
    ·simp only [Go.Eng.intOf,List.headD_cons]; omega
  ·have dg : ¬ i < P.length := by simpa using lS
   have ha : P.all mR = true := HT fun j hj => bn j (by omega)
   simp only [List.getElem?_map,hz,gq,sl,List.length_map,go_sem,reduceIte,zA,zB,zC,zD,zE,zF,reduceCtorEq]
   refine cF (Au z) ?_
   rintro _ rfl
   simp only [List.getElem?_map,hz,gq,sl,List.length_map,go_sem,reduceIte,zA,zB,zC,zD,zE,zF,reduceCtorEq]
   refine aL (fun Qo => ?_) (fun Qo => ?_)
   ·have dH : bu s = false := by
     unfold bu; rw [ob, ← hP]
     by_cases hv : cf z = true
     ·have := xN hv; simp_all; omega
     ·simp [hv]
    simp only [List.getElem?_map,hz,gq,sl,List.length_map,go_sem,reduceIte,zA,zB,zC,zD,zE,zF,reduceCtorEq]
    refine hK _ ?_
    first
     | (unfold bF bw; rw [dH]; rfl)
     | (unfold bF bw; rw [bB, ob]; simp_all; done)
     | (unfold bF bw; rw [bB, ob]; simp_all; rfl)
   ·simp only [List.getElem?_map,hz,gq,sl,List.length_map,go_sem,reduceIte,zA,zB,zC,zD,zE,zF,reduceCtorEq]
    refine aL (fun oZ => ?_) (fun oZ => ?_)
    ·have dH : bu s = false := by
      unfold bu; rw [ob, ← hP]
      by_cases hv : cf z = true
      ·have := xN hv; simp_all; omega
      ·simp [hv]
     simp only [List.getElem?_map,hz,gq,sl,List.length_map,go_sem,reduceIte,zA,zB,zC,zD,zE,zF,reduceCtorEq]
     refine hK _ ?_
     first
      | (unfold bF bw; rw [dH]; rfl)
      | (unfold bF bw; rw [bB, ob]; simp_all; done)
      | (unfold bF bw; rw [bB, ob]; simp_all; rfl)
    ·have ZZ : cf z = true := by
      by_cases hv : cf z = true
      ·exact hv
      ·exfalso; simp_all
     have bB : bu s = true := by unfold bu; rw [ob, ← hP, ha, ZZ]; simp_all; omega
     simp only [List.getElem?_map,hz,gq,sl,List.length_map,go_sem,reduceIte,zA,zB,zC,zD,zE,zF,reduceCtorEq]
     refine hK _ ?_
     first
      | (unfold bF bw; rw [dH]; rfl)
      | (unfold bF bw; rw [bB, ob]; simp_all; done)
      | (unfold bF bw; rw [bB, ob]; simp_all; rfl)
theorem CF (s : ByteArray) (hs : s.size ≤ 1048576) : ∃ r_, (fun w => w = bl (bu s)) r_ ∧ aP Tryz.prog 132 [str s] r_ := by
 refine ek tt_ok [] 12 [.tmp 2] (fn := Tryz.f132) Tryz.func132 rfl Tryz.call132 ⟨rfl, rfl, by simp⟩ fun K hK => ?_
 simp only [go_sem,reduceIte,zA,zB,zC,zD,zE,zF,reduceCtorEq]
 refine cF (v8 s hs) ?_
 rintro _ rfl
 simp only [go_sem,reduceIte,zA,zB,zC,zD,zE,zF,reduceCtorEq]
 exact hK _ (congrArg bl (by unfold bw; by_cases h : bu s = true <;> simp [h]))
end Go.Proofs.YtnfeacnbgbggfaaGreatDoor
end

section
namespace Go.Proofs.YtnfeacnbgbggfaaGreatDoor
open Go.Eng
open Nat renaming reduceAdd → zA, reduceLT → zB, reduceLeDiff → zC, reduceMul → zD, reduceEqDiff → zE, reduceSub → zF
variable [aE]
set_option maxHeartbeats 4000000
set_option maxRecDepth 100000
theorem Jd (s : ByteArray) (hs : s.size ≤ 1048576) : ∃ r_, (fun w => ∃ nm : ByteArray, w = .bt [str nm, num (bF s), num (bw s)]) r_ ∧ aP Tryz.prog 108 [str s] r_ := by
 refine ek tt_ok [] 31 [.tmp 2, .tmp 3, .tmp 4] (fn := Tryz.f108) Tryz.func108 rfl Tryz.call108 ⟨rfl, rfl, by simp⟩ fun K hK => ?_
 have eE : Tryz.prog.underlying 9 = some .string := by kernel_rfl
 have sl : ∀ (a : ByteArray) (ty : TypeId), cd Tryz.prog (Builtin.len_ #[9] ty) [.sc (.string a)] = some (num a.size) := fun a ty => bE (P := Tryz.prog) (tt := tt) (T := 9) a eE ty
 simp only [sl,go_sem,reduceIte,zA,zB,zC,zD,zE,zF,reduceCtorEq]
 refine cF (CF s hs) ?_
 rintro _ rfl
 simp only [sl,go_sem,reduceIte,zA,zB,zC,zD,zE,zF,reduceCtorEq]
 refine aL (fun eL => ?_) (fun eL => ?_)
 ·have dH : bu s = false := by simp_all
  have e1 : bF s = 0 := by unfold bF; rw [dH]; rfl
  have e2 : bw s = 4 := by unfold bw; rw [dH]; rfl
  simp only [sl,go_sem,reduceIte,zA,zB,zC,zD,zE,zF,reduceCtorEq]
  first
   | exact hK _ ⟨⟨#[]⟩, by rw [e1, e2] <;> rfl⟩
   | exact hK _ ⟨_, by rw [e2] <;> rfl⟩
 ·have bB : bu s = true := by simpa using eL
  have e2 : bw s = 0 := by unfold bw; rw [bB]; rfl
  obtain ⟨j0, Z0, Z5⟩ := I9 bB
  have Nl : IntKind.i64.wrap ((s.size : Int) - 1) = (s.size : Int) - 1 := IntWalk.i64_in _ (by omega)
  simp only [Nl,sl,go_sem,reduceIte,zA,zB,zC,zD,zE,zF,reduceCtorEq]
  refine cF (v8 s hs) ?_
  rintro _ rfl
  simp only [Nl,sl,go_sem,reduceIte,zA,zB,zC,zD,zE,zF,reduceCtorEq]
  refine aL (fun xp => ?_) (fun xp => ?_)
  ·(rw [e2] at xp; simp at xp)
  ·simp only [Nl,sl,go_sem,reduceIte,zA,zB,zC,zD,zE,zF,reduceCtorEq]
   refine bO tt_ok [] [7] 0 [0,2,3,4,5,10,17] (fun vs => (Go.Eng.intOf (vs.headD .undef)).toNat) (fun vs => ∃ i : Nat, vs = [num i] ∧ i < s.size ∧ ∃ j : Nat, j ≤ i ∧ s[j]? = some 47) (by omega) (by simp only [Nl,sl,go_sem,reduceIte,zA,zB,zC,zD,zE,zF,reduceCtorEq]) (⟨s.size - 1, by rw [Int.ofNat_sub (by omega)]; rfl, by omega, j0, by omega, Z5⟩) fun vs hI Z1 cE => ?_
   obtain ⟨i, rfl, hi, j, hj, Qp⟩ := hI
   obtain ⟨c, jD⟩ := bI (s := s) (i := i) hi
   have ca := cx (P := Tryz.prog) s eE .i64 (i : Int) (by omega) (c := c) (show s[((i : Nat) : Int).toNat]? = some c from jD)
   simp only [Nl,ca,sl,go_sem,reduceIte,zA,zB,zC,zD,zE,zF,reduceCtorEq]
   refine aL (fun uQ => ?_) (fun uQ => ?_)
   ·have bD : ¬ (c.toNat : Int) = 47 := by simpa using uQ
    have sv : j ≠ i := fun e => by subst e; rw [jD] at Qp; cases Qp; exact bD rfl
    have hw : IntKind.i64.wrap ((i : Int) - 1) = ((i - 1 : Nat) : Int) := oS _ _ (by omega) (by omega)
    simp only [Nl,ca,hw,sl,go_sem,reduceIte,zA,zB,zC,zD,zE,zF,reduceCtorEq]
    refine cE _ (eR (by omega) (by simp only [Nl,ca,hw,sl,go_sem,reduceIte,zA,zB,zC,zD,zE,zF,reduceCtorEq]) ?_ ?_) <;> simp only [ja,lk,reduceIte,zE]
    ·exact ⟨i - 1, rfl, by omega, j, by omega, Qp⟩
    ·simp only [Go.Eng.intOf,List.headD_cons]; omega
   ·have JI : aQ Tryz.prog (fun a h => Instr.sliceAt 9 a none (some h) none) (.sc (.string s)) (.sc (.int .i64 (i : Int))) = some (.sc (.string (s.extract 0 (i : Int).toNat))) := yH (P := Tryz.prog) (tt := tt) (mem := []) (T := 9) s eE .i64 (i : Int) (by omega) (by omega)
    simp only [Nl,ca,JI,sl,go_sem,reduceIte,zA,zB,zC,zD,zE,zF,reduceCtorEq]
    first
     | exact hK _ ⟨⟨#[]⟩, by rw [e1, e2] <;> rfl⟩
     | exact hK _ ⟨_, by rw [e2] <;> rfl⟩
theorem xO (s : ByteArray) (hs : s.size ≤ 1048576) : ∃ r_, (fun w => w = num (if bu s = true then bF s else -1)) r_ ∧ aP Tryz.prog 73 [str s] r_ := by
 refine ek tt_ok [] 15 [.tmp 2] (fn := Tryz.f73) Tryz.func73 rfl Tryz.call73 ⟨rfl, rfl, by simp⟩ fun K hK => ?_
 simp only [go_sem,reduceIte,zA,zB,zC,zD,zE,zF,reduceCtorEq]
 refine cF (Jd s hs) ?_
 rintro _ ⟨nm, rfl⟩
 simp only [go_sem,reduceIte,zA,zB,zC,zD,zE,zF,reduceCtorEq]
 refine aL (fun jz => ?_) (fun jz => ?_)
 ·simp only [go_sem,reduceIte,zA,zB,zC,zD,zE,zF,reduceCtorEq]
  exact hK _ (congrArg num (by unfold bw at *; by_cases h : bu s = true <;> simp_all))
 ·simp only [go_sem,reduceIte,zA,zB,zC,zD,zE,zF,reduceCtorEq]
  exact hK _ (congrArg num (by unfold bw at *; by_cases h : bu s = true <;> simp_all))
theorem nV (s : ByteArray) : ∃ r_, (fun w => w = bl (jE s)) r_ ∧ aP Tryz.prog 96 [str s] r_ := by
 refine ek tt_ok [] 11 [.tmp 2] (fn := Tryz.f96) Tryz.func96 rfl Tryz.call96 ⟨rfl, rfl, by simp⟩ fun K hK => ?_
 have eE : Tryz.prog.underlying 9 = some .string := by kernel_rfl
 have sl : ∀ (a : ByteArray) (ty : TypeId), cd Tryz.prog (Builtin.len_ #[9] ty) [.sc (.string a)] = some (num a.size) := fun a ty => bE (P := Tryz.prog) (tt := tt) (T := 9) a eE ty
 simp only [sl,go_sem,reduceIte,zA,zB,zC,zD,zE,zF,reduceCtorEq]
 refine aL (fun ra => ?_) (fun ra => ?_)
 ·simp only [sl,go_sem,reduceIte,zA,zB,zC,zD,zE,zF,reduceCtorEq]
  exact hK _ (congrArg bl (by unfold jE; simp_all <;> (intros; omega)))
 ·simp only [sl,go_sem,reduceIte,zA,zB,zC,zD,zE,zF,reduceCtorEq]
  exact hK _ (congrArg bl (by unfold jE; simp_all <;> (intros; omega)))
end Go.Proofs.YtnfeacnbgbggfaaGreatDoor
end

section
namespace Go.Proofs.YtnfeacnbgbggfaaGreatDoor
open Go.Eng
open Nat renaming reduceAdd → zA, reduceLT → zB, reduceLeDiff → zC, reduceMul → zD, reduceEqDiff → zE, reduceSub → zF
variable [aE]
set_option maxHeartbeats 4000000
set_option maxRecDepth 100000
theorem Mm {s : ByteArray} (h : bu s = true) : 0 ≤ bF s := by
  unfold bF; rw [if_pos h]
  unfold bu at h
  simp only [Bool.and_eq_true] at h
  exact xN h.1.1.1
theorem Je {s : ByteArray} (h : (if bu s = true then bF s else -1) < 0) : bw s = 4 := by
  unfold bw
  by_cases hm : bu s = true
  · rw [if_pos hm] at h; have := Mm hm; omega
  · rw [if_neg hm]
theorem Jf {s : ByteArray} (h : ¬ (if bu s = true then bF s else -1) < 0) : bw s = 0 ∧ (if bu s = true then bF s else -1) = bF s := by
  unfold bw
  by_cases hm : bu s = true
  · rw [if_pos hm, if_pos hm]; exact ⟨rfl, rfl⟩
  · rw [if_neg hm] at h; exact absurd (by decide) h
theorem TZ {q : Rq} {b : Option Rq} (h : bw q.path = 4) : mE q b = 4 := by unfold mE; rw [if_pos (by rw [h]; decide)]
theorem Nn {q : Rq} {b : Option Rq} (h : bw q.path = 0) (h2 : (decide (q.set.length = 0) || !decide (q.set = canon q.set)) = true) : mE q b = 1 := by
  unfold mE
  rw [if_neg (by rw [h]; simp), h2]; simp
theorem Jg {q p : Rq} (h : bw q.path = 0) (h2 : (decide (q.set.length = 0) || !decide (q.set = canon q.set)) = false) : mE q (some p) = if JJ q.path p.path = true then 1 else 0 := by
  unfold mE
  rw [if_neg (by rw [h]; simp), h2]; simp
theorem Np {q : Rq} (h : bw q.path = 0) (h2 : (decide (q.set.length = 0) || !decide (q.set = canon q.set)) = false) : mE q none = 0 := by
  unfold mE
  rw [if_neg (by rw [h]; simp), h2]; simp
theorem T0 {r : Rl} (h : bw r.path = 4) : fY r = 4 := by unfold fY; rw [if_pos (by rw [h]; decide)]
theorem Nq {r : Rl} (h : bw r.path = 0) (h2 : (!r.ay.ok || !decide (r.ay.mj = bF r.path)) = true) : fY r = 2 := by unfold fY; rw [if_neg (by rw [h]; simp), if_pos h2]
theorem T1 {r : Rl} (h : bw r.path = 0) (h2 : (!r.ay.ok || !decide (r.ay.mj = bF r.path)) = false) (h3 : fw r.reqs ≠ 0) : fY r = fw r.reqs := by unfold fY; rw [if_neg (by rw [h]; simp), if_neg (by rw [h2]; simp), if_pos h3]
theorem D9 {r : Rl} (h : bw r.path = 0) (h2 : (!r.ay.ok || !decide (r.ay.mj = bF r.path)) = false) (h3 : fw r.reqs = 0) : fY r = if (jE r.ar && (jE r.ei && jE r.ce)) = true then 0 else 1 := by unfold fY; rw [if_neg (by rw [h]; simp), if_neg (by rw [h2]; simp), if_neg (by rw [h3]; simp)]
theorem Mn (l : List Rq) (hl : l.length ≤ 1048576) (hb : ∀ q ∈ l, tH q) : ∃ r_, (fun w => w = num (fw l)) r_ ∧ aP Tryz.prog 95 [ah l] r_ := by
  refine ek tt_ok [] 58 [.tmp 2] (fn := Tryz.f95) Tryz.func95 rfl Tryz.call95 ⟨rfl, rfl, by simp⟩ fun K hK => ?_
  simp only [ah]
  simp only [List.length_map,aZ,go_sem,reduceIte,zA,zB,zC,zD,zE,zF,reduceCtorEq]
  refine aL (fun BO => ?_) (fun BO => ?_)
  · skip
    have ax : 7 = fw l := by unfold fw; rw [if_pos (by have := of_decide_eq_true BO; omega)]
    simp only [List.length_map,aZ,go_sem,reduceIte,zA,zB,zC,zD,zE,zF,reduceCtorEq]
    exact hK _ (congrArg num ax)
  · skip
    simp only [List.length_map,aZ,go_sem,reduceIte,zA,zB,zC,zD,zE,zF,reduceCtorEq]
    refine bO tt_ok [] [3] 0 [0,6] (fun vs => ((l.length : Int) - Go.Eng.intOf (vs.headD .undef)).toNat) (fun vs => ∃ i : Nat, vs = [num i] ∧ i ≤ l.length ∧ eM none l = eM (cn l i) (l.drop i)) (by omega) (by simp only [List.length_map,aZ,go_sem,reduceIte,zA,zB,zC,zD,zE,zF,reduceCtorEq]) (⟨0, rfl, Nat.zero_le _, rfl⟩) fun vs hI Z1 cE => ?_
    obtain ⟨i, rfl, hi, lq⟩ := hI
    simp only [List.length_map,aZ,go_sem,reduceIte,zA,zB,zC,zD,zE,zF,reduceCtorEq]
    refine aL (fun eL => ?_) (fun eL => ?_)
    · skip
      have aF : i < l.length := by simpa using eL
      have hw := aC i (by omega)
      obtain ⟨x, hx⟩ : ∃ x, l[i]? = some x := ⟨_, List.getElem?_eq_getElem aF⟩
      have Lu := hb x (List.mem_of_getElem? hx)
      simp only [hw,List.getElem?_map,hx,ak,al,List.length_map,aZ,go_sem,reduceIte,zA,zB,zC,zD,zE,zF,reduceCtorEq]
      refine cF (xO x.path Lu.1) ?_
      rintro _ rfl
      simp only [hw,List.getElem?_map,hx,ak,al,List.length_map,aZ,go_sem,reduceIte,zA,zB,zC,zD,zE,zF,reduceCtorEq]
      refine aL (fun tz => ?_) (fun tz => ?_)
      · skip
        have hE : mE x (cn l i) = 4 := TZ (Je (of_decide_eq_true tz))
        have ax : 4 = fw l := by unfold fw; rw [if_neg (by have := of_decide_eq_false BO; omega), lq, lW hx (by rw [hE]; decide), hE]
        simp only [hw,List.getElem?_map,hx,ak,al,List.length_map,aZ,go_sem,reduceIte,zA,zB,zC,zD,zE,zF,reduceCtorEq]
        exact hK _ (congrArg num ax)
      · skip
        have CG := (Jf (of_decide_eq_false tz)).1
        simp only [hw,List.getElem?_map,hx,ak,al,List.length_map,aZ,go_sem,reduceIte,zA,zB,zC,zD,zE,zF,reduceCtorEq]
        refine bH tt_ok aK [⟨.n, 0, [], [], []⟩, ⟨.n, 0, [], [], []⟩, ⟨.r, 0, [], [], []⟩, ⟨.n, 0, [], [], []⟩, ⟨.r, 0, [], [], []⟩, ⟨.n, 0, [], [], []⟩, ⟨.n, 0, [], [], []⟩, ⟨.n, 0, [], [], []⟩, ⟨.n, 0, [], [], []⟩, ⟨.n, 0, [], [], []⟩, ⟨.r, 0, [], [], []⟩, ⟨.n, 0, [], [], []⟩, ⟨.r, 0, [], [], []⟩, ⟨.n, 0, [], [], []⟩, ⟨.n, 0, [], [], []⟩, ⟨.r, 0, [], [], []⟩, ⟨.n, 0, [], [], []⟩, ⟨.r, 0, [], [], []⟩, ⟨.n, 0, [], [], []⟩, ⟨.n, 0, [], [], []⟩, ⟨.n, 0, [], [], []⟩, ⟨.n, 0, [], [], []⟩] 0 (by kernel_rfl) ?_
        simp only [hw,List.getElem?_map,hx,ak,al,List.length_map,aZ,go_sem,reduceIte,zA,zB,zC,zD,zE,zF,reduceCtorEq]
        refine aL (fun Jh => ?_) (fun Jh => ?_)
        · skip
          have hz : x.set.length = 0 := by have := of_decide_eq_true Jh; omega
          have Mo : (decide (x.set.length = 0) || !decide (x.set = canon x.set)) = true := by
            first
              | (rw [hz]; rfl)
              | (rw [show decide (x.set = canon x.set) = false by simpa using mS]; simp)
          have hE : mE x (cn l i) = 1 := Nn CG Mo
          have ax : 1 = fw l := by unfold fw; rw [if_neg (by have := of_decide_eq_false BO; omega), lq, lW hx (by rw [hE]; decide), hE]
          simp only [hw,List.getElem?_map,hx,ak,al,List.length_map,aZ,go_sem,reduceIte,zA,zB,zC,zD,zE,zF,reduceCtorEq]
          exact hK _ (congrArg num ax)
        · skip
          simp only [hw,List.getElem?_map,hx,ak,al,List.length_map,aZ,go_sem,reduceIte,zA,zB,zC,zD,zE,zF,reduceCtorEq]
          refine cG (by have h := FL x.set Lu.2; simp only [al] at h; exact h) ?_
          rintro _ rfl
          simp only [hw,List.getElem?_map,hx,ak,al,List.length_map,aZ,go_sem,reduceIte,zA,zB,zC,zD,zE,zF,reduceCtorEq]
          refine cG (by have h := xm x.set (canon x.set) Lu.2; simp only [al] at h; exact h) ?_
          rintro _ rfl
          simp only [hw,List.getElem?_map,hx,ak,al,List.length_map,aZ,go_sem,reduceIte,zA,zB,zC,zD,zE,zF,reduceCtorEq]
          refine aL (fun mS => ?_) (fun mS => ?_)
          · skip
            have Mo : (decide (x.set.length = 0) || !decide (x.set = canon x.set)) = true := by
              first
                | (rw [hz]; rfl)
                | (rw [show decide (x.set = canon x.set) = false by simpa using mS]; simp)
            have hE : mE x (cn l i) = 1 := Nn CG Mo
            have ax : 1 = fw l := by unfold fw; rw [if_neg (by have := of_decide_eq_false BO; omega), lq, lW hx (by rw [hE]; decide), hE]
            simp only [hw,List.getElem?_map,hx,ak,al,List.length_map,aZ,go_sem,reduceIte,zA,zB,zC,zD,zE,zF,reduceCtorEq]
            exact hK _ (congrArg num ax)
          · skip
            have hz : x.set.length ≠ 0 := by have := of_decide_eq_false Jh; omega
            have Mo : (decide (x.set.length = 0) || !decide (x.set = canon x.set)) = false := by rw [decide_eq_false hz, show decide (x.set = canon x.set) = true by simpa using mS]; rfl
            simp only [hw,List.getElem?_map,hx,ak,al,List.length_map,aZ,go_sem,reduceIte,zA,zB,zC,zD,zE,zF,reduceCtorEq]
            refine bH tt_ok aK [⟨.n, 0, [], [], []⟩, ⟨.n, 0, [], [], []⟩, ⟨.n, 0, [], [], []⟩, ⟨.n, 0, [], [], []⟩, ⟨.n, 0, [], [], []⟩, ⟨.r, 0, [], [], []⟩, ⟨.n, 0, [], [], []⟩, ⟨.r, 0, [], [], []⟩, ⟨.n, 0, [], [], []⟩, ⟨.n, 0, [], [], []⟩, ⟨.n, 0, [], [], []⟩, ⟨.r, 0, [], [], []⟩, ⟨.n, 0, [], [], []⟩, ⟨.r, 0, [], [], []⟩, ⟨.n, 0, [], [], []⟩, ⟨.n, 0, [], [], []⟩] 0 (by kernel_rfl) ?_
            simp only [hw,List.getElem?_map,hx,ak,al,List.length_map,aZ,go_sem,reduceIte,zA,zB,zC,zD,zE,zF,reduceCtorEq]
            refine aL (fun xP => ?_) (fun xP => ?_)
            · skip
              have J4 : i ≠ 0 := by have := of_decide_eq_true xP; omega
              obtain ⟨p, hp⟩ : ∃ p, l[i - 1]? = some p := ⟨_, List.getElem?_eq_getElem (by omega)⟩
              have Pt : cn l i = some p := by rw [vL J4, hp]
              have gq : IntKind.i64.wrap ((i : Int) - 1) = ((i - 1 : Nat) : Int) := oS _ _ (by omega) (by omega)
              simp only [hw,List.getElem?_map,hx,ak,al,gq,hp,List.length_map,aZ,go_sem,reduceIte,zA,zB,zC,zD,zE,zF,reduceCtorEq]
              refine aL (fun rE => ?_) (fun rE => ?_)
              · skip
                have hE : mE x (cn l i) = 1 := by rw [Pt, Jg CG Mo, if_pos (by unfold JJ vF; rw [← bU]; exact rE)]
                have ax : 1 = fw l := by unfold fw; rw [if_neg (by have := of_decide_eq_false BO; omega), lq, lW hx (by rw [hE]; decide), hE]
                simp only [hw,List.getElem?_map,hx,ak,al,gq,hp,List.length_map,aZ,go_sem,reduceIte,zA,zB,zC,zD,zE,zF,reduceCtorEq]
                exact hK _ (congrArg num ax)
              · skip
                have JH : mE x (cn l i) = 0 := by
                  first
                    | (rw [Pt, Jg CG Mo, if_neg (by unfold JJ vF; rw [← bU]; rw [rE]; simp)]; done)
                    | (have h0 : i = 0 := by have := of_decide_eq_false xP; omega
                       rw [h0]; exact Np CG Mo)
                simp only [hw,List.getElem?_map,hx,ak,al,gq,hp,List.length_map,aZ,go_sem,reduceIte,zA,zB,zC,zD,zE,zF,reduceCtorEq]
                refine cE _ (eR (by omega) (by simp only [hw,List.getElem?_map,hx,ak,al,gq,hp,List.length_map,aZ,go_sem,reduceIte,zA,zB,zC,zD,zE,zF,reduceCtorEq]) ?_ ?_) <;> simp only [ja,lk,reduceIte,zE]
                · exact ⟨i + 1, rfl, aF, by rw [lq]; exact tI hx JH⟩
                · simp only [Go.Eng.intOf,List.headD_cons]; omega
            · skip
              have JH : mE x (cn l i) = 0 := by
                first
                  | (rw [Pt, Jg CG Mo, if_neg (by unfold JJ vF; rw [← bU]; rw [rE]; simp)]; done)
                  | (have h0 : i = 0 := by have := of_decide_eq_false xP; omega
                     rw [h0]; exact Np CG Mo)
              simp only [hw,List.getElem?_map,hx,ak,al,List.length_map,aZ,go_sem,reduceIte,zA,zB,zC,zD,zE,zF,reduceCtorEq]
              refine cE _ (eR (by omega) (by simp only [hw,List.getElem?_map,hx,ak,al,List.length_map,aZ,go_sem,reduceIte,zA,zB,zC,zD,zE,zF,reduceCtorEq]) ?_ ?_) <;> simp only [ja,lk,reduceIte,zE]
              · exact ⟨i + 1, rfl, aF, by rw [lq]; exact tI hx JH⟩
              · simp only [Go.Eng.intOf,List.headD_cons]; omega
    · skip
      have dg : ¬ i < l.length := by simpa using eL
      have ax : 0 = fw l := by unfold fw; rw [if_neg (by have := of_decide_eq_false BO; omega), lq, List.drop_eq_nil_of_le (by omega)]; rfl
      simp only [List.length_map,aZ,go_sem,reduceIte,zA,zB,zC,zD,zE,zF,reduceCtorEq]
      exact hK _ (congrArg num ax)
theorem rl (r : Rl) (hb : xV r) : ∃ r_, (fun w => w = num (fY r)) r_ ∧ aP Tryz.prog 59 [af r] r_ := by
  refine ek tt_ok [] 43 [.tmp 2] (fn := Tryz.f59) Tryz.func59 rfl Tryz.call59 ⟨rfl, rfl, by simp⟩ fun K hK => ?_
  simp only [af,ag,ah]
  obtain ⟨qG, sC, QS⟩ := hb
  simp only [go_sem,reduceIte,zA,zB,zC,zD,zE,zF,reduceCtorEq]
  refine cF (xO r.path qG) ?_
  rintro _ rfl
  obtain ⟨M, hM⟩ : ∃ M, M = (if bu r.path = true then bF r.path else -1) := ⟨_, rfl⟩
  rw [← hM]
  simp only [go_sem,reduceIte,zA,zB,zC,zD,zE,zF,reduceCtorEq]
  refine aL (fun la => ?_) (fun la => ?_)
  · skip
    have ax : 4 = fY r := (T0 (Je (by rw [← hM]; exact of_decide_eq_true la))).symm
    simp only [go_sem,reduceIte,zA,zB,zC,zD,zE,zF,reduceCtorEq]
    exact hK _ (congrArg num ax)
  · skip
    obtain ⟨CG, UL⟩ := Jf (s := r.path) (by rw [← hM]; exact of_decide_eq_false la)
    rw [← hM] at UL
    simp only [go_sem,reduceIte,zA,zB,zC,zD,zE,zF,reduceCtorEq]
    refine cF (by have h := E9 r.ay; simp only [dI] at h; exact h) ?_
    rintro _ rfl
    simp only [go_sem,reduceIte,zA,zB,zC,zD,zE,zF,reduceCtorEq]
    refine aL (fun tJ => ?_) (fun tJ => ?_)
    · skip
      have hv : (!r.ay.ok || !decide (r.ay.mj = bF r.path)) = true := by rw [← UL]; simp_all
      have ax : 2 = fY r := (Nq CG hv).symm
      simp only [go_sem,reduceIte,zA,zB,zC,zD,zE,zF,reduceCtorEq]
      exact hK _ (congrArg num ax)
    · skip
      simp only [go_sem,reduceIte,zA,zB,zC,zD,zE,zF,reduceCtorEq]
      refine aL (fun H9 => ?_) (fun H9 => ?_)
      · skip
        have hv : (!r.ay.ok || !decide (r.ay.mj = bF r.path)) = true := by rw [← UL]; simp_all
        have ax : 2 = fY r := (Nq CG hv).symm
        simp only [go_sem,reduceIte,zA,zB,zC,zD,zE,zF,reduceCtorEq]
        exact hK _ (congrArg num ax)
      · skip
        have hv : (!r.ay.ok || !decide (r.ay.mj = bF r.path)) = false := by rw [← UL]; simp_all
        simp only [go_sem,reduceIte,zA,zB,zC,zD,zE,zF,reduceCtorEq]
        refine cF (by have h := Mn r.reqs sC QS; simp only [ah] at h; exact h) ?_
        rintro _ rfl
        simp only [go_sem,reduceIte,zA,zB,zC,zD,zE,zF,reduceCtorEq]
        refine aL (fun fu => ?_) (fun fu => ?_)
        · skip
          have ax : fw r.reqs = fY r := (T1 CG hv (by simpa using fu)).symm
          simp only [go_sem,reduceIte,zA,zB,zC,zD,zE,zF,reduceCtorEq]
          exact hK _ (congrArg num ax)
        · skip
          simp only [go_sem,reduceIte,zA,zB,zC,zD,zE,zF,reduceCtorEq]
          refine cF (nV _) ?_
          rintro _ rfl
          simp only [go_sem,reduceIte,zA,zB,zC,zD,zE,zF,reduceCtorEq]
          refine aL (fun T2 => ?_) (fun T2 => ?_)
          · skip
            have hd : (jE r.ar && (jE r.ei && jE r.ce)) = false := by simp_all
            have ax : 1 = fY r := by rw [D9 CG hv (by simpa using fu), hd]; rfl
            simp only [go_sem,reduceIte,zA,zB,zC,zD,zE,zF,reduceCtorEq]
            exact hK _ (congrArg num ax)
          · skip
            simp only [go_sem,reduceIte,zA,zB,zC,zD,zE,zF,reduceCtorEq]
            refine cF (nV _) ?_
            rintro _ rfl
            simp only [go_sem,reduceIte,zA,zB,zC,zD,zE,zF,reduceCtorEq]
            refine aL (fun Qq => ?_) (fun Qq => ?_)
            · skip
              have hd : (jE r.ar && (jE r.ei && jE r.ce)) = false := by simp_all
              have ax : 1 = fY r := by rw [D9 CG hv (by simpa using fu), hd]; rfl
              simp only [go_sem,reduceIte,zA,zB,zC,zD,zE,zF,reduceCtorEq]
              exact hK _ (congrArg num ax)
            · skip
              simp only [go_sem,reduceIte,zA,zB,zC,zD,zE,zF,reduceCtorEq]
              refine cF (nV _) ?_
              rintro _ rfl
              simp only [go_sem,reduceIte,zA,zB,zC,zD,zE,zF,reduceCtorEq]
              refine aL (fun Pp => ?_) (fun Pp => ?_)
              · skip
                have hd : (jE r.ar && (jE r.ei && jE r.ce)) = false := by simp_all
                have ax : 1 = fY r := by rw [D9 CG hv (by simpa using fu), hd]; rfl
                simp only [go_sem,reduceIte,zA,zB,zC,zD,zE,zF,reduceCtorEq]
                exact hK _ (congrArg num ax)
              · skip
                have hd : (jE r.ar && (jE r.ei && jE r.ce)) = true := by simp_all
                have ax : 0 = fY r := by rw [D9 CG hv (by simpa using fu), hd]; rfl
                simp only [go_sem,reduceIte,zA,zB,zC,zD,zE,zF,reduceCtorEq]
                exact hK _ (congrArg num ax)
end Go.Proofs.YtnfeacnbgbggfaaGreatDoor
end

section
namespace Go.Proofs.YtnfeacnbgbggfaaGreatDoor
open Go.Eng
open Nat renaming reduceAdd → zA, reduceLT → zB, reduceLeDiff → zC, reduceMul → zD, reduceEqDiff → zE, reduceSub → zF
variable [aE]
set_option maxHeartbeats 4000000
set_option maxRecDepth 100000
theorem Ji (T : TypeId) (x y : Operand) (k : IntKind) (a b : Int) (hb : b ≠ 0) : aQ Tryz.prog (fq .rem T x y) (.sc (.int k a)) (.sc (.int k b)) = some (.sc (.int k (a.tmod b))) := by
 simp [aQ, bp, fq, binOp, Op.intDiv, eqGuard, aD, dj, bind, pure, Sem.bind, hb]
theorem Hj (T : TypeId) (x y : Operand) (k : IntKind) (a b : Int) (hb : b ≠ 0) : aQ Tryz.prog (fq .quo T x y) (.sc (.int k a)) (.sc (.int k b)) = some (.sc (.int k (k.wrap (a.tdiv b)))) := by
 simp [aQ, bp, fq, binOp, Op.intDiv, eqGuard, aD, dj, bind, pure, Sem.bind, hb]
theorem Jj (n : Nat) : (n : Int).tmod 128 = ((n % 128 : Nat) : Int) := rfl
theorem Qr (n : Nat) (h : n < 2 ^ 64) : IntKind.u64.wrap ((n : Int).tdiv 128) = ((n / 128 : Nat) : Int) := by
 rw [show (n : Int).tdiv 128 = ((n / 128 : Nat) : Int) from rfl]; exact wrap64 _ (by omega)
theorem T3 (n : Nat) : IntKind.u8.wrap (IntKind.u8.wrap ((n % 128 : Nat) : Int) + 128) = ((UInt8.ofNat (n % 128 + 128)).toNat : Int) := by
 rw [DF, show n % 128 % 256 = n % 128 by omega, show (((n % 128 : Nat) : Int) + 128) = ((n % 128 + 128 : Nat) : Int) by omega, DF, gJ (by omega)]; omega
theorem pg (n : Nat) (hn : n < 2 ^ 64) : aP Tryz.prog 97 [aI n] (str (bs (uv n))) := by
 refine QZ tt_ok [] 22 [.tmp 2] (fn := Tryz.f97) Tryz.func97 rfl Tryz.call97 ⟨rfl, rfl, by simp⟩ fun K hK => ?_
 have tC : Tryz.prog.underlying 5 = some (.int .u8) := by kernel_rfl
 have cL : Tryz.prog.underlying 136 = some (.int .u64) := by kernel_rfl
 have rU : Tryz.prog.underlying 3 = some (.int .i64) := by kernel_rfl
 have xW := fun (k : IntKind) (n : Int) => bJ (P := Tryz.prog) (src := 136) (dst := 5) cL tC k n
 have xX := fun (k : IntKind) (n : Int) => bJ (P := Tryz.prog) (src := 3) (dst := 136) rU cL k n
 have Zx := iS hn
 simp only [aI,xW,aI,List.length_map,go_sem,reduceIte,zA,zB,zC,zD,zE,zF,reduceCtorEq]
 refine cT tt_ok [] (fun a : List UInt8 × Nat => [(0, aI a.2), (3, .ms 0 a.1.length 0 a.1.length)]) (fun a : List UInt8 × Nat => [.rows a.1.length 1 (a.1.map Fh)]) (fun a => a.2) (fun a => a.1 ++ uv a.2 = uv n ∧ a.2 < 2 ^ 64) (([], n)) 1 (bd (by omega) (by simp only [aI,xW,aI,List.length_map,List.map_nil,List.length_nil,aI,Int.cast_ofNat_Int,go_sem,reduceIte,zA,zB,zC,zD,zE,zF,reduceCtorEq] <;> rfl)) (⟨rfl, hn⟩) ?_
 rintro ⟨p, m⟩ ⟨hp, hm⟩
 try dsimp only at hp hm
 try dsimp only [aI]
 have DG : p.length + (uv m).length ≤ 10 := by have := congrArg List.length hp; rw [List.length_append] at this; omega
 have fS : p.length + 1 ≤ 34359738368 := by omega
 intro Z1 cE
 simp only [aI,xW,aI,List.length_map,go_sem,reduceIte,zA,zB,zC,zD,zE,zF,reduceCtorEq]
 refine aL (fun BO => ?_) (fun BO => ?_)
 ·have J0 : ¬ m < 128 := by have := of_decide_eq_true BO; omega
  have uu := fun x y => (Ji 136 x y .u64 (m : Int) 128 (by decide)).trans (by rw [Jj m])
  have Z6 := fun x y => (Hj 136 x y .u64 (m : Int) 128 (by decide)).trans (by rw [Qr m hm])
  have nk := T3 m
  have fJ : ∀ x : Int, bM [V.sc (.int .u8 x)] 0 1 = true := fun x => rfl
  simp only [aI,uu,Z6,nk,fJ,fS,List.length_cons,List.length_nil,Nat.zero_add,xW,aI,List.length_map,go_sem,reduceIte,zA,zB,zC,zD,zE,zF,reduceCtorEq]
  refine cE _ ⟨(p ++ [UInt8.ofNat (m % 128 + 128)], m / 128), ?_, ?_, bd (by omega) (by (simp [pV, lk, bY, cQ, ai, aB, List.map_append, Fh, aI]))⟩
  ·refine ⟨?_, by dsimp only; omega⟩
   rw [← hp, tq J0, List.append_assoc]; rfl
  ·dsimp only; omega
 ·have AK : m < 128 := by have := of_decide_eq_false BO; omega
  have ke := Nc m AK
  have fJ : ∀ x : Int, bM [V.sc (.int .u8 x)] 0 1 = true := fun x => rfl
  have oa : p ++ [UInt8.ofNat m] = uv n := by rw [← hp, jR AK]
  have F9 : ∀ mem : List au, mem[0]? = some (.rows (p.length + 1) 1 (p.map Fh ++ [V.sc (.int .u8 ((UInt8.ofNat m).toNat : Int))])) → jG Tryz.prog mem 159 9 (.ms 0 (p.length + 1) 0 (p.length + 1)) = some (str (bs (uv n))) := fun mem hm => by
   have h := DE (b := 0) (v := p.length + 1) (p ++ [UInt8.ofNat m]) (mem := mem) (by rw [hm]; simp [Fh])
   rw [oa] at h
   rw [← h, ← oa, List.length_append]; rfl
  simp only [aI,ke,fJ,fS,F9,List.length_append,List.length_cons,List.length_nil,Nat.zero_add,xW,aI,List.length_map,go_sem,reduceIte,zA,zB,zC,zD,zE,zF,reduceCtorEq]
  exact hK _ rfl
theorem eN (s : ByteArray) (hs : s.size ≤ 1048576) : ∃ r_, (fun w => w = str (bs (eT s))) r_ ∧ aP Tryz.prog 60 [str s] r_ := by
 refine ek tt_ok [] 9 [.tmp 2] (fn := Tryz.f60) Tryz.func60 rfl Tryz.call60 ⟨rfl, rfl, by simp⟩ fun K hK => ?_
 have eE : Tryz.prog.underlying 9 = some .string := by kernel_rfl
 have sl : ∀ (a : ByteArray) (ty : TypeId), cd Tryz.prog (Builtin.len_ #[9] ty) [.sc (.string a)] = some (num a.size) := fun a ty => bE (P := Tryz.prog) (tt := tt) (T := 9) a eE ty
 have tC : Tryz.prog.underlying 5 = some (.int .u8) := by kernel_rfl
 have cL : Tryz.prog.underlying 136 = some (.int .u64) := by kernel_rfl
 have rU : Tryz.prog.underlying 3 = some (.int .i64) := by kernel_rfl
 have xW := fun (k : IntKind) (n : Int) => bJ (P := Tryz.prog) (src := 136) (dst := 5) cL tC k n
 have xX := fun (k : IntKind) (n : Int) => bJ (P := Tryz.prog) (src := 3) (dst := 136) rU cL k n
 have hw := wrap64 s.size (by omega)
 have zS := fun x y => kB Tryz.prog 9 x y (bs (uv s.size)) s (by have := iS (n := s.size) (by omega); rw [ib, show IntKind.i64.max = 9223372036854775807 from rfl]; omega)
 have H6 := DD s
 simp only [sl,xX,hw,zS,H6,go_sem,reduceIte,zA,zB,zC,zD,zE,zF,reduceCtorEq]
 refine cF (⟨_, rfl, pg s.size (by omega)⟩) ?_
 rintro _ rfl
 simp only [sl,xX,hw,zS,H6,go_sem,reduceIte,zA,zB,zC,zD,zE,zF,reduceCtorEq]
 exact hK _ rfl
theorem FQ (n : Nat) (hn : n < 2 ^ 63) : ∃ r_, (fun w => w = .bt [str (bs (uv n)), num 0]) r_ ∧ aP Tryz.prog 98 [num n] r_ := by
 refine ek tt_ok [] 9 [.tmp 2, .tmp 3] (fn := Tryz.f98) Tryz.func98 rfl Tryz.call98 ⟨rfl, rfl, by simp⟩ fun K hK => ?_
 have tC : Tryz.prog.underlying 5 = some (.int .u8) := by kernel_rfl
 have cL : Tryz.prog.underlying 136 = some (.int .u64) := by kernel_rfl
 have rU : Tryz.prog.underlying 3 = some (.int .i64) := by kernel_rfl
 have xW := fun (k : IntKind) (n : Int) => bJ (P := Tryz.prog) (src := 136) (dst := 5) cL tC k n
 have xX := fun (k : IntKind) (n : Int) => bJ (P := Tryz.prog) (src := 3) (dst := 136) rU cL k n
 have hw := wrap64 n (by omega)
 simp only [xX,hw,go_sem,reduceIte,zA,zB,zC,zD,zE,zF,reduceCtorEq]
 refine aL (fun Li => ?_) (fun Li => ?_)
 ·exact absurd (of_decide_eq_true Li) (by omega)
 ·simp only [xX,hw,go_sem,reduceIte,zA,zB,zC,zD,zE,zF,reduceCtorEq]
  refine cF (⟨_, rfl, pg n (by omega)⟩) ?_
  rintro _ rfl
  simp only [xX,hw,go_sem,reduceIte,zA,zB,zC,zD,zE,zF,reduceCtorEq]
  exact hK _ rfl
theorem FR (n : Nat) (hn : n < 2 ^ 63) : ∃ r_, (fun w => w = str (bs (uv n))) r_ ∧ aP Tryz.prog 61 [num n] r_ := by
 refine ek tt_ok [] 11 [.tmp 2] (fn := Tryz.f61) Tryz.func61 rfl Tryz.call61 ⟨rfl, rfl, by simp⟩ fun K hK => ?_
 simp only [go_sem,reduceIte,zA,zB,zC,zD,zE,zF,reduceCtorEq]
 refine cF (FQ n hn) ?_
 rintro _ rfl
 simp only [go_sem,reduceIte,zA,zB,zC,zD,zE,zF,reduceCtorEq]
 exact hK _ rfl
end Go.Proofs.YtnfeacnbgbggfaaGreatDoor
end

section
namespace Go.Proofs.YtnfeacnbgbggfaaGreatDoor
open Go.Eng
open Nat renaming reduceAdd → zA, reduceLT → zB, reduceLeDiff → zC, reduceMul → zD, reduceEqDiff → zE, reduceSub → zF
variable [aE]
set_option maxHeartbeats 4000000
set_option maxRecDepth 100000
def Rg (s : ByteArray) (a : Nat) : V := match eP s a with | some (n, j) => .bt [num n, num j, bl true] | none => .bt [num 0, num 0, bl false]
theorem qq {s : ByteArray} {a : Nat} (h : eP s a = none) : Rg s a = .bt [num 0, num 0, bl false] := by unfold Rg; rw [h]
theorem ph {s : ByteArray} {a n j : Nat} (h : eP s a = some (n, j)) : Rg s a = .bt [num n, num j, bl true] := by unfold Rg; rw [h]
theorem nW {s : ByteArray} {a : Nat} (h : lg s a = none) : Fm s a = .bt [str ⟨#[]⟩, num 0, bl false] := by unfold Fm; rw [h]
theorem mN {s t : ByteArray} {a j : Nat} (h : lg s a = some (t, j)) : Fm s a = .bt [str t, num j, bl true] := by unfold Fm; rw [h]
theorem Qs {s : ByteArray} {a : Nat} (h : eP s a = none) : lg s a = none := by unfold lg; rw [h]
theorem Mp {s : ByteArray} {a n j : Nat} (h : eP s a = some (n, j)) (hb : ¬ n ≤ s.size - j) : lg s a = none := by unfold lg; rw [h]; exact if_neg hb
theorem Mq {s : ByteArray} {a n j : Nat} (h : eP s a = some (n, j)) (hb : n ≤ s.size - j) : lg s a = some (s.extract j (j + n), j + n) := by unfold lg; rw [h]; exact if_pos hb
theorem Qt {s : ByteArray} {a : Nat} (h : bG (from_ s a) 0 0 = none) : eP s a = none := by unfold eP; rw [h]
theorem Mr {s : ByteArray} {a n k : Nat} (h : bG (from_ s a) 0 0 = some (n, k)) (hb : ¬ n < 9223372036854775808) : eP s a = none := by unfold eP; rw [h]; exact if_neg hb
theorem Ms {s : ByteArray} {a n k : Nat} (h : bG (from_ s a) 0 0 = some (n, k)) (hb : n < 9223372036854775808) : eP s a = some (n, a + k) := by unfold eP; rw [h]; exact if_pos hb
theorem Jk (s : ByteArray) (hs : s.size ≤ 1073741824) (a : Nat) (ha : a ≤ s.size) : ∃ r_, tO s a r_ ∧ aP Tryz.prog 107 [str s, num a] r_ := by
 refine ek tt_ok [] 58 [.tmp 4, .tmp 5, .tmp 6] (fn := Tryz.f107) Tryz.func107 rfl Tryz.call107 ⟨rfl, rfl, by simp⟩ fun K hK => ?_
 have eE : Tryz.prog.underlying 9 = some .string := by kernel_rfl
 have sl : ∀ (a : ByteArray) (ty : TypeId), cd Tryz.prog (Builtin.len_ #[9] ty) [.sc (.string a)] = some (num a.size) := fun a ty => bE (P := Tryz.prog) (tt := tt) (T := 9) a eE ty
 have tC : Tryz.prog.underlying 5 = some (.int .u8) := by kernel_rfl
 have cL : Tryz.prog.underlying 136 = some (.int .u64) := by kernel_rfl
 have rU : Tryz.prog.underlying 3 = some (.int .i64) := by kernel_rfl
 have xW := fun (k : IntKind) (n : Int) => bJ (P := Tryz.prog) (src := 136) (dst := 5) cL tC k n
 have xX := fun (k : IntKind) (n : Int) => bJ (P := Tryz.prog) (src := 3) (dst := 136) rU cL k n
 have ki := fun (k : IntKind) (n : Int) => bJ (P := Tryz.prog) (src := 5) (dst := 136) tC cL k n
 simp only [aI,sl,ki,aI,go_sem,reduceIte,zA,zB,zC,zD,zE,zF,reduceCtorEq]
 refine cT tt_ok [] (fun b : Nat × Nat => [(0, str s), (1, num a), (7, aI b.2), (8, num b.1)]) (fun b : Nat × Nat => []) (fun b => 10 - b.1) (fun b => b.1 ≤ 10 ∧ a + b.1 ≤ s.size ∧ b.2 < 2 ^ 64 ∧ (b.1 ≤ 9 → b.2 < 2 ^ (7 * b.1)) ∧ bG (from_ s a) 0 0 = bG (from_ s (a + b.1)) b.1 b.2) ((0, 0)) 0 (bd (by omega) (by simp only [aI,sl,ki,aI,aI,Int.cast_ofNat_Int,go_sem,reduceIte,zA,zB,zC,zD,zE,zF,reduceCtorEq] <;> rfl)) (⟨by decide, ha, by decide, fun _ => by decide, rfl⟩) ?_
 rintro ⟨i, m⟩ ⟨hi, WC, PF, hm, fb⟩
 try dsimp only at hi WC PF hm fb
 try dsimp only [aI]
 have uo : IntKind.i64.wrap ((a : Int) + (i : Int)) = ((a + i : Nat) : Int) := by rw [IntWalk.i64_in _ (by omega)]; omega
 have hw := aC (a + i) (by omega)
 have wa := aC i (by omega)
 have mG : IntKind.i64.wrap (7 * (i : Int)) = ((7 * i : Nat) : Int) := by rw [IntWalk.i64_in _ (by omega)]; omega
 intro Z1 cE
 simp only [aI,uo,hw,wa,mG,sl,ki,aI,go_sem,reduceIte,zA,zB,zC,zD,zE,zF,reduceCtorEq]
 refine aL (fun Qu => ?_) (fun Qu => ?_)
 ·have F7 : i ≤ 9 := by have := of_decide_eq_true Qu; omega
  have PG := hm F7
  simp only [aI,uo,hw,wa,mG,sl,ki,aI,go_sem,reduceIte,zA,zB,zC,zD,zE,zF,reduceCtorEq]
  refine aL (fun Nr => ?_) (fun Nr => ?_)
  ·exact absurd (of_decide_eq_true Nr) (by omega)
  ·simp only [aI,uo,hw,wa,mG,sl,ki,aI,go_sem,reduceIte,zA,zB,zC,zD,zE,zF,reduceCtorEq]
   refine aL (fun fu => ?_) (fun fu => ?_)
   ·have dg : s.size ≤ a + i := by have := of_decide_eq_true fu; omega
    rw [o5 dg, bG] at fb
    have hR := tO.no fb
    simp only [aI,uo,hw,wa,mG,sl,ki,aI,go_sem,reduceIte,zA,zB,zC,zD,zE,zF,reduceCtorEq]
    exact hK _ hR
   ·have aF : a + i < s.size := by have := of_decide_eq_false fu; omega
    obtain ⟨c, jD⟩ := bI (s := s) (i := a + i) aF
    have ca := cx (P := Tryz.prog) s eE .i64 ((a + i : Nat) : Int) (by omega) (c := c) (show s[((a + i : Nat) : Int).toNat]? = some c from jD)
    have QI := zU jD
    rw [QI, bG] at fb
    have kf := c.toNat_lt
    have qs : IntKind.u64.wrap ((c.toNat : Nat) : Int) = ((c.toNat : Nat) : Int) := wrap64 _ (by omega)
    have uu := fun x y => (Ji 136 x y .u64 (c.toNat : Int) 128 (by decide)).trans (by rw [Jj])
    simp only [aI,uo,hw,wa,mG,ca,qs,uu,sl,ki,aI,go_sem,reduceIte,zA,zB,zC,zD,zE,zF,reduceCtorEq]
    refine aL (fun rk => ?_) (fun rk => ?_)
    ·simp only [aI,uo,hw,wa,mG,ca,qs,uu,sl,ki,aI,go_sem,reduceIte,zA,zB,zC,zD,zE,zF,reduceCtorEq]
     refine aL (fun oZ => ?_) (fun oZ => ?_)
     ·have hR : tO s a (.bt [aI 0, num (0 : Nat), bl false]) := by
       rw [if_pos (.inr ⟨by have := of_decide_eq_true rk; omega, by have := of_decide_eq_true oZ; omega⟩)] at fb
       exact tO.no fb
      simp only [aI,uo,hw,wa,mG,ca,qs,uu,sl,ki,aI,go_sem,reduceIte,zA,zB,zC,zD,zE,zF,reduceCtorEq]
      exact hK _ hR
     ·have h9 : i = 9 → c.toNat ≤ 1 := by intro _; have := of_decide_eq_false oZ; omega
      obtain ⟨eS, eD, AI⟩ := DK (c := c.toNat % 128) F7 PG (by omega) (fun h => by have := h9 h; omega)
      have hZ := fun x y => rZ x y (c.toNat % 128) i AI F7
      have tP : IntKind.u64.wrap ((m : Int) + ((c.toNat % 128 * 2 ^ (7 * i) : Nat) : Int)) = ((m + c.toNat % 128 * 2 ^ (7 * i) : Nat) : Int) := by rw [← Int.natCast_add]; exact wrap64 _ eS
      rw [if_neg (by omega)] at fb
      simp only [aI,uo,hw,wa,mG,ca,qs,uu,hZ,tP,sl,ki,aI,go_sem,reduceIte,zA,zB,zC,zD,zE,zF,reduceCtorEq]
      refine aL (fun xn => ?_) (fun xn => ?_)
      ·have eA : c.toNat < 128 := by have := of_decide_eq_true xn; omega
       rw [if_pos eA] at fb
       simp only [aI,uo,hw,wa,mG,ca,qs,uu,hZ,tP,sl,ki,aI,go_sem,reduceIte,zA,zB,zC,zD,zE,zF,reduceCtorEq]
       refine aL (fun nX => ?_) (fun nX => ?_)
       ·have hR := tO.yes (ok := true) fb eA eS (by omega) (by have := of_decide_eq_true nX; simp; omega)
        simp only [aI,uo,hw,wa,mG,ca,qs,uu,hZ,tP,sl,ki,aI,go_sem,reduceIte,zA,zB,zC,zD,zE,zF,reduceCtorEq]
        exact hK _ hR
       ·have hR := tO.yes (ok := !decide ((c.toNat : Int) = 0)) fb eA eS (by omega) (by have := of_decide_eq_false nX; rw [← decide_not, decide_eq_decide]; omega)
        simp only [aI,uo,hw,wa,mG,ca,qs,uu,hZ,tP,sl,ki,aI,go_sem,reduceIte,zA,zB,zC,zD,zE,zF,reduceCtorEq]
        exact hK _ hR
      ·have eA : ¬ c.toNat < 128 := by have := of_decide_eq_false xn; omega
       rw [if_neg eA, show c.toNat - 128 = c.toNat % 128 by omega] at fb
       have oL : i + 1 ≤ 10 ∧ a + (i + 1) ≤ s.size ∧ m + c.toNat % 128 * 2 ^ (7 * i) < 2 ^ 64 ∧ (i + 1 ≤ 9 → m + c.toNat % 128 * 2 ^ (7 * i) < 2 ^ (7 * (i + 1))) ∧ bG (from_ s a) 0 0 = bG (from_ s (a + (i + 1))) (i + 1) (m + c.toNat % 128 * 2 ^ (7 * i)) := ⟨by omega, by omega, eS, eD, fb⟩
       simp only [aI,uo,hw,wa,mG,ca,qs,uu,hZ,tP,sl,ki,aI,go_sem,reduceIte,zA,zB,zC,zD,zE,zF,reduceCtorEq]
       refine cE _ ⟨(i + 1, m + c.toNat % 128 * 2 ^ (7 * i)), ?_, ?_, bd (by omega) (by (simp only [aI,wa,aI,go_sem,reduceIte,zA,zB,zC,zD,zE,zF,reduceCtorEq]))⟩
       ·exact oL
       ·dsimp only; omega
    ·have h9 : i = 9 → c.toNat ≤ 1 := by intro h; have := of_decide_eq_false rk; omega
     obtain ⟨eS, eD, AI⟩ := DK (c := c.toNat % 128) F7 PG (by omega) (fun h => by have := h9 h; omega)
     have hZ := fun x y => rZ x y (c.toNat % 128) i AI F7
     have tP : IntKind.u64.wrap ((m : Int) + ((c.toNat % 128 * 2 ^ (7 * i) : Nat) : Int)) = ((m + c.toNat % 128 * 2 ^ (7 * i) : Nat) : Int) := by rw [← Int.natCast_add]; exact wrap64 _ eS
     rw [if_neg (by omega)] at fb
     simp only [aI,uo,hw,wa,mG,ca,qs,uu,hZ,tP,sl,ki,aI,go_sem,reduceIte,zA,zB,zC,zD,zE,zF,reduceCtorEq]
     refine aL (fun xn => ?_) (fun xn => ?_)
     ·have eA : c.toNat < 128 := by have := of_decide_eq_true xn; omega
      rw [if_pos eA] at fb
      simp only [aI,uo,hw,wa,mG,ca,qs,uu,hZ,tP,sl,ki,aI,go_sem,reduceIte,zA,zB,zC,zD,zE,zF,reduceCtorEq]
      refine aL (fun nX => ?_) (fun nX => ?_)
      ·have hR := tO.yes (ok := true) fb eA eS (by omega) (by have := of_decide_eq_true nX; simp; omega)
       simp only [aI,uo,hw,wa,mG,ca,qs,uu,hZ,tP,sl,ki,aI,go_sem,reduceIte,zA,zB,zC,zD,zE,zF,reduceCtorEq]
       exact hK _ hR
      ·have hR := tO.yes (ok := !decide ((c.toNat : Int) = 0)) fb eA eS (by omega) (by have := of_decide_eq_false nX; rw [← decide_not, decide_eq_decide]; omega)
       simp only [aI,uo,hw,wa,mG,ca,qs,uu,hZ,tP,sl,ki,aI,go_sem,reduceIte,zA,zB,zC,zD,zE,zF,reduceCtorEq]
       exact hK _ hR
     ·have eA : ¬ c.toNat < 128 := by have := of_decide_eq_false xn; omega
      rw [if_neg eA, show c.toNat - 128 = c.toNat % 128 by omega] at fb
      have oL : i + 1 ≤ 10 ∧ a + (i + 1) ≤ s.size ∧ m + c.toNat % 128 * 2 ^ (7 * i) < 2 ^ 64 ∧ (i + 1 ≤ 9 → m + c.toNat % 128 * 2 ^ (7 * i) < 2 ^ (7 * (i + 1))) ∧ bG (from_ s a) 0 0 = bG (from_ s (a + (i + 1))) (i + 1) (m + c.toNat % 128 * 2 ^ (7 * i)) := ⟨by omega, by omega, eS, eD, fb⟩
      simp only [aI,uo,hw,wa,mG,ca,qs,uu,hZ,tP,sl,ki,aI,go_sem,reduceIte,zA,zB,zC,zD,zE,zF,reduceCtorEq]
      refine cE _ ⟨(i + 1, m + c.toNat % 128 * 2 ^ (7 * i)), ?_, ?_, bd (by omega) (by (simp only [aI,wa,aI,go_sem,reduceIte,zA,zB,zC,zD,zE,zF,reduceCtorEq]))⟩
      ·exact oL
      ·dsimp only; omega
 ·have RL : i = 10 := by have := of_decide_eq_false Qu; omega
  have hR : tO s a (.bt [aI 0, num (0 : Nat), bl false]) := by
   refine tO.no ?_
   rw [fb]
   cases hl : from_ s (a + i) with
   | nil => rw [bG]
   | cons b r => rw [bG, if_pos (.inl (by omega))]
  simp only [aI,uo,hw,wa,mG,sl,ki,aI,go_sem,reduceIte,zA,zB,zC,zD,zE,zF,reduceCtorEq]
  exact hK _ hR
theorem ij (s : ByteArray) (hs : s.size ≤ 1073741824) (a : Nat) (ha : a ≤ s.size) : ∃ r_, (fun w => w = Rg s a) r_ ∧ aP Tryz.prog 71 [str s, num a] r_ := by
 refine ek tt_ok [] 26 [.tmp 4, .tmp 5, .tmp 6] (fn := Tryz.f71) Tryz.func71 rfl Tryz.call71 ⟨rfl, rfl, by simp⟩ fun K hK => ?_
 have cL : Tryz.prog.underlying 136 = some (.int .u64) := by kernel_rfl
 have rU : Tryz.prog.underlying 3 = some (.int .i64) := by kernel_rfl
 have Ia := fun (k : IntKind) (n : Int) => bJ (P := Tryz.prog) (src := 136) (dst := 3) cL rU k n
 simp only [Ia,aI,go_sem,reduceIte,zA,zB,zC,zD,zE,zF,reduceCtorEq]
 refine cF (Jk s hs a ha) ?_
 rintro _ ⟨n, j, ok, rfl, hn, hj, bB, fb⟩
 simp only [Ia,aI,go_sem,reduceIte,zA,zB,zC,zD,zE,zF,reduceCtorEq]
 refine aL (fun oY => ?_) (fun oY => ?_)
 ·have Z7 : ok = false := by simpa using oY
  have hr : eP s a = none := Qt (by
   cases h : bG (from_ s a) 0 0 with
   | none => rfl
   | some p => rw [h, Z7] at bB; cases bB)
  have ax := qq hr
  simp only [Ia,aI,go_sem,reduceIte,zA,zB,zC,zD,zE,zF,reduceCtorEq]
  exact hK _ (by rw [ax] <;> rfl)
 ·have Z8 : ok = true := by simpa using oY
  obtain ⟨n0, k0, AH⟩ : ∃ n0 k0, bG (from_ s a) 0 0 = some (n0, k0) := by
   cases h : bG (from_ s a) 0 0 with
   | none => rw [h, Z8] at bB; cases bB
   | some p => exact ⟨p.1, p.2, rfl⟩
  obtain ⟨rfl, rfl⟩ := fb _ _ AH
  simp only [Ia,aI,go_sem,reduceIte,zA,zB,zC,zD,zE,zF,reduceCtorEq]
  refine aL (fun uR => ?_) (fun uR => ?_)
  ·have ax := qq (Mr AH (by have := of_decide_eq_true uR; omega))
   simp only [Ia,aI,go_sem,reduceIte,zA,zB,zC,zD,zE,zF,reduceCtorEq]
   exact hK _ (by rw [ax] <;> rfl)
  ·have aF : n < 9223372036854775808 := by have := of_decide_eq_false uR; omega
   have ax := ph (Ms AH aF)
   have HZ : IntKind.i64.wrap (n : Int) = (n : Int) := IntWalk.i64_in _ (by omega)
   simp only [HZ,Ia,aI,go_sem,reduceIte,zA,zB,zC,zD,zE,zF,reduceCtorEq]
   exact hK _ (by rw [ax] <;> rfl)
theorem gE (s : ByteArray) (hs : s.size ≤ 1073741824) (a : Nat) (ha : a ≤ s.size) : ∃ r_, (fun w => w = Fm s a) r_ ∧ aP Tryz.prog 70 [str s, num a] r_ := by
 refine ek tt_ok [] 36 [.tmp 4, .tmp 5, .tmp 6] (fn := Tryz.f70) Tryz.func70 rfl Tryz.call70 ⟨rfl, rfl, by simp⟩ fun K hK => ?_
 have eE : Tryz.prog.underlying 9 = some .string := by kernel_rfl
 have sl : ∀ (a : ByteArray) (ty : TypeId), cd Tryz.prog (Builtin.len_ #[9] ty) [.sc (.string a)] = some (num a.size) := fun a ty => bE (P := Tryz.prog) (tt := tt) (T := 9) a eE ty
 rcases hr : eP s a with _ | ⟨n, j⟩
 ·have Qv := qq hr
  have ax := nW (Qs hr)
  simp only [sl,go_sem,reduceIte,zA,zB,zC,zD,zE,zF,reduceCtorEq]
  refine cF (by have h := ij s hs a ha; rw [Qv] at h; exact h) ?_
  rintro _ rfl
  simp only [sl,go_sem,reduceIte,zA,zB,zC,zD,zE,zF,reduceCtorEq]
  exact hK _ (by rw [ax] <;> rfl)
 ·have Qv := ph hr
  have fS := gY hr
  have vH : IntKind.i64.wrap ((s.size : Int) - (j : Int)) = (s.size : Int) - (j : Int) := IntWalk.i64_in _ (by omega)
  simp only [vH,sl,go_sem,reduceIte,zA,zB,zC,zD,zE,zF,reduceCtorEq]
  refine cF (by have h := ij s hs a ha; rw [Qv] at h; exact h) ?_
  rintro _ rfl
  simp only [vH,sl,go_sem,reduceIte,zA,zB,zC,zD,zE,zF,reduceCtorEq]
  refine aL (fun gr => ?_) (fun gr => ?_)
  ·have ax := nW (Mp hr (by have := of_decide_eq_true gr; omega))
   simp only [vH,sl,go_sem,reduceIte,zA,zB,zC,zD,zE,zF,reduceCtorEq]
   exact hK _ (by rw [ax] <;> rfl)
  ·have hle : n ≤ s.size - j := by have := of_decide_eq_false gr; omega
   have ax := mN (Mq hr hle)
   have uo : IntKind.i64.wrap ((j : Int) + (n : Int)) = ((j + n : Nat) : Int) := by rw [IntWalk.i64_in _ (by omega)]; omega
   have JI : aQ Tryz.prog (fun a l => Instr.sliceAt 9 a (some l) (some (.int .i64 (((j + n : Nat) : Int)))) none) (.sc (.string s)) (.sc (.int .i64 ((j : Int)))) = some (.sc (.string (s.extract ((j : Int) : Int).toNat (((j + n : Nat) : Int) : Int).toNat))) := vi (P := Tryz.prog) (tt := tt) (mem := []) (T := 9) s eE .i64 .i64 ((j : Int)) (((j + n : Nat) : Int)) (by omega) (by omega) (by omega)
   rw [Int.toNat_natCast, Int.toNat_natCast] at JI
   simp only [vH,uo,JI,bp,sl,go_sem,reduceIte,zA,zB,zC,zD,zE,zF,reduceCtorEq]
   exact hK _ (by rw [ax] <;> rfl)
end Go.Proofs.YtnfeacnbgbggfaaGreatDoor
end

section
namespace Go.Proofs.YtnfeacnbgbggfaaGreatDoor
open Go.Eng
open Nat renaming reduceAdd → zA, reduceLT → zB, reduceLeDiff → zC, reduceMul → zD, reduceEqDiff → zE, reduceSub → zF
variable [aE]
set_option maxHeartbeats 4000000
set_option maxRecDepth 100000
def CH (s : ByteArray) (a : Nat) : Nat × Nat × Bool := match eP s a with | some (n, j) => (n, j, true) | none => (0, 0, false)
theorem pj (s : ByteArray) (hs : s.size ≤ 1073741824) (a : Nat) (ha : a ≤ s.size) : ∃ r_, (fun w => w = .bt [num (CH s a).1, num (CH s a).2.1, bl (CH s a).2.2]) r_ ∧ aP Tryz.prog 71 [str s, num a] r_ := by
 obtain ⟨r, rfl, h⟩ := ij s hs a ha
 refine ⟨_, ?_, h⟩
 unfold Rg CH; cases eP s a <;> rfl
theorem fQ {s : ByteArray} {a n j : Nat} {ok : Bool} (h : (n, j, ok) = CH s a) : j ≤ s.size ∧ n < 9223372036854775808 ∧ (ok = true → eP s a = some (n, j) ∧ a < j) ∧ (ok = false → eP s a = none) := by
 unfold CH at h
 cases hr : eP s a with
 | none => rw [hr] at h; cases h; exact ⟨Nat.zero_le _, by decide, fun e => (by cases e), fun _ => rfl⟩
 | some p => obtain ⟨n', j'⟩ := p; rw [hr] at h; cases h; exact ⟨(gY hr).2, (gY hr).1, fun _ => ⟨rfl, (nG hr).2.2.2.2⟩, fun e => (by cases e)⟩
def wb (s : ByteArray) : Nat → Nat → Option (List br × Nat)
 | 0, a => some ([], a)
 | n + 1, a => match wb s n a with
  | none => none
  | some (L, b) => match eP s b with
   | none => none
   | some (x, c) => match eP s c with
    | none => none
    | some (y, d) => some (L ++ [⟨x, y⟩], d)
def Mt (s : ByteArray) (b : Nat) : Option (List br × Nat) := match eP s b with
 | none => none
 | some (m, c) => wb s m c
def JP (s : ByteArray) (a : Nat) : Option (Rq × Nat) := match lg s a with
 | none => none
 | some (p, b) => match Mt s b with
  | none => none
  | some (L, d) => some (⟨p, L⟩, d)
def AN (s : ByteArray) : Nat → Nat → Option (List Rq × Nat)
 | 0, a => some ([], a)
 | n + 1, a => match AN s n a with
  | none => none
  | some (L, b) => match JP s b with
   | none => none
   | some (q, c) => some (L ++ [q], c)
def Ga (s : ByteArray) (a : Nat) : Option (List Rq × Nat) := match eP s a with
 | none => none
 | some (n, j) => AN s n j
theorem ug {s : ByteArray} {a k : Nat} (h : wb s k a = none) : ∀ {m : Nat}, k ≤ m → wb s m a = none
 | 0, hm => by
  obtain rfl : k = 0 := (by omega); exact h
 | m + 1, hm => by
  by_cases e : k = m + 1
  ·rw [← e]; exact h
  ·rw [wb, ug h (m := m) (by omega)]
theorem Av {s : ByteArray} {a k : Nat} (h : AN s k a = none) : ∀ {m : Nat}, k ≤ m → AN s m a = none
 | 0, hm => by
  obtain rfl : k = 0 := (by omega); exact h
 | m + 1, hm => by
  by_cases e : k = m + 1
  ·rw [← e]; exact h
  ·rw [AN, Av h (m := m) (by omega)]
def CI (s : ByteArray) (b c m k at_ : Nat) (ok : Bool) (L : List br) : Prop := (ok = true → Mt s b = wb s m c ∧ k ≤ m ∧ wb s k c = some (L, at_) ∧ c + k ≤ at_ ∧ b ≤ c) ∧ (ok = false → Mt s b = none) ∧ at_ ≤ s.size ∧ L.length = k ∧ k ≤ s.size + 1
def CJ (s : ByteArray) (a c m k at_ : Nat) (ok : Bool) (L : List Rq) : Prop := (ok = true → Ga s a = AN s m c ∧ k ≤ m ∧ AN s k c = some (L, at_) ∧ k ≤ at_) ∧ (ok = false → Ga s a = none) ∧ at_ ≤ s.size ∧ L.length = k ∧ k ≤ s.size + 1
def AO (s : ByteArray) (at_ : Nat) (ok : Bool) : Nat := if ok = true then s.size - at_ + 1 else 0
theorem uh {s : ByteArray} {a b : Nat} {o q : Bool} (ho : o = true) (h : q = true → a < b ∧ b ≤ s.size) : AO s b q < AO s a o := by
 unfold AO
 rw [if_pos ho]
 by_cases hq : q = true
 ·rw [if_pos hq]; have := h hq; omega
 ·rw [if_neg hq]; omega
section
variable {s : ByteArray} {a b c m k at_ : Nat} {ok : Bool} {L : List br} {R : List Rq}
theorem CI.init (h : (m, c, ok) = CH s b) : CI s b c m 0 c ok [] := by
 obtain ⟨h1, h2, h3, h4⟩ := fQ h
 refine ⟨fun e => ⟨?_, Nat.zero_le _, rfl, Nat.le_refl _, by have := (h3 e).2; omega⟩, fun e => ?_, h1, rfl, Nat.zero_le _⟩
 ·unfold Mt; rw [(h3 e).1]
 ·unfold Mt; rw [h4 e]
theorem CI.stop (h : CI s b c m k at_ ok L) (ho : ok = true) (hk : k < m) {x d : Nat} {o : Bool} (hx : (x, d, o) = CH s at_) (h4 : o = false) (x' : br) : CI s b c m (k + 1) d o (L ++ [x']) := by
 obtain ⟨h1, _, h3, h5, h6⟩ := h
 obtain ⟨e1, e2, e3, e4, e5⟩ := h1 ho
 obtain ⟨r1, r2, r3, r4⟩ := fQ hx
 have hn : wb s (k + 1) c = none := by rw [wb, e3]; dsimp only; rw [r4 h4]
 exact ⟨fun e => (by rw [h4] at e; cases e), fun _ => by rw [e1]; exact ug hn (by omega), r1, by rw [List.length_append, h5]; rfl, by omega⟩
theorem CI.step (h : CI s b c m k at_ ok L) (ho : ok = true) (hk : k < m) {x d y e : Nat} {o q : Bool} (hx : (x, d, o) = CH s at_) (h4 : o = true) (hy : (y, e, q) = CH s d) : CI s b c m (k + 1) e q (L ++ [⟨x, y⟩]) ∧ (q = true → at_ < e ∧ e ≤ s.size) := by
 obtain ⟨h1, _, h3, h5, h6⟩ := h
 obtain ⟨e1, e2, e3, e4, e5⟩ := h1 ho
 obtain ⟨r1, r2, r3, r4⟩ := fQ hx
 obtain ⟨q1, q2, q3, q4⟩ := fQ hy
 obtain ⟨r5, r6⟩ := r3 h4
 refine ⟨⟨fun h5 => ⟨e1, hk, ?_, by have := (q3 h5).2; omega, e5⟩, fun h5 => ?_, q1, by rw [List.length_append, h5]; rfl, by omega⟩, fun h5 => ⟨by have := (q3 h5).2; omega, q1⟩⟩
 ·rw [wb, e3]; dsimp only; rw [r5]; dsimp only; rw [(q3 h5).1]
 ·rw [e1]
  refine ug (k := k + 1) ?_ (by omega)
  rw [wb, e3]; dsimp only; rw [r5]; dsimp only; rw [q4 h5]
theorem CI.out (h : CI s b c m k at_ ok L) (hk : ok = true → ¬ k < m) : (ok = true → Mt s b = some (L, at_) ∧ b ≤ at_) ∧ (ok = false → Mt s b = none) := by
 refine ⟨fun e => ?_, h.2.1⟩
 obtain ⟨e1, e2, e3, e4, e5⟩ := h.1 e
 obtain rfl : k = m := by have := hk e; omega
 exact ⟨e1.trans e3, by omega⟩
theorem CJ.init (h : (m, c, ok) = CH s a) : CJ s a c m 0 c ok [] := by
 obtain ⟨h1, h2, h3, h4⟩ := fQ h
 refine ⟨fun e => ⟨?_, Nat.zero_le _, rfl, Nat.zero_le _⟩, fun e => ?_, h1, rfl, Nat.zero_le _⟩
 ·unfold Ga; rw [(h3 e).1]
 ·unfold Ga; rw [h4 e]
theorem CJ.fail (h : CJ s a c m k at_ ok R) (ho : ok = true) (hk : k < m) (hq : JP s at_ = none) {d : Nat} (hd : d ≤ s.size) (Q : Rq) {o : Bool} (Z9 : o = false) : CJ s a c m (k + 1) d o (R ++ [Q]) := by
 obtain ⟨h1, _, h3, h4, h5⟩ := h
 obtain ⟨e1, e2, e3, e4⟩ := h1 ho
 have hn : AN s (k + 1) c = none := by rw [AN, e3]; dsimp only; rw [hq]
 exact ⟨fun e => (by rw [Z9] at e; cases e), fun _ => by rw [e1]; exact Av hn (by omega), hd, by rw [List.length_append, h4]; rfl, by omega⟩
theorem CJ.lost (h : CJ s a c m k at_ ok R) (ho : ok = true) (hk : k < m) (hr : lg s at_ = none) (Q : Rq) : CJ s a c m (k + 1) 0 false (R ++ [Q]) := h.fail ho hk (by unfold JP; rw [hr]) (Nat.zero_le _) Q rfl
theorem CJ.step (h : CJ s a c m k at_ ok R) (ho : ok = true) (hk : k < m) {p : ByteArray} (hr : lg s at_ = some (p, b)) (hb : at_ < b) {c2 m2 k2 d : Nat} {o : Bool} (hS : CI s b c2 m2 k2 d o L) (hs : o = true → ¬ k2 < m2) : CJ s a c m (k + 1) d o (R ++ [⟨p, L⟩]) ∧ (o = true → at_ < d ∧ d ≤ s.size) := by
 obtain ⟨u1, u2⟩ := hS.out hs
 have hd := hS.2.2.1
 refine ⟨?_, fun e => ⟨by have := (u1 e).2; omega, hd⟩⟩
 cases o with
 | false => exact h.fail ho hk (by unfold JP; rw [hr]; dsimp only; rw [u2 rfl]) hd _ rfl
 | true =>
  obtain ⟨h1, _, h3, h4, h5⟩ := h
  obtain ⟨e1, e2, e3, e4⟩ := h1 ho
  obtain ⟨v1, v2⟩ := u1 rfl
  refine ⟨fun _ => ⟨e1, hk, ?_, by omega⟩, (fun e => by cases e), hd, by rw [List.length_append, h4]; rfl, by omega⟩
  rw [AN, e3]; dsimp only; unfold JP; rw [hr]; dsimp only; rw [v1]
theorem CJ.out (h : CJ s a c m k at_ ok R) (hk : ok = true → ¬ k < m) : (ok = true → Ga s a = some (R, at_)) ∧ (ok = false → Ga s a = none) := by
 refine ⟨fun e => ?_, h.2.1⟩
 obtain ⟨e1, e2, e3, e4⟩ := h.1 e
 obtain rfl : k = m := by have := hk e; omega
 exact e1.trans e3
end
theorem Qw (s : ByteArray) (hs : s.size ≤ 1048576) (a : Nat) (ha : a ≤ s.size) : ∃ r_, (fun w => ∃ (L : List Rq) (j : Nat) (ok : Bool), w = .bt [.slice (L.map ak), num j, bl ok] ∧ (ok = true → Ga s a = some (L, j)) ∧ (ok = false → Ga s a = none)) r_ ∧ aP Tryz.prog 72 [str s, num a] r_ := by
 refine ek tt_ok [19,20] 87 [.tmp 4, .tmp 5, .tmp 6] (fn := Tryz.f72) Tryz.func72 rfl Tryz.call72 ⟨rfl, rfl, by simp⟩ fun K hK => ?_
 simp only [go_sem,reduceIte,zA,zB,zC,zD,zE,zF,reduceCtorEq]
 refine cF (pj s (by omega) a ha) ?_
 rintro _ rfl
 obtain ⟨⟨n, j0, ok0⟩, hn⟩ : ∃ x, x = CH s a := ⟨_, rfl⟩
 rw [← hn]
 obtain ⟨n1, n2, n3, n4⟩ := fQ hn
 simp only [go_sem,reduceIte,zA,zB,zC,zD,zE,zF,reduceCtorEq]
 refine cT tt_ok [19,20] (fun q : Nat × Nat × Bool × List Rq => [(0, str s), (1, num q.2.1), (7, num n), (8, bl q.2.2.1), (9, .ms 0 q.1 0 q.1), (10, num q.1)]) (fun q : Nat × Nat × Bool × List Rq => [.rows q.1 2 (q.2.2.2.map ak)]) (fun q => AO s q.2.1 q.2.2.1) (fun q => CJ s a j0 n q.1 q.2.1 q.2.2.1 q.2.2.2) ((0, j0, ok0, [])) 1 (bd (by omega) (by simp only [List.map_nil,List.length_nil,Int.cast_ofNat_Int,go_sem,reduceIte,zA,zB,zC,zD,zE,zF,reduceCtorEq] <;> rfl)) (CJ.init hn) ?_
 rintro ⟨i, Rh, Xa, R⟩ hQ
 try dsimp only at hQ
 have EG := hQ.2.2.1
 have LY := hQ.2.2.2.1
 have hib := hQ.2.2.2.2
 try dsimp only
 have hw := aC i (by omega)
 intro Z1 cE
 simp only [hw,go_sem,reduceIte,zA,zB,zC,zD,zE,zF,reduceCtorEq]
 refine aL (fun rm => ?_) (fun rm => ?_)
 ·simp only [hw,go_sem,reduceIte,zA,zB,zC,zD,zE,zF,reduceCtorEq]
  refine aL (fun Cb => ?_) (fun Cb => ?_)
  ·have aF : i < n := by have := of_decide_eq_true Cb; omega
   have Ck : i + 1 ≤ 34359738368 := by omega
   have nR : ∀ (x : ByteArray) (y : List V), bM [V.agg [str x, .slice y]] 0 2 = true := fun x y => rfl
   have PU : (R.map ak).length = i := by rw [List.length_map, LY]
   rcases hr : lg s Rh with _ | ⟨p, b⟩
   ·have Qv := nW hr
    simp only [hw,go_sem,reduceIte,zA,zB,zC,zD,zE,zF,reduceCtorEq]
    refine cF (by have h := gE s (by omega) Rh EG; rw [Qv] at h; exact h) ?_
    rintro _ rfl
    simp only [hw,go_sem,reduceIte,zA,zB,zC,zD,zE,zF,reduceCtorEq]
    refine rT 1 1 0 2 rfl rfl ?_
    refine cT tt_ok [19,20] (fun t : Nat × Nat × Bool × List br => [(0, str s), (1, num t.2.1), (7, num n), (8, bl t.2.2.1), (9, .ms 0 i 0 i), (10, num i), (11, .ptr 1 0), (12, num 0), (13, num t.1)]) (fun t : Nat × Nat × Bool × List br => [.rows i 2 (R.map ak), .box [str ⟨#[]⟩, .ms 2 t.1 0 t.1], .rows t.1 2 (t.2.2.2.map aj)]) (fun t => AO s t.2.1 t.2.2.1) (fun t => t = (0, 0, false, [])) ((0, 0, false, [])) 3 (bd (by omega) (by simp only [hw,List.map_nil,List.length_nil,Int.cast_ofNat_Int,go_sem,reduceIte,zA,zB,zC,zD,zE,zF,reduceCtorEq] <;> rfl)) (rfl) ?_
    rintro _ rfl
    try dsimp only
    intro Z2 pn
    simp only [hw,go_sem,reduceIte,zA,zB,zC,zD,zE,zF,reduceCtorEq]
    have rF := hQ.lost rm aF hr ⟨⟨#[]⟩, []⟩
    have L8 : AO s 0 false < AO s Rh Xa := uh rm (fun e => by cases e)
    refine iq (k := 1) (vs' := [str ⟨#[]⟩, .slice (([] : List br).map aj)]) rfl (by simp [cj, er, bz, jb, List.take_of_length_le]) ?_
    refine uM tt_ok ?_
    simp only [hw,nR,Ck,PU,List.length_append,List.length_cons,List.length_nil,Nat.zero_add,go_sem,reduceIte,zA,zB,zC,zD,zE,zF,reduceCtorEq]
    refine cE _ ⟨(i + 1, 0, false, R ++ [⟨⟨#[]⟩, []⟩]), ?_, ?_, bd (by omega) (by (simp only [hw,List.map_append,List.map_cons,List.map_nil,ak,al,go_sem,reduceIte,zA,zB,zC,zD,zE,zF,reduceCtorEq]))⟩
    ·exact rF
    ·exact L8
   ·have Qv := mN hr
    have Rf := gi hr
    have hbs := Rf.2.2.1
    have nr := Rf.2.2.2.1
    have TP := Rf.2.2.2.2
    simp only [hw,go_sem,reduceIte,zA,zB,zC,zD,zE,zF,reduceCtorEq]
    refine cF (by have h := gE s (by omega) Rh EG; rw [Qv] at h; exact h) ?_
    rintro _ rfl
    simp only [hw,go_sem,reduceIte,zA,zB,zC,zD,zE,zF,reduceCtorEq]
    refine cF (pj s (by omega) b (by omega)) ?_
    rintro _ rfl
    obtain ⟨⟨m, c, ok3⟩, hm⟩ : ∃ x, x = CH s b := ⟨_, rfl⟩
    rw [← hm]
    obtain ⟨m1, m2, m3, m4⟩ := fQ hm
    simp only [hw,go_sem,reduceIte,zA,zB,zC,zD,zE,zF,reduceCtorEq]
    refine rT 1 1 0 2 rfl rfl ?_
    refine cT tt_ok [19,20] (fun t : Nat × Nat × Bool × List br => [(0, str s), (1, num t.2.1), (7, num n), (8, bl t.2.2.1), (9, .ms 0 i 0 i), (10, num i), (11, .ptr 1 0), (12, num m), (13, num t.1)]) (fun t : Nat × Nat × Bool × List br => [.rows i 2 (R.map ak), .box [str p, .ms 2 t.1 0 t.1], .rows t.1 2 (t.2.2.2.map aj)]) (fun t => AO s t.2.1 t.2.2.1) (fun t => CI s b c m t.1 t.2.1 t.2.2.1 t.2.2.2) ((0, c, ok3, [])) 3 (bd (by omega) (by simp only [hw,List.map_nil,List.length_nil,Int.cast_ofNat_Int,go_sem,reduceIte,zA,zB,zC,zD,zE,zF,reduceCtorEq] <;> rfl)) (CI.init hm) ?_
    rintro ⟨k, Ns, Aw, L⟩ hS
    try dsimp only at hS
    have Xb := hS.2.2.1
    have zQ := hS.2.2.2.1
    have dr := hS.2.2.2.2
    try dsimp only
    have vY := aC k (by omega)
    intro Z3 AM
    simp only [hw,go_sem,reduceIte,zA,zB,zC,zD,zE,zF,reduceCtorEq]
    refine aL (fun qt => ?_) (fun qt => ?_)
    ·simp only [hw,go_sem,reduceIte,zA,zB,zC,zD,zE,zF,reduceCtorEq]
     refine aL (fun B7 => ?_) (fun B7 => ?_)
     ·have T4 : k < m := by have := of_decide_eq_true B7; omega
      have uU : k + 1 ≤ 34359738368 := by omega
      have fJ : ∀ x y : Int, bM [V.agg [num x, num y]] 0 2 = true := fun x y => rfl
      have JN : (L.map aj).length = k := by rw [List.length_map, zQ]
      simp only [hw,vY,fJ,uU,JN,List.length_append,List.length_cons,List.length_nil,Nat.zero_add,go_sem,reduceIte,zA,zB,zC,zD,zE,zF,reduceCtorEq]
      refine cF (pj s (by omega) Ns Xb) ?_
      rintro _ rfl
      obtain ⟨⟨x, d, ok4⟩, hx⟩ : ∃ x, x = CH s Ns := ⟨_, rfl⟩
      rw [← hx]
      obtain ⟨x1, x2, x3, x4⟩ := fQ hx
      simp only [hw,vY,fJ,uU,JN,List.length_append,List.length_cons,List.length_nil,Nat.zero_add,go_sem,reduceIte,zA,zB,zC,zD,zE,zF,reduceCtorEq]
      refine aL (fun Ai => ?_) (fun Ai => ?_)
      ·simp only [hw,vY,fJ,uU,JN,List.length_append,List.length_cons,List.length_nil,Nat.zero_add,go_sem,reduceIte,zA,zB,zC,zD,zE,zF,reduceCtorEq]
       refine cF (pj s (by omega) d x1) ?_
       rintro _ rfl
       obtain ⟨⟨y, e, ok5⟩, hy⟩ : ∃ x, x = CH s d := ⟨_, rfl⟩
       rw [← hy]
       obtain ⟨y1, y2, y3, y4⟩ := fQ hy
       obtain ⟨lq, AK⟩ := hS.step qt T4 hx Ai hy
       obtain ⟨CK, CL⟩ : ∃ z : Nat × Nat × Bool × List br, z = (k + 1, e, ok5, L ++ [⟨(x : Int), (y : Int)⟩]) := ⟨_, rfl⟩
       have Qx : CI s b c m CK.1 CK.2.1 CK.2.2.1 CK.2.2.2 := by rw [CL]; exact lq
       have Qy : AO s CK.2.1 CK.2.2.1 < AO s Ns Aw := by rw [CL]; exact uh qt AK
       simp only [hw,vY,fJ,uU,JN,List.length_append,List.length_cons,List.length_nil,Nat.zero_add,go_sem,reduceIte,zA,zB,zC,zD,zE,zF,reduceCtorEq]
       refine AM _ ⟨CK, ?_, ?_, bd (by omega) (by (simp only [CL,vY,List.map_append,List.map_cons,List.map_nil,aj,go_sem,reduceIte,zA,zB,zC,zD,zE,zF,reduceCtorEq]))⟩
       ·exact Qx
       ·exact Qy
      ·obtain ⟨CK, CL⟩ : ∃ z : Nat × Nat × Bool × List br, z = (k + 1, d, ok4, L ++ [⟨(x : Int), 0⟩]) := ⟨_, rfl⟩
       have Qx : CI s b c m CK.1 CK.2.1 CK.2.2.1 CK.2.2.2 := by rw [CL]; exact hS.stop qt T4 hx Ai _
       have Qy : AO s CK.2.1 CK.2.2.1 < AO s Ns Aw := by rw [CL]; exact uh qt (fun e => by rw [Ai] at e; cases e)
       simp only [hw,vY,fJ,uU,JN,List.length_append,List.length_cons,List.length_nil,Nat.zero_add,go_sem,reduceIte,zA,zB,zC,zD,zE,zF,reduceCtorEq]
       refine AM _ ⟨CK, ?_, ?_, bd (by omega) (by (simp only [CL,vY,List.map_append,List.map_cons,List.map_nil,aj,go_sem,reduceIte,zA,zB,zC,zD,zE,zF,reduceCtorEq]))⟩
       ·exact Qx
       ·exact Qy
     ·have F2 : Aw = true → ¬ k < m := fun _ => by have := of_decide_eq_false B7; omega
      simp only [hw,go_sem,reduceIte,zA,zB,zC,zD,zE,zF,reduceCtorEq]
      obtain ⟨rF, AK⟩ := hQ.step rm aF hr nr hS F2
      have L8 : AO s Ns Aw < AO s Rh Xa := uh rm AK
      refine iq (k := 1) (vs' := [str p, .slice (L.map aj)]) rfl (by simp [cj, er, bz, jb, List.take_of_length_le, zQ]) ?_
      refine uM tt_ok ?_
      simp only [hw,nR,Ck,PU,List.length_append,List.length_cons,List.length_nil,Nat.zero_add,go_sem,reduceIte,zA,zB,zC,zD,zE,zF,reduceCtorEq]
      refine cE _ ⟨(i + 1, Ns, Aw, R ++ [⟨p, L⟩]), ?_, ?_, bd (by omega) (by (simp only [hw,List.map_append,List.map_cons,List.map_nil,ak,al,go_sem,reduceIte,zA,zB,zC,zD,zE,zF,reduceCtorEq]))⟩
      ·exact rF
      ·exact L8
    ·have F2 : Aw = true → ¬ k < m := fun e => by rw [qt] at e; cases e
     simp only [hw,go_sem,reduceIte,zA,zB,zC,zD,zE,zF,reduceCtorEq]
     obtain ⟨rF, AK⟩ := hQ.step rm aF hr nr hS F2
     have L8 : AO s Ns Aw < AO s Rh Xa := uh rm AK
     refine iq (k := 1) (vs' := [str p, .slice (L.map aj)]) rfl (by simp [cj, er, bz, jb, List.take_of_length_le, zQ]) ?_
     refine uM tt_ok ?_
     simp only [hw,nR,Ck,PU,List.length_append,List.length_cons,List.length_nil,Nat.zero_add,go_sem,reduceIte,zA,zB,zC,zD,zE,zF,reduceCtorEq]
     refine cE _ ⟨(i + 1, Ns, Aw, R ++ [⟨p, L⟩]), ?_, ?_, bd (by omega) (by (simp only [hw,List.map_append,List.map_cons,List.map_nil,ak,al,go_sem,reduceIte,zA,zB,zC,zD,zE,zF,reduceCtorEq]))⟩
     ·exact rF
     ·exact L8
  ·have ax := hQ.out (fun _ => by have := of_decide_eq_false Cb; omega)
   simp only [hw,go_sem,reduceIte,zA,zB,zC,zD,zE,zF,reduceCtorEq]
   refine pW (v' := .slice (R.map ak)) 9 (by decide) rfl (by simp [lk, er, bz, LY, List.take_of_length_le]) ?_
   refine QY tt_ok [19,20] ?_
   simp only [hw,go_sem,reduceIte,zA,zB,zC,zD,zE,zF,reduceCtorEq]
   exact hK _ ⟨_, _, _, rfl, ax⟩
 ·have ax := hQ.out (fun e => by rw [rm] at e; cases e)
  simp only [hw,go_sem,reduceIte,zA,zB,zC,zD,zE,zF,reduceCtorEq]
  refine pW (v' := .slice (R.map ak)) 9 (by decide) rfl (by simp [lk, er, bz, LY, List.take_of_length_le]) ?_
  refine QY tt_ok [19,20] ?_
  simp only [hw,go_sem,reduceIte,zA,zB,zC,zD,zE,zF,reduceCtorEq]
  exact hK _ ⟨_, _, _, rfl, ax⟩
end Go.Proofs.YtnfeacnbgbggfaaGreatDoor
end

section
namespace Go.Proofs.YtnfeacnbgbggfaaGreatDoor
open Go.Eng
variable [aE]
set_option maxHeartbeats 4000000
set_option maxRecDepth 100000
theorem jq {s : ByteArray} {a n j : Nat} (h : eP s a = some (n, j)) : from_ s a = dp (n : Int) ++ from_ s j ∧ j ≤ s.size ∧ a < j := by
 have := nG h
 exact ⟨by rw [ig]; exact this.1, this.2.2.2.1, this.2.2.2.2⟩
theorem kR {s : ByteArray} {a : Nat} {n : Int} {rest : List UInt8} (h0 : 0 ≤ n) (hn : n ≤ 1048576) (h : from_ s a = dp n ++ rest) : ∃ (k j : Nat), eP s a = some (k, j) ∧ n = k ∧ from_ s j = rest := by
 obtain ⟨k, e, u⟩ := qk h0
 rw [u] at h
 obtain ⟨h1, h2⟩ := xk (by omega) h
 exact ⟨k, _, h1, e, h2⟩
theorem Ea {s : ByteArray} {c : Nat} : ∀ {k : Nat} {L : List br} {j : Nat}, c ≤ s.size → wb s k c = some (L, j) → from_ s c = L.flatMap po ++ from_ s j ∧ L.length = k ∧ c + k ≤ j ∧ j ≤ s.size
 | 0, L, j, hc, h => by
  rw [wb] at h
  cases h
  exact ⟨rfl, rfl, Nat.le_refl _, hc⟩
 | k + 1, L, j, hc, h => by
  rw [wb] at h
  cases h1 : wb s k c with
  | none => rw [h1] at h; cases h
  | some p =>
   obtain ⟨L1, b⟩ := p
   rw [h1] at h; dsimp only at h
   cases h2 : eP s b with
   | none => rw [h2] at h; cases h
   | some p =>
    obtain ⟨x, d⟩ := p
    rw [h2] at h; dsimp only at h
    cases h3 : eP s d with
    | none => rw [h3] at h; cases h
    | some p =>
     obtain ⟨y, e⟩ := p
     rw [h3] at h; dsimp only at h
     cases h
     obtain ⟨u1, u2, u3, u4⟩ := Ea hc h1
     obtain ⟨v1, v2, v3⟩ := jq h2
     obtain ⟨w1, w2, w3⟩ := jq h3
     refine ⟨?_, by rw [List.length_append, u2]; rfl, by omega, w2⟩
     rw [u1, v1, w1, List.flatMap_append, List.flatMap_cons, List.flatMap_nil, po]
     simp only [List.append_assoc,List.append_nil]
theorem Jl {s : ByteArray} {k a b c d x y : Nat} {L : List br} (h1 : wb s k a = some (L, b)) (h2 : eP s b = some (x, c)) (h3 : eP s c = some (y, d)) : wb s (k + 1) a = some (L ++ [⟨x, y⟩], d) := by
 rw [wb, h1]; dsimp only; rw [h2]; dsimp only; rw [h3]
theorem Jm {s : ByteArray} {a : Nat} : ∀ (n : Nat) (l : List br) (rest : List UInt8), l.length = n → (∀ x ∈ l, lh x) → from_ s a = l.flatMap po ++ rest → ∃ j, wb s n a = some (l, j) ∧ from_ s j = rest
 | 0, l, rest, hl, _, h => by
  obtain rfl := List.length_eq_zero_iff.1 hl
  exact ⟨a, rfl, h⟩
 | n + 1, l, rest, hl, hx, h => by
  obtain ⟨t, x, rfl⟩ : ∃ t x, l = t ++ [x] := ⟨l.dropLast, l.getLast (by intro e; rw [e] at hl; cases hl), (List.dropLast_concat_getLast _).symm⟩
  have hb := hx x (by simp)
  unfold lh at hb
  rw [List.flatMap_append, List.flatMap_cons, List.flatMap_nil, List.append_nil, po, List.append_assoc, List.append_assoc] at h
  obtain ⟨b, h1, h2⟩ := Jm n t _ (by rw [List.length_append] at hl; simpa using hl) (fun y hy => hx y (by simp [hy])) h
  obtain ⟨k1, c, h3, e1, h4⟩ := kR (by omega) (by omega) h2
  obtain ⟨k2, d, h5, e2, h6⟩ := kR (by omega) (by omega) h4
  refine ⟨d, ?_, h6⟩
  rw [Jl h1 h3 h5]
  congr 4
  exact br.ext' e1.symm e2.symm
theorem Mu {s : ByteArray} {a j : Nat} {q : Rq} (h : JP s a = some (q, j)) : from_ s a = iW q ++ from_ s j ∧ a < j ∧ j ≤ s.size ∧ q.path.size ≤ s.size ∧ q.set.length ≤ s.size := by
 unfold JP Mt at h
 cases h1 : lg s a with
 | none => rw [h1] at h; cases h
 | some p =>
  obtain ⟨t, b⟩ := p
  rw [h1] at h; dsimp only at h
  cases h2 : eP s b with
  | none => rw [h2] at h; cases h
  | some p =>
   obtain ⟨m, c⟩ := p
   rw [h2] at h; dsimp only at h
   cases h3 : wb s m c with
   | none => rw [h3] at h; cases h
   | some p =>
    obtain ⟨L, d⟩ := p
    rw [h3] at h; dsimp only at h
    cases h
    obtain ⟨t1, t2, t3, t4, t5⟩ := gi h1
    obtain ⟨v1, v2, v3⟩ := jq h2
    obtain ⟨w1, w2, w3, w4⟩ := Ea v2 h3
    refine ⟨?_, by omega, w4, t5, by dsimp only; omega⟩
    rw [t1, v1, w1]
    unfold iW
    dsimp only
    rw [w2]
    simp only [List.append_assoc]
theorem Qz {s : ByteArray} {q : Rq} {a : Nat} {rest : List UInt8} (hw : Lq q) (hb : tH q) (h : from_ s a = iW q ++ rest) : ∃ j, JP s a = some (q, j) ∧ from_ s j = rest := by
 have qG := hb.1
 have sC := hb.2
 unfold iW at h
 rw [List.append_assoc, List.append_assoc] at h
 obtain ⟨h1, DI⟩ := pZ (by omega) h
 obtain ⟨k, c, h2, e, Rb⟩ := kR (by omega) (by omega) DI
 obtain ⟨j, h3, h4⟩ := Jm q.set.length q.set rest rfl (gu hw) Rb
 obtain rfl : q.set.length = k := by omega
 refine ⟨j, ?_, h4⟩
 unfold JP Mt
 rw [h1]; dsimp only; rw [h2]; dsimp only; rw [h3]
theorem xQ {s : ByteArray} {c : Nat} : ∀ {k : Nat} {L : List Rq} {j : Nat}, c ≤ s.size → AN s k c = some (L, j) → from_ s c = L.flatMap iW ++ from_ s j ∧ L.length = k ∧ c + k ≤ j ∧ j ≤ s.size ∧ ∀ q ∈ L, q.path.size ≤ s.size ∧ q.set.length ≤ s.size
 | 0, L, j, hc, h => by
  rw [AN] at h
  cases h
  exact ⟨rfl, rfl, Nat.le_refl _, hc, fun q hq => by cases hq⟩
 | k + 1, L, j, hc, h => by
  rw [AN] at h
  cases h1 : AN s k c with
  | none => rw [h1] at h; cases h
  | some p =>
   obtain ⟨L1, b⟩ := p
   rw [h1] at h; dsimp only at h
   cases h2 : JP s b with
   | none => rw [h2] at h; cases h
   | some p =>
    obtain ⟨x, d⟩ := p
    rw [h2] at h; dsimp only at h
    cases h
    obtain ⟨u1, u2, u3, u4, u5⟩ := xQ hc h1
    obtain ⟨v1, v2, v3, v4⟩ := Mu h2
    refine ⟨?_, by rw [List.length_append, u2]; rfl, by omega, v3, fun q hq => ?_⟩
    ·rw [u1, v1, List.flatMap_append, List.flatMap_cons, List.flatMap_nil]
     simp only [List.append_assoc,List.append_nil]
    ·rcases List.mem_append.1 hq with hq | hq
     ·exact u5 q hq
     ·rw [List.mem_singleton] at hq; subst hq; exact v4
theorem Jn {s : ByteArray} {a : Nat} : ∀ (n : Nat) (l : List Rq) (rest : List UInt8), l.length = n → (∀ x ∈ l, Lq x ∧ tH x) → from_ s a = l.flatMap iW ++ rest → ∃ j, AN s n a = some (l, j) ∧ from_ s j = rest
 | 0, l, rest, hl, _, h => by
  obtain rfl := List.length_eq_zero_iff.1 hl
  exact ⟨a, rfl, h⟩
 | n + 1, l, rest, hl, hx, h => by
  obtain ⟨t, x, rfl⟩ : ∃ t x, l = t ++ [x] := ⟨l.dropLast, l.getLast (by intro e; rw [e] at hl; cases hl), (List.dropLast_concat_getLast _).symm⟩
  have hb := hx x (by simp)
  rw [List.flatMap_append, List.flatMap_cons, List.flatMap_nil, List.append_nil, List.append_assoc] at h
  obtain ⟨b, h1, h2⟩ := Jn n t _ (by rw [List.length_append] at hl; simpa using hl) (fun y hy => hx y (by simp [hy])) h
  obtain ⟨d, h3, h4⟩ := Qz hb.1 hb.2 h2
  refine ⟨d, ?_, h4⟩
  rw [AN, h1]; dsimp only; rw [h3]
theorem Eb {s : ByteArray} {a j : Nat} {L : List Rq} (h : Ga s a = some (L, j)) : from_ s a = dp (L.length : Int) ++ (L.flatMap iW ++ from_ s j) ∧ j ≤ s.size ∧ L.length ≤ s.size ∧ ∀ q ∈ L, q.path.size ≤ s.size ∧ q.set.length ≤ s.size := by
 unfold Ga at h
 cases h1 : eP s a with
 | none => rw [h1] at h; cases h
 | some p =>
  obtain ⟨n, b⟩ := p
  rw [h1] at h; dsimp only at h
  obtain ⟨v1, v2, v3⟩ := jq h1
  obtain ⟨u1, u2, u3, u4, u5⟩ := xQ v2 h
  exact ⟨by rw [v1, u1, u2], u4, by omega, u5⟩
def uZ (p : ByteArray) : Int := if bu p = true then bF p else -1
def ec (s : ByteArray) : Option Rl :=
 match lg s 0 with
 | none => none
 | some (p, a1) => match eP s a1 with
  | none => none
  | some (mn, a2) => match eP s a2 with
   | none => none
   | some (pt, a3) => match eP s a3 with
    | none => none
    | some (y, a4) => match lg s a4 with
     | none => none
     | some (ar, a5) => match lg s a5 with
      | none => none
      | some (ei, a6) => match lg s a6 with
       | none => none
       | some (ce, a7) => match Ga s a7 with
        | none => none
        | some (R, j) => if y ≤ 1 ∧ j = s.size ∧ fY ⟨p, ⟨uZ p, mn, pt⟩, R, ar, ei, ce, decide ((y : Int) = 1)⟩ = 0 then some ⟨p, ⟨uZ p, mn, pt⟩, R, ar, ei, ce, decide ((y : Int) = 1)⟩ else none
def cb (s : ByteArray) : V := match ec s with
 | some r => .bt [af r, num 0]
 | none => .bt [af dK, num 9]
theorem FT {s : ByteArray} (hs : s.size ≤ 1048576) {r : Rl} (h : ec s = some r) : s = bs (jA r) ∧ fY r = 0 ∧ xV r := by
 unfold ec at h
 split at h
 ·cases h
 rename_i p a1 h1
 split at h
 ·cases h
 rename_i mn a2 h2
 split at h
 ·cases h
 rename_i pt a3 h3
 split at h
 ·cases h
 rename_i y a4 h4
 split at h
 ·cases h
 rename_i ar a5 h5
 split at h
 ·cases h
 rename_i ei a6 h6
 split at h
 ·cases h
 rename_i ce a7 h7
 split at h
 ·cases h
 rename_i R j h8
 split at h
 ·rename_i hc
  obtain ⟨hy, hj, he⟩ := hc
  have h := Option.some.inj h
  obtain ⟨t1, _, _, _, t5⟩ := gi h1
  obtain ⟨t2, _⟩ := jq h2
  obtain ⟨t3, _⟩ := jq h3
  obtain ⟨t4, _⟩ := jq h4
  have k5 := (gi h5).1
  have k6 := (gi h6).1
  have k7 := (gi h7).1
  obtain ⟨k8, _, k9, T5⟩ := Eb h8
  refine ⟨?_, h ▸ he, ?_⟩
  ·apply iL
   rw [fp, ← mK, t1, t2, t3, t4, k5, k6, k7, k8, o5 (show s.size ≤ j by omega), List.append_nil]
   have xF : lZ r = (y : Int) := by
    rw [← h]; unfold lZ; dsimp only
    by_cases zg : (y : Int) = 1
    ·rw [decide_eq_true zg, if_pos rfl, zg]
    ·rw [decide_eq_false zg, if_neg (by simp)]; omega
   unfold jA AL
   rw [xF, ← h]
   simp only [List.append_assoc]
  ·rw [← h]
   exact ⟨by dsimp only; omega, by dsimp only; omega, fun q hq => ⟨by have := (T5 q hq).1; omega, by have := (T5 q hq).2; omega⟩⟩
 ·cases h
theorem Jo {s : ByteArray} {r : Rl} (hm : bs (jA r) = s) (h : fY r = 0) (hb : xV r) : ec s = some r := by
 have hw := zX h
 have hv := mH hw.ay
 have h0 : from_ s 0 = jA r := by rw [mK, ← hm, fp]
 have ZO := kO r
 unfold jA AL at h0
 simp only [List.append_assoc] at h0
 have s1 := cM hw.ar
 have s2 := cM hw.ei
 have s3 := cM hw.ce
 have qG := hb.1
 have sC := hb.2.1
 obtain ⟨p1, q1⟩ := pZ (by omega) h0
 obtain ⟨k2, j2, p2, e2, q2⟩ := kR (by omega) (by omega) q1
 obtain ⟨k3, j3, p3, e3, q3⟩ := kR (by omega) (by omega) q2
 obtain ⟨k4, j4, p4, e4, q4⟩ := kR (by omega) (by omega) q3
 obtain ⟨p5, q5⟩ := pZ (by omega) q4
 obtain ⟨p6, q6⟩ := pZ (by omega) q5
 obtain ⟨p7, q7⟩ := pZ (by omega) q6
 obtain ⟨k8, j8, p8, e8, q8⟩ := kR (by omega) (by omega) q7
 obtain ⟨j9, p9, q9⟩ := Jn r.reqs.length r.reqs [] rfl (fun q hq => ⟨hw.reqs q hq, hb.2.2 q hq⟩) (by rw [List.append_nil]; exact q8)
 obtain rfl : r.reqs.length = k8 := by omega
 have xF : decide ((k4 : Int) = 1) = r.yk := by
  rw [← e4]
  unfold lZ
  cases r.yk <;> simp
 have hj : j9 = s.size := by
  have h1 := congrArg List.length q9
  rw [gM] at h1
  have h2 : j9 ≤ s.size := (xQ (jq p8).2.1 p9).2.2.2.1
  simp at h1
  omega
 have WQ : uZ r.path = r.ay.mj := by
  have := hw.path
  unfold bw at this
  unfold uZ
  by_cases Yg : bu r.path = true
  ·rw [if_pos Yg, hw.mj]
  ·rw [if_neg Yg] at this; cases this
 have hr : (⟨r.path, ⟨r.ay.mj, (k2 : Int), (k3 : Int)⟩, r.reqs, r.ar, r.ei, r.ce, r.yk⟩ : Rl) = r := by rw [← e2, ← e3]
 unfold ec
 rw [p1]; dsimp only; rw [p2]; dsimp only; rw [p3]; dsimp only; rw [p4]; dsimp only; rw [p5]; dsimp only; rw [p6]; dsimp only; rw [p7]; dsimp only
 unfold Ga
 rw [p8]; dsimp only; rw [p9]; dsimp only
 rw [WQ, xF, hr, if_pos ⟨by omega, hj, h⟩]
theorem Jp {s : ByteArray} (hs : s.size ≤ 1048576) : cb s = gO s := by
 unfold cb
 cases h : ec s with
 | some r =>
  obtain ⟨h1, h2, h3⟩ := FT hs h
  have ca : ir [r] = 0 := (qf r).trans h2
  dsimp only
  rw [h1, Ae ca h3 (by have := congrArg ByteArray.size h1; rw [ib] at this; omega)]
 | none =>
  dsimp only
  cases ho : gv s with
  | false => exact (Aj ho).symm
  | true =>
   obtain ⟨h1, h2⟩ := IB ho
   rw [Jo h1 ((qf _).symm.trans h2) (IJ hs)] at h
   cases h
end Go.Proofs.YtnfeacnbgbggfaaGreatDoor
end

section
namespace Go.Proofs.YtnfeacnbgbggfaaGreatDoor
open Go.Eng
open Nat renaming reduceAdd → zA, reduceLT → zB, reduceLeDiff → zC, reduceMul → zD, reduceEqDiff → zE, reduceSub → zF
variable [aE]
set_option maxHeartbeats 4000000
set_option maxRecDepth 100000
theorem gQ (s : ByteArray) (hs : s.size ≤ 1048576) : ∃ r_, (fun w => w = num (uZ s)) r_ ∧ aP Tryz.prog 73 [str s] r_ := xO s hs
theorem Jq (s : ByteArray) (hs : s.size ≤ 1048576) : ∃ r_, (fun w => w = cb s) r_ ∧ aP Tryz.prog 20 [str s] r_ := by
 refine ek tt_ok [] 108 [.cell 2 40, .tmp 3] (fn := Tryz.f20) Tryz.func20 rfl Tryz.call20 ⟨rfl, rfl, by simp⟩ fun K hK => ?_
 have eE : Tryz.prog.underlying 9 = some .string := by kernel_rfl
 have sl : ∀ (a : ByteArray) (ty : TypeId), cd Tryz.prog (Builtin.len_ #[9] ty) [.sc (.string a)] = some (num a.size) := fun a ty => bE (P := Tryz.prog) (tt := tt) (T := 9) a eE ty
 rcases yI : lg s 0 with _ | ⟨p, a1⟩
 ·have QA := nW yI
  have ax : cb s = .bt [af dK, num 9] := by unfold cb ec; simp only [yI]
  simp only [sl,go_sem,reduceIte,zA,zB,zC,zD,zE,zF,reduceCtorEq]
  refine cF (by have h := gE s (by omega) 0 (by omega); rw [QA] at h; exact h) ?_
  rintro _ rfl
  simp only [sl,go_sem,reduceIte,zA,zB,zC,zD,zE,zF,reduceCtorEq]
  refine cF (gQ _ (by first | omega | decide)) ?_
  rintro _ rfl
  simp only [sl,go_sem,reduceIte,zA,zB,zC,zD,zE,zF,reduceCtorEq]
  exact hK _ (by rw [ax] <;> rfl)
 ·have QA := mN yI
  have aae : a1 ≤ s.size := (gi yI).2.2.1
  have TP : p.size ≤ s.size := (gi yI).2.2.2.2
  simp only [sl,go_sem,reduceIte,zA,zB,zC,zD,zE,zF,reduceCtorEq]
  refine cF (by have h := gE s (by omega) 0 (by omega); rw [QA] at h; exact h) ?_
  rintro _ rfl
  rcases CM : eP s a1 with _ | ⟨mn, a2⟩
  ·have QB := qq CM
   have ax : cb s = .bt [af dK, num 9] := by unfold cb ec; simp only [yI,CM]
   simp only [sl,go_sem,reduceIte,zA,zB,zC,zD,zE,zF,reduceCtorEq]
   refine cF (by have h := ij s (by omega) a1 (by omega); rw [QB] at h; exact h) ?_
   rintro _ rfl
   simp only [sl,go_sem,reduceIte,zA,zB,zC,zD,zE,zF,reduceCtorEq]
   refine cF (gQ _ (by first | omega | decide)) ?_
   rintro _ rfl
   simp only [sl,go_sem,reduceIte,zA,zB,zC,zD,zE,zF,reduceCtorEq]
   exact hK _ (by rw [ax] <;> rfl)
  ·have QB := ph CM
   have aaf : a2 ≤ s.size := (gY CM).2
   have hn6 := (gY CM).1
   simp only [sl,go_sem,reduceIte,zA,zB,zC,zD,zE,zF,reduceCtorEq]
   refine cF (by have h := ij s (by omega) a1 (by omega); rw [QB] at h; exact h) ?_
   rintro _ rfl
   rcases Ec : eP s a2 with _ | ⟨pt, a3⟩
   ·have QC := qq Ec
    have ax : cb s = .bt [af dK, num 9] := by unfold cb ec; simp only [yI,CM,Ec]
    simp only [sl,go_sem,reduceIte,zA,zB,zC,zD,zE,zF,reduceCtorEq]
    refine cF (by have h := ij s (by omega) a2 (by omega); rw [QC] at h; exact h) ?_
    rintro _ rfl
    simp only [sl,go_sem,reduceIte,zA,zB,zC,zD,zE,zF,reduceCtorEq]
    refine cF (gQ _ (by first | omega | decide)) ?_
    rintro _ rfl
    simp only [sl,go_sem,reduceIte,zA,zB,zC,zD,zE,zF,reduceCtorEq]
    exact hK _ (by rw [ax] <;> rfl)
   ·have QC := ph Ec
    have aag : a3 ≤ s.size := (gY Ec).2
    have hn8 := (gY Ec).1
    simp only [sl,go_sem,reduceIte,zA,zB,zC,zD,zE,zF,reduceCtorEq]
    refine cF (by have h := ij s (by omega) a2 (by omega); rw [QC] at h; exact h) ?_
    rintro _ rfl
    rcases qu : eP s a3 with _ | ⟨y, a4⟩
    ·have Jr := qq qu
     have ax : cb s = .bt [af dK, num 9] := by unfold cb ec; simp only [yI,CM,Ec,qu]
     simp only [sl,go_sem,reduceIte,zA,zB,zC,zD,zE,zF,reduceCtorEq]
     refine cF (by have h := ij s (by omega) a3 (by omega); rw [Jr] at h; exact h) ?_
     rintro _ rfl
     simp only [sl,go_sem,reduceIte,zA,zB,zC,zD,zE,zF,reduceCtorEq]
     refine cF (gQ _ (by first | omega | decide)) ?_
     rintro _ rfl
     simp only [sl,go_sem,reduceIte,zA,zB,zC,zD,zE,zF,reduceCtorEq]
     exact hK _ (by rw [ax] <;> rfl)
    ·have Jr := ph qu
     have Yh : a4 ≤ s.size := (gY qu).2
     have aah := (gY qu).1
     simp only [sl,go_sem,reduceIte,zA,zB,zC,zD,zE,zF,reduceCtorEq]
     refine cF (by have h := ij s (by omega) a3 (by omega); rw [Jr] at h; exact h) ?_
     rintro _ rfl
     rcases ui : lg s a4 with _ | ⟨ar, a5⟩
     ·have Js := nW ui
      have ax : cb s = .bt [af dK, num 9] := by unfold cb ec; simp only [yI,CM,Ec,qu,ui]
      simp only [sl,go_sem,reduceIte,zA,zB,zC,zD,zE,zF,reduceCtorEq]
      refine cF (by have h := gE s (by omega) a4 (by omega); rw [Js] at h; exact h) ?_
      rintro _ rfl
      simp only [sl,go_sem,reduceIte,zA,zB,zC,zD,zE,zF,reduceCtorEq]
      refine cF (gQ _ (by first | omega | decide)) ?_
      rintro _ rfl
      simp only [sl,go_sem,reduceIte,zA,zB,zC,zD,zE,zF,reduceCtorEq]
      exact hK _ (by rw [ax] <;> rfl)
     ·have Js := mN ui
      have Yi : a5 ≤ s.size := (gi ui).2.2.1
      simp only [sl,go_sem,reduceIte,zA,zB,zC,zD,zE,zF,reduceCtorEq]
      refine cF (by have h := gE s (by omega) a4 (by omega); rw [Js] at h; exact h) ?_
      rintro _ rfl
      rcases u0 : lg s a5 with _ | ⟨ei, a6⟩
      ·have Jt := nW u0
       have ax : cb s = .bt [af dK, num 9] := by unfold cb ec; simp only [yI,CM,Ec,qu,ui,u0]
       simp only [sl,go_sem,reduceIte,zA,zB,zC,zD,zE,zF,reduceCtorEq]
       refine cF (by have h := gE s (by omega) a5 (by omega); rw [Jt] at h; exact h) ?_
       rintro _ rfl
       simp only [sl,go_sem,reduceIte,zA,zB,zC,zD,zE,zF,reduceCtorEq]
       refine cF (gQ _ (by first | omega | decide)) ?_
       rintro _ rfl
       simp only [sl,go_sem,reduceIte,zA,zB,zC,zD,zE,zF,reduceCtorEq]
       exact hK _ (by rw [ax] <;> rfl)
      ·have Jt := mN u0
       have Yj : a6 ≤ s.size := (gi u0).2.2.1
       simp only [sl,go_sem,reduceIte,zA,zB,zC,zD,zE,zF,reduceCtorEq]
       refine cF (by have h := gE s (by omega) a5 (by omega); rw [Jt] at h; exact h) ?_
       rintro _ rfl
       rcases xR : lg s a6 with _ | ⟨ce, a7⟩
       ·have Ju := nW xR
        have ax : cb s = .bt [af dK, num 9] := by unfold cb ec; simp only [yI,CM,Ec,qu,ui,u0,xR]
        simp only [sl,go_sem,reduceIte,zA,zB,zC,zD,zE,zF,reduceCtorEq]
        refine cF (by have h := gE s (by omega) a6 (by omega); rw [Ju] at h; exact h) ?_
        rintro _ rfl
        simp only [sl,go_sem,reduceIte,zA,zB,zC,zD,zE,zF,reduceCtorEq]
        refine cF (gQ _ (by first | omega | decide)) ?_
        rintro _ rfl
        simp only [sl,go_sem,reduceIte,zA,zB,zC,zD,zE,zF,reduceCtorEq]
        exact hK _ (by rw [ax] <;> rfl)
       ·have Ju := mN xR
        have Yk : a7 ≤ s.size := (gi xR).2.2.1
        simp only [sl,go_sem,reduceIte,zA,zB,zC,zD,zE,zF,reduceCtorEq]
        refine cF (by have h := gE s (by omega) a6 (by omega); rw [Ju] at h; exact h) ?_
        rintro _ rfl
        simp only [sl,go_sem,reduceIte,zA,zB,zC,zD,zE,zF,reduceCtorEq]
        refine cF (Qw s hs a7 (by omega)) ?_
        rintro _ ⟨L, j, ok, rfl, Xc, dH⟩
        simp only [sl,go_sem,reduceIte,zA,zB,zC,zD,zE,zF,reduceCtorEq]
        refine cF (gQ _ (by first | omega | decide)) ?_
        rintro _ rfl
        simp only [sl,go_sem,reduceIte,zA,zB,zC,zD,zE,zF,reduceCtorEq]
        refine aL (fun CN => ?_) (fun CN => ?_)
        ·have bB : ok = false := by simpa using CN
         have Xd := dH bB
         have ax : cb s = .bt [af dK, num 9] := by unfold cb ec; simp only [yI,CM,Ec,qu,ui,u0,xR,Xd]
         simp only [sl,go_sem,reduceIte,zA,zB,zC,zD,zE,zF,reduceCtorEq]
         exact hK _ (by rw [ax] <;> rfl)
        ·have bB : ok = true := by simpa using CN
         have Jv := Xc bB
         obtain ⟨_, k8, k9, T5⟩ := Eb Jv
         have Vd : xV ⟨p, ⟨uZ p, mn, pt⟩, L, ar, ei, ce, decide ((y : Int) = 1)⟩ := ⟨by dsimp only; omega, by dsimp only; omega, fun q hq => ⟨by have := (T5 q hq).1; omega, by have := (T5 q hq).2; omega⟩⟩
         simp only [sl,go_sem,reduceIte,zA,zB,zC,zD,zE,zF,reduceCtorEq]
         refine aL (fun CO => ?_) (fun CO => ?_)
         ·have zg : ¬ y ≤ 1 := by have := of_decide_eq_true CO; omega
          have ax : cb s = .bt [af dK, num 9] := by unfold cb ec; simp only [yI,CM,Ec,qu,ui,u0,xR,Jv]; rw [if_neg (fun h => zg h.1)]
          simp only [sl,go_sem,reduceIte,zA,zB,zC,zD,zE,zF,reduceCtorEq]
          exact hK _ (by rw [ax] <;> rfl)
         ·have zg : y ≤ 1 := by have := of_decide_eq_false CO; omega
          simp only [sl,go_sem,reduceIte,zA,zB,zC,zD,zE,zF,reduceCtorEq]
          refine aL (fun sg => ?_) (fun sg => ?_)
          ·have hj : ¬ j = s.size := by intro e; rw [e] at sg; simp at sg
           have ax : cb s = .bt [af dK, num 9] := by unfold cb ec; simp only [yI,CM,Ec,qu,ui,u0,xR,Jv]; rw [if_neg (fun h => hj h.2.1)]
           simp only [sl,go_sem,reduceIte,zA,zB,zC,zD,zE,zF,reduceCtorEq]
           exact hK _ (by rw [ax] <;> rfl)
          ·have hj : j = s.size := by have h := sg; simp at h; omega
           simp only [sl,go_sem,reduceIte,zA,zB,zC,zD,zE,zF,reduceCtorEq]
           refine cF (by have h := rl ⟨p, ⟨uZ p, mn, pt⟩, L, ar, ei, ce, decide ((y : Int) = 1)⟩ Vd; simp only [af,ag,ah] at h; exact h) ?_
           rintro _ rfl
           simp only [sl,go_sem,reduceIte,zA,zB,zC,zD,zE,zF,reduceCtorEq]
           refine aL (fun Jw => ?_) (fun Jw => ?_)
           ·have he : ¬ fY ⟨p, ⟨uZ p, mn, pt⟩, L, ar, ei, ce, decide ((y : Int) = 1)⟩ = 0 := by simpa using Jw
            have ax : cb s = .bt [af dK, num 9] := by unfold cb ec; simp only [yI,CM,Ec,qu,ui,u0,xR,Jv]; rw [if_neg (fun h => he h.2.2)]
            simp only [sl,go_sem,reduceIte,zA,zB,zC,zD,zE,zF,reduceCtorEq]
            exact hK _ (by rw [ax] <;> rfl)
           ·have he : fY ⟨p, ⟨uZ p, mn, pt⟩, L, ar, ei, ce, decide ((y : Int) = 1)⟩ = 0 := by simpa using Jw
            have ax : cb s = .bt [af ⟨p, ⟨uZ p, mn, pt⟩, L, ar, ei, ce, decide ((y : Int) = 1)⟩, num 0] := by unfold cb ec; simp only [yI,CM,Ec,qu,ui,u0,xR,Jv]; rw [if_pos ⟨zg, hj, he⟩]
            simp only [sl,go_sem,reduceIte,zA,zB,zC,zD,zE,zF,reduceCtorEq]
            exact hK _ (by rw [ax] <;> rfl)
end Go.Proofs.YtnfeacnbgbggfaaGreatDoor
end

section
namespace Go.Proofs.YtnfeacnbgbggfaaGreatDoor
open Go.Eng
open Nat renaming reduceAdd → zA, reduceLT → zB, reduceLeDiff → zC, reduceMul → zD, reduceEqDiff → zE, reduceSub → zF
variable [aE]
set_option maxHeartbeats 4000000
set_option maxRecDepth 100000
theorem me (x y : Operand) (A B : List UInt8) (h : A.length + B.length ≤ 9223372036854775807) : aQ Tryz.prog (fq .add 9 x y) (str (bs A)) (str (bs B)) = some (str (bs (A ++ B))) := by
 rw [kB Tryz.prog 9 x y (bs A) (bs B) (by rw [ib, ib, show IntKind.i64.max = 9223372036854775807 from rfl]; omega), Cd]
theorem dY (n : Int) (h0 : 0 ≤ n) (hn : n < 9223372036854775808) : ∃ r_, (fun w => w = str (bs (dp n))) r_ ∧ aP Tryz.prog 61 [num n] r_ := by
 obtain ⟨m, rfl⟩ := Int.eq_ofNat_of_zero_le h0
 exact FR m (by omega)
theorem Ax {α : Type} {l : List α} {i : Nat} {x : α} (h : l[i]? = some x) (g : α → List UInt8) : (l.take (i + 1)).flatMap g = (l.take i).flatMap g ++ g x := by
 rw [List.take_add_one, h, List.flatMap_append]; simp
theorem Ay (l : List Rq) (hl : l.length ≤ 1048576) (hb : ∀ q ∈ l, tH q) (WG : ∀ q ∈ l, Lq q) (QN : ∀ i, ((l.take i).flatMap iW).length ≤ 352323040) : ∃ r_, (fun w => w = str (bs (dp (l.length : Int) ++ l.flatMap iW))) r_ ∧ aP Tryz.prog 62 [ah l] r_ := by
 refine ek tt_ok [] 65 [.tmp 2] (fn := Tryz.f62) Tryz.func62 rfl Tryz.call62 ⟨rfl, rfl, by simp⟩ fun K hK => ?_
 have QH := bK (n := (l.length : Int)) (by omega) (by omega)
 simp only [List.length_map,go_sem,reduceIte,zA,zB,zC,zD,zE,zF,reduceCtorEq]
 refine cF (dY (l.length : Int) (by omega) (by omega)) ?_
 rintro _ rfl
 simp only [List.length_map,go_sem,reduceIte,zA,zB,zC,zD,zE,zF,reduceCtorEq]
 refine bO tt_ok [] [4,3] 0 [0,2] (fun vs => ((l.length : Int) - Go.Eng.intOf (vs.headD .undef)).toNat) (fun vs => ∃ i : Nat, vs = [num i, str (bs (dp (l.length : Int) ++ (l.take i).flatMap iW))] ∧ i ≤ l.length) (by omega) (by simp only [List.length_map,go_sem,reduceIte,zA,zB,zC,zD,zE,zF,reduceCtorEq]) (⟨0, by simp only [List.take_zero,List.flatMap_nil,List.append_nil]; rfl, Nat.zero_le _⟩) fun vs hI Z1 cE => ?_
 obtain ⟨i, rfl, hi⟩ := hI
 simp only [List.length_map,go_sem,reduceIte,zA,zB,zC,zD,zE,zF,reduceCtorEq]
 refine aL (fun BZ => ?_) (fun BZ => ?_)
 ·have aF : i < l.length := by simpa using BZ
  have hw := aC i (by omega)
  obtain ⟨x, hx⟩ : ∃ x, l[i]? = some x := ⟨_, List.getElem?_eq_getElem aF⟩
  have rD := List.mem_of_getElem? hx
  have DJ := hb x rD
  have hxw := WG x rD
  have rK := gu hxw
  have hf0 := QN i
  have QO := fN x.path DJ.1
  have na := DJ.2
  have RC := bK (n := (x.set.length : Int)) (by omega) (by omega)
  have hZ : ∀ k, ((x.set.take k).flatMap po).length ≤ 20971520 := fun k => by
   have h1 := r7 (l := x.set.take k) fun y hy => rK y (List.mem_of_mem_take hy)
   rw [List.length_take] at h1; omega
  have eS := fun a b => me a b (dp (l.length : Int) ++ (l.take i).flatMap iW) (eT x.path) (by simp only [List.length_append]; omega)
  have eD := fun a b => me a b ((dp (l.length : Int) ++ (l.take i).flatMap iW) ++ eT x.path) (dp (x.set.length : Int)) (by simp only [List.length_append]; omega)
  simp only [hw,List.getElem?_map,hx,ak,eS,eD,List.length_map,go_sem,reduceIte,zA,zB,zC,zD,zE,zF,reduceCtorEq]
  refine bH tt_ok aK [⟨.n, 0, [], [], []⟩, ⟨.n, 0, [], [], []⟩, ⟨.n, 0, [], [], []⟩, ⟨.r, 0, [], [], []⟩, ⟨.n, 0, [], [], []⟩, ⟨.r, 0, [], [], []⟩, ⟨.n, 0, [], [], []⟩, ⟨.n, 0, [], [], []⟩, ⟨.n, 0, [], [], []⟩, ⟨.n, 0, [], [], []⟩, ⟨.r, 0, [], [], []⟩, ⟨.n, 0, [], [], []⟩, ⟨.r, 0, [], [], []⟩, ⟨.n, 0, [], [], []⟩, ⟨.n, 0, [], [], []⟩, ⟨.n, 0, [], [], []⟩, ⟨.n, 0, [], [], []⟩] 0 (by kernel_rfl) ?_
  simp only [hw,List.getElem?_map,hx,ak,eS,eD,List.length_map,go_sem,reduceIte,zA,zB,zC,zD,zE,zF,reduceCtorEq]
  refine cG (eN x.path DJ.1) ?_
  rintro _ rfl
  simp only [hw,List.getElem?_map,hx,ak,eS,eD,List.length_map,go_sem,reduceIte,zA,zB,zC,zD,zE,zF,reduceCtorEq]
  refine cG (dY (x.set.length : Int) (by omega) (by omega)) ?_
  rintro _ rfl
  simp only [hw,List.getElem?_map,hx,ak,eS,eD,List.length_map,go_sem,reduceIte,zA,zB,zC,zD,zE,zF,reduceCtorEq]
  refine bO tt_ok [] [5,3] 0 [0,2,4,9,10,11,12,15,16,17,18,19,20,21,22,23,24,25,26,27,28,29,30] (fun vs => ((x.set.length : Int) - Go.Eng.intOf (vs.headD .undef)).toNat) (fun vs => ∃ k : Nat, vs = [num k, str (bs ((((dp (l.length : Int) ++ (l.take i).flatMap iW) ++ eT x.path) ++ dp (x.set.length : Int)) ++ (x.set.take k).flatMap po))] ∧ k ≤ x.set.length) (by omega) (by simp only [hw,List.getElem?_map,hx,ak,eS,eD,List.length_map,go_sem,reduceIte,zA,zB,zC,zD,zE,zF,reduceCtorEq]) (⟨0, by simp only [List.take_zero,List.flatMap_nil,List.append_nil]; rfl, Nat.zero_le _⟩) fun vs hI Z2 pn => ?_
  obtain ⟨k, rfl, hk⟩ := hI
  simp only [hw,List.getElem?_map,hx,ak,eS,eD,List.length_map,go_sem,reduceIte,zA,zB,zC,zD,zE,zF,reduceCtorEq]
  refine aL (fun jC => ?_) (fun jC => ?_)
  ·have dL : k < x.set.length := by simpa using jC
   have vY := aC k (by omega)
   obtain ⟨y, hy⟩ : ∃ y, x.set[k]? = some y := ⟨_, List.getElem?_eq_getElem dL⟩
   have WE := rK y (List.mem_of_getElem? hy)
   unfold lh at WE
   have Uf := hZ k
   have Xu := bK (n := y.lo) (by omega) (by omega)
   have hf5 := bK (n := y.hi) (by omega) (by omega)
   have AI := fun a b => me a b ((((dp (l.length : Int) ++ (l.take i).flatMap iW) ++ eT x.path) ++ dp (x.set.length : Int)) ++ (x.set.take k).flatMap po) (dp y.lo) (by simp only [List.length_append]; omega)
   have Qn := fun a b => me a b (((((dp (l.length : Int) ++ (l.take i).flatMap iW) ++ eT x.path) ++ dp (x.set.length : Int)) ++ (x.set.take k).flatMap po) ++ dp y.lo) (dp y.hi) (by simp only [List.length_append]; omega)
   have FY : (((dp (l.length : Int) ++ (l.take i).flatMap iW) ++ eT x.path) ++ dp (x.set.length : Int)) ++ (x.set.take (k + 1)).flatMap po = (((((dp (l.length : Int) ++ (l.take i).flatMap iW) ++ eT x.path) ++ dp (x.set.length : Int)) ++ (x.set.take k).flatMap po) ++ dp y.lo) ++ dp y.hi := by rw [Ax hy po]; simp only [po,List.append_assoc]
   simp only [hw,List.getElem?_map,hx,ak,eS,eD,vY,hy,aj,AI,Qn,List.length_map,go_sem,reduceIte,zA,zB,zC,zD,zE,zF,reduceCtorEq]
   refine bH tt_ok aK [⟨.n, 0, [], [], []⟩, ⟨.n, 0, [], [], []⟩, ⟨.n, 0, [], [], []⟩, ⟨.r, 0, [], [], []⟩, ⟨.n, 0, [], [], []⟩, ⟨.r, 0, [], [], []⟩, ⟨.n, 0, [], [], []⟩, ⟨.r, 0, [], [], []⟩, ⟨.n, 0, [], [], []⟩, ⟨.r, 0, [], [], []⟩, ⟨.n, 0, [], [], []⟩, ⟨.n, 0, [], [], []⟩, ⟨.n, 0, [], [], []⟩, ⟨.n, 0, [], [], []⟩, ⟨.r, 0, [], [], []⟩, ⟨.n, 0, [], [], []⟩, ⟨.r, 0, [], [], []⟩, ⟨.n, 0, [], [], []⟩, ⟨.r, 0, [], [], []⟩, ⟨.n, 0, [], [], []⟩, ⟨.r, 0, [], [], []⟩, ⟨.n, 0, [], [], []⟩, ⟨.n, 0, [], [], []⟩, ⟨.n, 0, [], [], []⟩] 0 (by kernel_rfl) ?_
   simp only [hw,List.getElem?_map,hx,ak,eS,eD,vY,hy,aj,AI,Qn,List.length_map,go_sem,reduceIte,zA,zB,zC,zD,zE,zF,reduceCtorEq]
   refine cG (dY y.lo (by omega) (by omega)) ?_
   rintro _ rfl
   simp only [hw,List.getElem?_map,hx,ak,eS,eD,vY,hy,aj,AI,Qn,List.length_map,go_sem,reduceIte,zA,zB,zC,zD,zE,zF,reduceCtorEq]
   refine cG (dY y.hi (by omega) (by omega)) ?_
   rintro _ rfl
   simp only [hw,List.getElem?_map,hx,ak,eS,eD,vY,hy,aj,AI,Qn,List.length_map,go_sem,reduceIte,zA,zB,zC,zD,zE,zF,reduceCtorEq]
   refine pn _ (eR (by omega) (by simp only [hw,List.getElem?_map,hx,ak,eS,eD,vY,hy,aj,AI,Qn,List.length_map,go_sem,reduceIte,zA,zB,zC,zD,zE,zF,reduceCtorEq]) ?_ ?_) <;> simp only [ja,lk,reduceIte,zE]
   ·exact ⟨k + 1, by rw [FY] <;> rfl, dL⟩
   ·simp only [Go.Eng.intOf,List.headD_cons]; omega
  ·have RY : k = x.set.length := by have := of_decide_eq_false jC; omega
   subst RY
   have hke : (((dp (l.length : Int) ++ (l.take i).flatMap iW) ++ eT x.path) ++ dp (x.set.length : Int)) ++ x.set.flatMap po = dp (l.length : Int) ++ ((l.take i).flatMap iW ++ iW x) := by simp only [iW,List.append_assoc]
   simp only [hw,List.getElem?_map,hx,ak,eS,eD,List.length_map,go_sem,reduceIte,zA,zB,zC,zD,zE,zF,reduceCtorEq]
   refine cE _ (eR (by omega) (by simp only [hw,List.getElem?_map,hx,ak,eS,eD,List.length_map,go_sem,reduceIte,zA,zB,zC,zD,zE,zF,reduceCtorEq]) ?_ ?_) <;> simp only [ja,lk,reduceIte,zE]
   ·exact ⟨i + 1, by rw [Ax hx iW, ← hke] <;> rfl, aF⟩
   ·simp only [Go.Eng.intOf,List.headD_cons]; omega
 ·have dg : i = l.length := by have := of_decide_eq_false BZ; omega
  subst dg
  rw [List.take_length]
  simp only [List.length_map,go_sem,reduceIte,zA,zB,zC,zD,zE,zF,reduceCtorEq]
  exact hK _ rfl
theorem xS (r : Rl) (hb : xV r) : ∃ r_, (fun w => w = qg r) r_ ∧ aP Tryz.prog 18 [af r] r_ := by
 refine ek tt_ok [] 48 [.tmp 2, .tmp 3] (fn := Tryz.f18) Tryz.func18 rfl Tryz.call18 ⟨rfl, rfl, by simp⟩ fun K hK => ?_
 simp only [af,ag]
 have ca := qf r
 simp only [go_sem,reduceIte,zA,zB,zC,zD,zE,zF,reduceCtorEq]
 refine cF (by have h := rl r hb; simp only [af,ag,ah] at h; exact h) ?_
 rintro _ rfl
 simp only [go_sem,reduceIte,zA,zB,zC,zD,zE,zF,reduceCtorEq]
 refine aL (fun eL => ?_) (fun eL => ?_)
 ·have bD : ir [r] ≠ 0 := by rw [ca]; simpa using eL
  have L9 : qg r = .bt [str (bs []), num (fY r)] := by unfold qg; rw [if_neg bD, ca]
  simp only [go_sem,reduceIte,zA,zB,zC,zD,zE,zF,reduceCtorEq]
  exact hK _ (by rw [L9] <;> rfl)
 ·have h0 : fY r = 0 := by simpa using eL
  have xw := zX h0
  have hv := mH xw.ay
  have WE := kO r
  have pC := xw.len
  have JU := cM xw.ar
  have hli := cM xw.ei
  have NU := cM xw.ce
  have e1 := fN r.path hb.1
  have e2 := fN r.ar (by omega)
  have e3 := fN r.ei (by omega)
  have e4 := fN r.ce (by omega)
  have e5 := bK (n := r.ay.mn) (by omega) (by omega)
  have e6 := bK (n := r.ay.pt) (by omega) (by omega)
  have e7 := bK (n := lZ r) (by omega) (by omega)
  have e8 := bK (n := (r.reqs.length : Int)) (by omega) (by omega)
  have e9 := o7 xw hb r.reqs.length
  rw [List.take_length] at e9
  have s1 := fun a b => me a b (eT r.path) (dp r.ay.mn) (by omega)
  have s2 := fun a b => me a b (eT r.path ++ dp r.ay.mn) (dp r.ay.pt) (by simp only [List.length_append]; omega)
  have s3 := fun a b => me a b ((eT r.path ++ dp r.ay.mn) ++ dp r.ay.pt) (dp (lZ r)) (by simp only [List.length_append]; omega)
  have s4 := fun a b => me a b (((eT r.path ++ dp r.ay.mn) ++ dp r.ay.pt) ++ dp (lZ r)) (eT r.ar) (by simp only [List.length_append]; omega)
  have s5 := fun a b => me a b ((((eT r.path ++ dp r.ay.mn) ++ dp r.ay.pt) ++ dp (lZ r)) ++ eT r.ar) (eT r.ei) (by simp only [List.length_append]; omega)
  have s6 := fun a b => me a b (((((eT r.path ++ dp r.ay.mn) ++ dp r.ay.pt) ++ dp (lZ r)) ++ eT r.ar) ++ eT r.ei) (eT r.ce) (by simp only [List.length_append]; omega)
  have s7 := fun a b => me a b ((((((eT r.path ++ dp r.ay.mn) ++ dp r.ay.pt) ++ dp (lZ r)) ++ eT r.ar) ++ eT r.ei) ++ eT r.ce) (dp (r.reqs.length : Int) ++ r.reqs.flatMap iW) (by simp only [List.length_append]; omega)
  have L9 : qg r = .bt [str (bs (((((((eT r.path ++ dp r.ay.mn) ++ dp r.ay.pt) ++ dp (lZ r)) ++ eT r.ar) ++ eT r.ei) ++ eT r.ce) ++ (dp (r.reqs.length : Int) ++ r.reqs.flatMap iW))), num 0] := by unfold qg; rw [if_pos (ca.trans h0)]; simp only [jA,AL,List.append_assoc]
  simp only [s1,s2,s3,s4,s5,s6,s7,go_sem,reduceIte,zA,zB,zC,zD,zE,zF,reduceCtorEq]
  refine aL (fun jz => ?_) (fun jz => ?_)
  ·have xF : num (lZ r) = num 1 := congrArg num (by unfold lZ; rw [jz]; rfl)
   simp only [s1,s2,s3,s4,s5,s6,s7,go_sem,reduceIte,zA,zB,zC,zD,zE,zF,reduceCtorEq]
   refine bH tt_ok aK [⟨.n, 0, [], [], []⟩, ⟨.r, 0, [], [], []⟩, ⟨.n, 0, [], [], []⟩, ⟨.n, 0, [], [], []⟩, ⟨.n, 0, [], [], []⟩, ⟨.r, 0, [], [], []⟩, ⟨.n, 0, [], [], []⟩, ⟨.n, 0, [], [], []⟩, ⟨.n, 0, [], [], []⟩, ⟨.n, 0, [], [], []⟩, ⟨.r, 0, [], [], []⟩, ⟨.n, 0, [], [], []⟩, ⟨.n, 0, [], [], []⟩, ⟨.n, 0, [], [], []⟩, ⟨.n, 0, [], [], []⟩, ⟨.n, 0, [], [], []⟩, ⟨.n, 0, [], [], []⟩] 0 (by kernel_rfl) ?_
   simp only [s1,s2,s3,s4,s5,s6,s7,go_sem,reduceIte,zA,zB,zC,zD,zE,zF,reduceCtorEq]
   refine cG (eN r.path hb.1) ?_
   rintro _ rfl
   simp only [s1,s2,s3,s4,s5,s6,s7,go_sem,reduceIte,zA,zB,zC,zD,zE,zF,reduceCtorEq]
   refine cG (dY r.ay.mn (by omega) (by omega)) ?_
   rintro _ rfl
   simp only [s1,s2,s3,s4,s5,s6,s7,go_sem,reduceIte,zA,zB,zC,zD,zE,zF,reduceCtorEq]
   refine cG (dY r.ay.pt (by omega) (by omega)) ?_
   rintro _ rfl
   simp only [s1,s2,s3,s4,s5,s6,s7,go_sem,reduceIte,zA,zB,zC,zD,zE,zF,reduceCtorEq]
   refine cG (by obtain ⟨_, rfl, h⟩ := dY (lZ r) (by omega) (by omega); rw [xF] at h; exact ⟨_, rfl, h⟩) ?_
   rintro _ rfl
   simp only [s1,s2,s3,s4,s5,s6,s7,go_sem,reduceIte,zA,zB,zC,zD,zE,zF,reduceCtorEq]
   refine bH tt_ok aK [⟨.n, 0, [], [], []⟩, ⟨.n, 0, [], [], []⟩, ⟨.r, 0, [], [], []⟩, ⟨.n, 0, [], [], []⟩, ⟨.n, 0, [], [], []⟩, ⟨.n, 0, [], [], []⟩, ⟨.r, 0, [], [], []⟩, ⟨.n, 0, [], [], []⟩, ⟨.n, 0, [], [], []⟩, ⟨.n, 0, [], [], []⟩, ⟨.r, 0, [], [], []⟩, ⟨.n, 0, [], [], []⟩, ⟨.n, 0, [], [], []⟩, ⟨.n, 0, [], [], []⟩] 0 (by kernel_rfl) ?_
   simp only [s1,s2,s3,s4,s5,s6,s7,go_sem,reduceIte,zA,zB,zC,zD,zE,zF,reduceCtorEq]
   refine cG (eN r.ar (by omega)) ?_
   rintro _ rfl
   simp only [s1,s2,s3,s4,s5,s6,s7,go_sem,reduceIte,zA,zB,zC,zD,zE,zF,reduceCtorEq]
   refine cG (eN r.ei (by omega)) ?_
   rintro _ rfl
   simp only [s1,s2,s3,s4,s5,s6,s7,go_sem,reduceIte,zA,zB,zC,zD,zE,zF,reduceCtorEq]
   refine cG (eN r.ce (by omega)) ?_
   rintro _ rfl
   simp only [s1,s2,s3,s4,s5,s6,s7,go_sem,reduceIte,zA,zB,zC,zD,zE,zF,reduceCtorEq]
   refine cF (by have h := Ay r.reqs (by omega) hb.2.2 xw.reqs (o7 xw hb); simp only [ah] at h; exact h) ?_
   rintro _ rfl
   simp only [s1,s2,s3,s4,s5,s6,s7,go_sem,reduceIte,zA,zB,zC,zD,zE,zF,reduceCtorEq]
   exact hK _ (by rw [L9] <;> rfl)
  ·have xF : num (lZ r) = num 0 := congrArg num (by unfold lZ; rw [jz]; rfl)
   simp only [s1,s2,s3,s4,s5,s6,s7,go_sem,reduceIte,zA,zB,zC,zD,zE,zF,reduceCtorEq]
   refine bH tt_ok aK [⟨.n, 0, [], [], []⟩, ⟨.r, 0, [], [], []⟩, ⟨.n, 0, [], [], []⟩, ⟨.n, 0, [], [], []⟩, ⟨.n, 0, [], [], []⟩, ⟨.r, 0, [], [], []⟩, ⟨.n, 0, [], [], []⟩, ⟨.n, 0, [], [], []⟩, ⟨.n, 0, [], [], []⟩, ⟨.n, 0, [], [], []⟩, ⟨.r, 0, [], [], []⟩, ⟨.n, 0, [], [], []⟩, ⟨.n, 0, [], [], []⟩, ⟨.n, 0, [], [], []⟩, ⟨.n, 0, [], [], []⟩, ⟨.n, 0, [], [], []⟩, ⟨.n, 0, [], [], []⟩] 0 (by kernel_rfl) ?_
   simp only [s1,s2,s3,s4,s5,s6,s7,go_sem,reduceIte,zA,zB,zC,zD,zE,zF,reduceCtorEq]
   refine cG (eN r.path hb.1) ?_
   rintro _ rfl
   simp only [s1,s2,s3,s4,s5,s6,s7,go_sem,reduceIte,zA,zB,zC,zD,zE,zF,reduceCtorEq]
   refine cG (dY r.ay.mn (by omega) (by omega)) ?_
   rintro _ rfl
   simp only [s1,s2,s3,s4,s5,s6,s7,go_sem,reduceIte,zA,zB,zC,zD,zE,zF,reduceCtorEq]
   refine cG (dY r.ay.pt (by omega) (by omega)) ?_
   rintro _ rfl
   simp only [s1,s2,s3,s4,s5,s6,s7,go_sem,reduceIte,zA,zB,zC,zD,zE,zF,reduceCtorEq]
   refine cG (by obtain ⟨_, rfl, h⟩ := dY (lZ r) (by omega) (by omega); rw [xF] at h; exact ⟨_, rfl, h⟩) ?_
   rintro _ rfl
   simp only [s1,s2,s3,s4,s5,s6,s7,go_sem,reduceIte,zA,zB,zC,zD,zE,zF,reduceCtorEq]
   refine bH tt_ok aK [⟨.n, 0, [], [], []⟩, ⟨.n, 0, [], [], []⟩, ⟨.r, 0, [], [], []⟩, ⟨.n, 0, [], [], []⟩, ⟨.n, 0, [], [], []⟩, ⟨.n, 0, [], [], []⟩, ⟨.r, 0, [], [], []⟩, ⟨.n, 0, [], [], []⟩, ⟨.n, 0, [], [], []⟩, ⟨.n, 0, [], [], []⟩, ⟨.r, 0, [], [], []⟩, ⟨.n, 0, [], [], []⟩, ⟨.n, 0, [], [], []⟩, ⟨.n, 0, [], [], []⟩] 0 (by kernel_rfl) ?_
   simp only [s1,s2,s3,s4,s5,s6,s7,go_sem,reduceIte,zA,zB,zC,zD,zE,zF,reduceCtorEq]
   refine cG (eN r.ar (by omega)) ?_
   rintro _ rfl
   simp only [s1,s2,s3,s4,s5,s6,s7,go_sem,reduceIte,zA,zB,zC,zD,zE,zF,reduceCtorEq]
   refine cG (eN r.ei (by omega)) ?_
   rintro _ rfl
   simp only [s1,s2,s3,s4,s5,s6,s7,go_sem,reduceIte,zA,zB,zC,zD,zE,zF,reduceCtorEq]
   refine cG (eN r.ce (by omega)) ?_
   rintro _ rfl
   simp only [s1,s2,s3,s4,s5,s6,s7,go_sem,reduceIte,zA,zB,zC,zD,zE,zF,reduceCtorEq]
   refine cF (by have h := Ay r.reqs (by omega) hb.2.2 xw.reqs (o7 xw hb); simp only [ah] at h; exact h) ?_
   rintro _ rfl
   simp only [s1,s2,s3,s4,s5,s6,s7,go_sem,reduceIte,zA,zB,zC,zD,zE,zF,reduceCtorEq]
   exact hK _ (by rw [L9] <;> rfl)
end Go.Proofs.YtnfeacnbgbggfaaGreatDoor
end

section
namespace Go.Proofs.YtnfeacnbgbggfaaGreatDoor
open Go.Eng
open Nat renaming reduceAdd → zA, reduceLT → zB, reduceLeDiff → zC, reduceMul → zD, reduceEqDiff → zE, reduceSub → zF
variable [aE]
set_option maxHeartbeats 4000000
set_option maxRecDepth 100000
theorem Jx (r : Rl) : ∃ x e, qg r = .bt [str x, num e] := by
 unfold qg; split
 ·exact ⟨_, _, rfl⟩
 ·exact ⟨_, _, rfl⟩
theorem FU {s : ByteArray} (hs : s.size ≤ 1048576) : ∃ R e, gO s = .bt [af R, num e] ∧ xV R := by
 cases h : gv s with
 | true => exact ⟨_, _, Fy h, IJ hs⟩
 | false => exact ⟨_, _, Aj h, Iu⟩
theorem xT (hG : aE.g = some 0) (Xe : aP Tryz.prog 9 [] (bl true)) (r : Rl) (hb : xV r) (s : ByteArray) (hs : s.size ≤ 1048576) : ∃ r_, (fun w => w = bl (true)) r_ ∧ aP Tryz.prog 4 [af r, str s] r_ := by
 refine ek tt_ok [] 62 [.tmp 4] (fn := Tryz.f4) Tryz.func4 rfl Tryz.call4 ⟨rfl, rfl, by simp⟩ fun K hK => ?_
 have eE : Tryz.prog.underlying 9 = some .string := by kernel_rfl
 have sl : ∀ (a : ByteArray) (ty : TypeId), cd Tryz.prog (Builtin.len_ #[9] ty) [.sc (.string a)] = some (num a.size) := fun a ty => bE (P := Tryz.prog) (tt := tt) (T := 9) a eE ty
 simp only [af,ag,ah]
 have Lu : F8 [r] := ⟨by simp, fun x hx => by rw [List.mem_singleton] at hx; exact hx ▸ hb⟩
 have Gb : ∀ t : ByteArray, (t.toList == t.toList) = true := fun t => by simp
 have CQ : ∀ n : Int, decide (n = n) = true := fun n => decide_eq_true rfl
 obtain ⟨x, e, L9⟩ := Jx r
 obtain ⟨R, e2, UG, hRb⟩ := FU hs
 have uk : decide (R = R) = true := decide_eq_true rfl
 simp only [sl,Gb,CQ,go_sem,reduceIte,zA,zB,zC,zD,zE,zF,reduceCtorEq]
 refine cF (⟨_, rfl, Xe⟩) ?_
 rintro _ rfl
 simp only [sl,Gb,CQ,go_sem,reduceIte,zA,zB,zC,zD,zE,zF,reduceCtorEq]
 refine cF (by have h := LR [r] 1 Lu; simp only [bP,List.map_cons,List.map_nil,af,ag,ah] at h; exact h) ?_
 rintro _ rfl
 simp only [sl,Gb,CQ,go_sem,reduceIte,zA,zB,zC,zD,zE,zF,reduceCtorEq]
 refine aL (fun T6 => ?_) (fun T6 => ?_)
 ·simp only [sl,Gb,CQ,go_sem,reduceIte,zA,zB,zC,zD,zE,zF,reduceCtorEq]
  exact hK _ rfl
 ·simp only [sl,Gb,CQ,go_sem,reduceIte,zA,zB,zC,zD,zE,zF,reduceCtorEq]
  refine aL (fun xD => ?_) (fun xD => ?_)
  ·simp only [sl,Gb,CQ,go_sem,reduceIte,zA,zB,zC,zD,zE,zF,reduceCtorEq]
   exact hK _ rfl
  ·simp only [sl,Gb,CQ,go_sem,reduceIte,zA,zB,zC,zD,zE,zF,reduceCtorEq]
   refine cF (by have h := rh hG r hb; rw [L9] at h; simp only [af,ag,ah] at h; exact h) ?_
   rintro _ rfl
   simp only [sl,Gb,CQ,go_sem,reduceIte,zA,zB,zC,zD,zE,zF,reduceCtorEq]
   refine cF (by have h := xS r hb; rw [L9] at h; simp only [af,ag,ah] at h; exact h) ?_
   rintro _ rfl
   simp only [sl,Gb,CQ,go_sem,reduceIte,zA,zB,zC,zD,zE,zF,reduceCtorEq]
   refine cF (by have h := DU hG s hs; rw [UG] at h; simp only [af,ag,ah] at h; exact h) ?_
   rintro _ rfl
   simp only [sl,Gb,CQ,go_sem,reduceIte,zA,zB,zC,zD,zE,zF,reduceCtorEq]
   refine cF (by have h := Jq s hs; rw [Jp hs, UG] at h; simp only [af,ag,ah] at h; exact h) ?_
   rintro _ rfl
   simp only [sl,Gb,CQ,go_sem,reduceIte,zA,zB,zC,zD,zE,zF,reduceCtorEq]
   refine cF (by have h := vT R R hRb; rw [uk] at h; simp only [af,ag,ah] at h; exact h) ?_
   rintro _ rfl
   simp only [sl,Gb,CQ,go_sem,reduceIte,zA,zB,zC,zD,zE,zF,reduceCtorEq]
   exact hK _ rfl
end Go.Proofs.YtnfeacnbgbggfaaGreatDoor
end

section
namespace Go.Proofs.YtnfeacnbgbggfaaGreatDoor.lawIndexManifests
open Go.Eng
set_option maxRecDepth 100000
open Go.ChangeShapes Go.WideShapes Go.ChangeAt Go.RowKit
theorem contract (H : Type) (enc : TypeId × Value → H) (W : World) (args : Array Value) (ds gs : List (DataW H)) (before : List MemPlace) (base : Nat)
  (bB : ∀ (j : Nat) t v, Tryz.f4.params[j]? = some t → args[j]? = some v → Value.okWide Tryz.prog W .any base t v)
  (hW : DataW.Whole enc Tryz.prog Tryz.f4.params.toList Rows.indexManifestsSpec.vars false W args.toList ds gs before) (hb : Rows.uptoBulkAll (ds ++ gs) ≤ 1048576) (hS : W.ShapedOpen Tryz.prog) :
  Calls Tryz.prog 4 args W fun e W' => ∃ v, e = .returned v ∧ Rows.indexManifestsSpec.post enc Tryz.prog Tryz.f4 false true false false W args v W' := by
 have Yl := hW
 have aF := hW.lt
 obtain ⟨p, q, Hz, hV, rfl, UD, kr⟩ := hW
 have hA : DataW.TrodAll enc Tryz.prog W 0 (fun _ => true) true Tryz.f4.params.toList args.toList ds p := Hz
 rw [Tryz.params4] at hA
 obtain ⟨v0, SM, d0, ds0, p0, q0, jm, rfl, rfl, h0, r0⟩ := trodAll_cons hA
 obtain ⟨v1, vs1, d1, ds1, p1, q1, rfl, rfl, rfl, h1, r1⟩ := trodAll_cons r0
 obtain ⟨rfl, rfl, rfl⟩ := trodAll_nil r1
 obtain rfl : args = #[v0, v1] := by cases args; simp_all
 obtain ⟨rfl, rfl⟩ := trodVars_none hV
 rw [Tryz.params4] at bB
 obtain ⟨s1, rfl⟩ := okWide_string Tryz.underlying9 (bB 1 9 v1 rfl rfl)
 clear bB
 clear Hz hA r0 r1 jm hV
 simp only [List.append_nil] at Yl aF
 simp only [F6,List.append_nil,Rows.uptoBulkAll] at hb
 have Wy := h0
 have DI := h1
 obtain ⟨f0, h0⟩ := h0
 have main : Calls Tryz.prog 4 #[v0, .string s1] W fun e W' => e = .returned (.bool true) ∧ Below W.heap.size W W' := by
  obtain ⟨n, hn⟩ := FG hS
  have go : ∀ (G : aE) (hG : G.g = some 0) (hg : @Gl G W.cell?), Calls Tryz.prog 4 #[v0, .string s1] W fun e W' => e = .returned (.bool true) ∧ Below W.heap.size W W' := fun G hG hg => by
   have Xe : aP Tryz.prog 9 [] (bl true) := by obtain ⟨r, rfl, h⟩ := I3 hG; exact h
   obtain ⟨x0, Az, b0⟩ := Tf (F := W.cell?) (hg := hg) rfl h0
   obtain ⟨t1, ht1, b1⟩ := qd (F := W.cell?) (hg := hg) (Exists.choose_spec h1)
   have e1 : t1 = s1 := by have h := bN (ht1.1.2 0 _ _ rfl rfl); exact (Value.string.inj h).symm
   rw [e1] at b1
   obtain ⟨rr, uk, hc⟩ : ∃ r_, r_ = bl true ∧ aP Tryz.prog 4 [af x0, str s1] r_ := by
    obtain ⟨r_, h1, h2⟩ := xT hG Xe x0 (PB (by omega)) s1 (by omega)
    exact ⟨r_, h1, h2⟩
   subst uk
   refine (hc.2 W.cell? hg W #[v0, .string s1] (fun _ _ h => h) ?_).mono fun o W' h => ?_
   ·exact .cons (Mb (by simp [ag]) Az) (.cons (.sc _ _) (.nil _))
   ·obtain ⟨F', x, rfl, -, -, -, ⟨J6, hx⟩, BF⟩ := h
    obtain rfl := bN hx
    exact ⟨rfl, BF⟩
  exact go (Yd n) rfl (@Gl.mk (Yd n) _ (fun g hg => by cases hg; exact hn) (fun g cs j x h => by cases h))
 refine main.mono fun e W' ⟨he, BF⟩ => ?_
 subst he
 have Nt : laidOutB Tryz.prog = true := by kernel_rfl
 refine ⟨_, rfl, FH (pa := p0 ++ (p1 ++ [])) (pv := []) Yl (fun _ _ _ => trodAll_cons_mk (shut_bool Tryz.underlying4 _) trodAll_mk0) (fun sp rK => ?_) (fun _ _ => rfl) (by simp)
  BF (ok_one (by kernel_rfl) rfl (okWide_bool_mk Tryz.underlying4 _))⟩
 ·refine trodAll_cons_mk (WideElems.Trod_stays Nt (by kernel_rfl) (of_decide_eq_true (by kernel_rfl)) Wy (fun x hx => BF.same (aF x (by simp [hx]))) (fun x hx => rK x (by simp [hx])))
   (trodAll_cons_mk (WideElems.Trod_stays Nt (by kernel_rfl) (of_decide_eq_true (by kernel_rfl)) DI (fun x hx => BF.same (aF x (by simp [hx]))) (fun x hx => rK x (by simp [hx])))
   trodAll_mk0)
end Go.Proofs.YtnfeacnbgbggfaaGreatDoor.lawIndexManifests
end

section
namespace Go.Proofs.YtnfeacnbgbggfaaGreatDoor
open Go.ChangeShapes Go.WideShapes Go.ChangeAt Go.RowKit
theorem own : ownKnob Tryz.prog.godebug = none := by kernel_rfl
def Xf : Value := .agg #[.string ⟨#[]⟩, .int .i64 0, .int .i64 0, .int .i64 0, .slice none 0 0, .string ⟨#[]⟩, .string ⟨#[]⟩, .string ⟨#[]⟩, .bool false]
def Xg (H : Type) : DataW H := .agg [.lit (.int .i64 0), .lit (.int .i64 0), .lit (.int .i64 0)]
def Xh (H : Type) : DataW H := .agg [.lit (.string []), Xg H, .nil, .lit (.string []), .lit (.string []), .lit (.string []), .lit (.bool false)]
def Nu (cs : Array Value) : Obj → Obj
 | .cells _ t frozen => .cells cs t frozen
 | o => o
def Xi : List Nat := [128,191,160,191,128,159,144,191,128,143,0,0,0,0,0,0,0,0,0,0,0,0,0,0,0,0,0,0,0,0,0,0]
noncomputable def qv (os : Os) : World :=
 { World.holding Tryz.prog os ⟨#[], #[], []⟩ with heap := ((World.holding Tryz.prog os ⟨#[], #[], []⟩).heap.modify 1 (Nu ⟨Pinned.utf8FirstZ.map fun n => Value.int .u8 (Int.ofNat n)⟩)).modify 2 (Nu ⟨Xi.map fun n => Value.int .u8 (Int.ofNat n)⟩) }
end Go.Proofs.YtnfeacnbgbggfaaGreatDoor
end
