/-
  CONTRACTS: Canonical, by the reference.
  PLAIN: keywords, segments and versions of paths, as the reference of layer 3 finds them.
  CONTRACTS: names, by the reference.
  CONTRACTS: versions of paths, by the reference.
  CONTRACTS: paths, by the reference.
  CONTRACTS: lines, comparing, by the reference.
  CONTRACTS: the checks, by the reference.
  CONTRACTS: Find, by the reference.
  CONTRACTS: Versions, Available, equal lists.
  CONTRACTS: Paths, by the reference.
  CONTRACTS: slices.Sort at strings, in place, by the kit's contract; the paths of a right index.
  CONTRACTS: reaching, selections, by the reference.
  CONTRACTS: Reachable, by the reference.
  CONTRACTS: requirements that a closure holds of.
  THE LAW IndexClosed.
  CONTRACTS: Solves, by the reference.
  THE LAW IndexReaches, walked.
  THE LAW IndexReaches, A: what it does at every argument of the bound, in every world of the shape.
  CLOSING, B: a world for the witness.
-/
import Derived.Test.YtnfeacnbgbggfaaGreatDoorY6
import Derived.Test.YtnfeacnbgbggfaaGreatDoorCards
import Derived.Test.YtnfeacnbgbggfaaGreatDoorTie
import Derived.Lib.LaidTab
set_option linter.all false
section
namespace Go.Proofs.YtnfeacnbgbggfaaGreatDoor
open Go.Eng
open Nat renaming reduceAdd → zA, reduceLT → zB, reduceLeDiff → zC, reduceMul → zD, reduceEqDiff → zE, reduceSub → zF
variable [aG]
set_option maxHeartbeats 4000000
set_option maxRecDepth 100000
theorem Dy {L : List bG} {x : bG} {k : Nat} (ha : fU L) (hd : ∀ y ∈ L.drop k, x.lo ≤ y.lo) (ht : ∀ y ∈ L.take k, y.lo ≤ x.lo) : fU (L.take k ++ x :: L.drop k) := by
  have h := ha
  rw [← List.take_append_drop k L] at h
  obtain ⟨h1, h2, h3⟩ := List.pairwise_append.1 h
  refine List.pairwise_append.2 ⟨h1, List.pairwise_cons.2 ⟨hd, h2⟩, fun a ha b hb => ?_⟩
  rcases List.mem_cons.1 hb with rfl | hb
  · exact ht a ha
  · exact h3 a ha b hb
theorem zL {L : List bG} {k : Nat} {z : bG} {c : Int} (ha : fU L) (hk : 0 < k) (hz : L[k - 1]? = some z) (hc : z.lo ≤ c) : ∀ y ∈ L.take k, y.lo ≤ c := by
  intro y hy
  have e : L.take k = L.take (k - 1) ++ [z] := by
    have := List.take_add_one (l := L) (i := k - 1)
    rw [Nat.sub_add_cancel hk, hz] at this
    exact this
  rw [e] at hy
  have h : fU (L.take k) := List.Pairwise.sublist (List.take_sublist _ _) ha
  rw [e] at h
  obtain ⟨-, -, h3⟩ := List.pairwise_append.1 h
  rcases List.mem_append.1 hy with hy | hy
  · have := h3 y hy z (List.mem_singleton.2 rfl); omega
  · rw [List.mem_singleton.1 hy]; exact hc
theorem Fg {L : List bG} {k : Nat} {z : bG} (hk : 0 < k) (hz : L[k - 1]? = some z) : L.drop (k - 1) = z :: L.drop k := by
  have aB := (List.getElem?_eq_some_iff.1 hz).1
  rw [List.drop_eq_getElem_cons aB, (List.getElem?_eq_some_iff.1 hz).2, Nat.sub_add_cancel hk]
theorem il (L : List bG) (k : Nat) : ca (L.map aj) k 2 = true := by
  unfold ca
  rw [List.getElem?_map]
  cases L[k]? <;> rfl
theorem zM {L m : List bG} {x : bG} (k : Nat) (h : L.Perm m) : (L.take k ++ x :: L.drop k).Perm (m ++ [x]) := by
  refine List.perm_middle.trans ?_
  rw [List.take_append_drop]
  exact ((List.Perm.cons x h).trans (List.perm_append_comm (l₁ := [x]) (l₂ := m)))
theorem Fh (o : List bG) (x : bG) : (dn o x).length ≤ o.length + 1 := by
  unfold dn
  split
  · split
    · simp only [List.length_append,List.length_dropLast,List.length_singleton]; omega
    · simp only [List.length_append,List.length_singleton]; omega
  · simp only [List.length_singleton]; omega
theorem Fi (l : List bG) : (merge l).length ≤ l.length := by
  have key : ∀ (l o : List bG), (l.foldl dn o).length ≤ o.length + l.length := by
    intro l
    induction l with
    | nil => intro o; exact Nat.le_refl _
    | cons x l ih =>
      intro o
      rw [List.foldl_cons, List.length_cons]
      have := ih (dn o x); have := Fh o x; omega
  have := key l []
  simpa [merge] using this
theorem ID {R : List bG} {y : bG} (h : R.getLast? = some y) (z : bG) : R.set (R.length - 1) z = R.dropLast ++ [z] := by
  obtain ⟨D, rfl⟩ := List.getLast?_eq_some_iff.1 h
  rw [List.length_append, List.length_singleton, Nat.add_sub_cancel, List.set_append_right _ _ (Nat.le_refl _), Nat.sub_self, List.set_cons_zero, List.dropLast_concat]
theorem BU {mem : List ay} {b v e l : Nat} {rs Dm : List V} (h : mem[b]? = some (.rows v e rs)) (hl : l = rs.length) (hr : rs = Dm) : eA mem (.ms b v 0 l) = some (.slice Dm) := by
  subst hl; subst hr
  simp [eA, bD, h]
theorem qk (s : List bG) (hl : s.length ≤ 1048576) : ∃ r_, (fun w => w = ak (canon s)) r_ ∧ aP Tryz.prog 88 [ak s] r_ := by
  refine dI tt_ok [4] 113 [.tmp 2] (fn := Tryz.f88) Tryz.func88 rfl Tryz.call88 ⟨rfl, rfl, by simp⟩ fun K hK => ?_
  simp only [ak]
  simp only [List.length_map,go_sem,reduceIte,zA,zB,zC,zD,zE,zF,reduceCtorEq]
  refine rl (v' := .slice []) 3 (by decide) rfl rfl ?_
  refine ct tt_ok [4] (fun a : Nat × List bG => [(0, .slice (s.map aj)), (3, .slice (a.2.map aj)), (4, num a.1)]) (fun a : Nat × List bG => []) (fun a => s.length - a.1) (fun a => a.1 ≤ s.length ∧ a.2.Perm (clip (s.take a.1)) ∧ fU a.2) ((0, [])) 0 (ba (by omega) (by simp only [List.length_map,List.map_nil,Int.cast_ofNat_Int,go_sem,reduceIte,zA,zB,zC,zD,zE,zF,reduceCtorEq] <;> rfl)) (⟨Nat.zero_le _, List.Perm.refl _, List.Pairwise.nil⟩) ?_
  rintro ⟨i, L⟩ ⟨hi, hp, hA⟩
  try dsimp only at hi hp hA
  try dsimp only
  intro Z1 bP
  simp only [List.length_map,go_sem,reduceIte,zA,zB,zC,zD,zE,zF,reduceCtorEq]
  refine aL (fun cq => ?_) (fun cq => ?_)
  · skip
    have aB : i < s.length := by simpa using cq
    have hw := ax i (by omega)
    obtain ⟨x, hx⟩ : ∃ x, s[i]? = some x := ⟨_, List.getElem?_eq_getElem aB⟩
    have rK : (if (0 : Int) < x.lo then x.lo else 0) = max x.lo 0 := by split <;> omega
    have rf : (if x.hi < (1000000 : Int) then x.hi else 1000000) = min x.hi 1000000 := by split <;> omega
    have Bw : L.length ≤ 1048576 := by rw [hp.length_eq]; have := ji (s.take i); rw [List.length_take] at this; omega
    simp only [hw,List.getElem?_map,hx,aj,rK,rf,List.length_map,go_sem,reduceIte,zA,zB,zC,zD,zE,zF,reduceCtorEq]
    refine bu tt_ok aD [⟨.n, 0, [], [], []⟩, ⟨.n, 0, [], [], []⟩, ⟨.r, 0, [0], [], []⟩, ⟨.n, 0, [], [], []⟩, ⟨.r, 0, [0], [], []⟩, ⟨.n, 0, [], [], []⟩, ⟨.n, 0, [], [], []⟩, ⟨.n, 0, [], [], []⟩, ⟨.r, 0, [0], [], []⟩, ⟨.n, 0, [], [], []⟩, ⟨.r, 0, [0], [], []⟩, ⟨.n, 0, [], [], []⟩, ⟨.n, 0, [], [], []⟩, ⟨.a, 0, [], [], []⟩, ⟨.s, 0, [], [], []⟩] 1 (by kernel_rfl) ?_
    simp only [hw,List.getElem?_map,hx,aj,rK,rf,List.length_map,go_sem,reduceIte,zA,zB,zC,zD,zE,zF,reduceCtorEq]
    refine aL (fun zN => ?_) (fun zN => ?_)
    · skip
      let nv : Nat × List bG := (i + 1, L)
      have pE : L.Perm (clip (s.take (i + 1))) := by rw [my hx, C4 (by have := of_decide_eq_true zN; omega)]; simpa using hp
      have Co : fU nv.2 := hA
      simp only [hw,List.getElem?_map,hx,aj,rK,rf,List.length_map,go_sem,reduceIte,zA,zB,zC,zD,zE,zF,reduceCtorEq]
      refine rl (v' := .slice (nv.2.map aj)) 3 (by decide) rfl (by first | rfl | exact BU rfl (by simp [uz]) (by simp [nv, aj])) ?_
      refine A3 tt_ok ?_
      simp only [hw,List.getElem?_map,hx,aj,rK,rf,List.length_map,go_sem,reduceIte,zA,zB,zC,zD,zE,zF,reduceCtorEq]
      refine bP _ ⟨nv, ?_, ?_, ba (by omega) (by (simp [nv, je, lk, aW, bo, ai, aA]))⟩
      · exact ⟨aB, pE, Co⟩
      · dsimp only [nv]; omega
    · skip
      have jD : clip (s.take (i + 1)) = clip (s.take i) ++ [⟨max x.lo 0, min x.hi 1000000⟩] := by rw [my hx, C3 (by have := of_decide_eq_false zN; omega)]; rfl
      simp only [hw,List.getElem?_map,hx,aj,rK,rf,List.length_map,go_sem,reduceIte,zA,zB,zC,zD,zE,zF,reduceCtorEq]
      refine bA tt_ok [4] [6] 1 [0,2,3,4,5,11,12,13,14,17,18,19,20,21,22,23,24,25,26,27,28,29,30,31,32,33,34,35,36] (fun vs => (Go.Eng.intOf (vs.headD .undef)).toNat) (fun vs => ∃ k : Nat, vs = [num k] ∧ k ≤ L.length ∧ ∀ y ∈ L.drop k, max x.lo 0 ≤ y.lo) (by omega) (by simp only [hw,List.getElem?_map,hx,aj,rK,rf,List.length_map,go_sem,reduceIte,zA,zB,zC,zD,zE,zF,reduceCtorEq]) (⟨L.length, rfl, Nat.le_refl _, fun y hy => by rw [List.drop_length] at hy; cases hy⟩) fun vs hI Z2 mP => ?_
      obtain ⟨k, rfl, hk, hd⟩ := hI
      simp only [hw,List.getElem?_map,hx,aj,rK,rf,List.length_map,go_sem,reduceIte,zA,zB,zC,zD,zE,zF,reduceCtorEq]
      refine bu tt_ok aD [⟨.n, 0, [], [], []⟩, ⟨.n, 0, [], [], []⟩, ⟨.n, 0, [], [], []⟩, ⟨.n, 0, [], [], []⟩, ⟨.n, 0, [], [], []⟩, ⟨.n, 0, [], [], []⟩, ⟨.r, 0, [], [], []⟩, ⟨.n, 0, [], [], []⟩, ⟨.r, 0, [], [], []⟩, ⟨.n, 0, [], [], []⟩, ⟨.r, 0, [], [], []⟩, ⟨.n, 0, [], [], []⟩, ⟨.n, 0, [], [], []⟩] 0 (by kernel_rfl) ?_
      simp only [hw,List.getElem?_map,hx,aj,rK,rf,List.length_map,go_sem,reduceIte,zA,zB,zC,zD,zE,zF,reduceCtorEq]
      refine aL (fun Dz => ?_) (fun Dz => ?_)
      · skip
        have Xf : 0 < k := by have := of_decide_eq_true Dz; omega
        obtain ⟨z, hz⟩ : ∃ z, L[k - 1]? = some z := ⟨_, List.getElem?_eq_getElem (by omega)⟩
        have zO : IntKind.i64.wrap ((k : Int) - 1) = ((k - 1 : Nat) : Int) := jf _ _ (by omega) (by omega)
        simp only [hw,List.getElem?_map,hx,aj,rK,rf,zO,hz,List.length_map,go_sem,reduceIte,zA,zB,zC,zD,zE,zF,reduceCtorEq]
        refine aL (fun LM => ?_) (fun LM => ?_)
        · skip
          simp only [hw,List.getElem?_map,hx,aj,rK,rf,zO,hz,List.length_map,go_sem,reduceIte,zA,zB,zC,zD,zE,zF,reduceCtorEq]
          refine mP _ (cA (by omega) (by simp only [hw,List.getElem?_map,hx,aj,rK,rf,zO,hz,List.length_map,go_sem,reduceIte,zA,zB,zC,zD,zE,zF,reduceCtorEq]) ?_ ?_) <;> simp only [fa,lk,reduceIte,zE]
          · refine ⟨k - 1, rfl, by omega, fun y hy => ?_⟩
            rw [Fg Xf hz] at hy
            rcases List.mem_cons.1 hy with rfl | hy
            · have := of_decide_eq_true LM; omega
            · exact hd y hy
          · simp only [Go.Eng.intOf,List.headD_cons]; omega
        · skip
          have ht : ∀ y ∈ L.take k, y.lo ≤ max x.lo 0 := by
            by_cases Mu : k = 0
            · subst Mu; simp
            · first
              | exact zL hA Xf hz (by have := of_decide_eq_false LM; omega)
              | (exfalso; have := of_decide_eq_false Dz; omega)
          have LN : (k : Int) ≤ (L.length : Int) := by omega
          have fp := il L k
          have Xg : (List.drop k (List.map aj L)).take ((L.length : Int) - (k : Int)).toNat = (L.drop k).map aj := by rw [← List.map_drop, List.take_of_length_le]; rw [List.length_map, List.length_drop]; omega
          have da : ∀ mem : List ay, cutAt mem 2 (k : Int) none (.slice (L.map aj)) = some (.slice ((L.drop k).map aj)) := fun mem => by
            unfold cutAt
            simp only [Option.getD_none,List.length_map,Int.natCast_nonneg,LN,Int.le_refl,Int.toNat_natCast,fp,and_self,if_true,Xg]
          have tC := il (L.drop k) 0
          have tZ : List.take k (List.map aj L) = (L.take k).map aj := (List.map_take ..).symm
          have BV := il (L.take k) 0
          have rB : 1 + (L.length - k) ≤ 34359738368 := by omega
          have JW : List.take (L.length - k) (List.map aj (L.drop k)) = (L.drop k).map aj := List.take_of_length_le (by rw [List.length_map, List.length_drop]; exact Nat.le_refl _)
          let nv : Nat × List bG := (i + 1, L.take k ++ ⟨max x.lo 0, min x.hi 1000000⟩ :: L.drop k)
          have pE : nv.2.Perm (clip (s.take (i + 1))) := by rw [jD]; exact zM k hp
          have Co : fU nv.2 := Dy hA hd ht
          have uz : min k L.length = k := Nat.min_eq_left hk
          have si : k + (L.length - k + 1) ≤ 34359738368 := by omega
          simp only [hw,List.getElem?_map,hx,aj,rK,rf,zO,hz,LN,da,JW,Nat.min_self,tC,tZ,BV,rB,uz,si,List.length_drop,List.length_take,List.length_append,List.length_cons,List.length_nil,Nat.zero_add,Int.le_refl,Int.natCast_nonneg,Int.toNat_natCast,List.length_map,go_sem,reduceIte,zA,zB,zC,zD,zE,zF,reduceCtorEq]
          refine bu tt_ok aD [⟨.n, 0, [], [], []⟩, ⟨.n, 0, [], [], []⟩, ⟨.n, 0, [], [], []⟩, ⟨.n, 0, [], [0,1,2], []⟩, ⟨.r, 0, [], [], []⟩, ⟨.a, 0, [], [4], []⟩, ⟨.n, 0, [], [], []⟩, ⟨.n, 0, [], [], []⟩, ⟨.r, 0, [0], [6,7], []⟩, ⟨.w, 1, [], [4,5,6,7,8], []⟩, ⟨.w, 2, [], [0,1,2,3,4,5,6,7,8,9], []⟩, ⟨.n, 0, [], [0,1,2,3,4,5,6,7,8,9,10], []⟩] 3 (by kernel_rfl) ?_
          simp only [hw,List.getElem?_map,hx,aj,rK,rf,zO,hz,LN,da,JW,Nat.min_self,tC,tZ,BV,rB,uz,si,List.length_drop,List.length_take,List.length_append,List.length_cons,List.length_nil,Nat.zero_add,Int.le_refl,Int.natCast_nonneg,Int.toNat_natCast,List.length_map,go_sem,reduceIte,zA,zB,zC,zD,zE,zF,reduceCtorEq]
          refine rl (v' := .slice (nv.2.map aj)) 3 (by decide) rfl (by first | rfl | exact BU rfl (by simp [uz]) (by simp [nv, aj])) ?_
          refine A3 tt_ok ?_
          simp only [hw,List.getElem?_map,hx,aj,rK,rf,zO,hz,LN,da,JW,Nat.min_self,tC,tZ,BV,rB,uz,si,List.length_drop,List.length_take,List.length_append,List.length_cons,List.length_nil,Nat.zero_add,Int.le_refl,Int.natCast_nonneg,Int.toNat_natCast,List.length_map,go_sem,reduceIte,zA,zB,zC,zD,zE,zF,reduceCtorEq]
          refine bP _ ⟨nv, ?_, ?_, ba (by omega) (by (simp [nv, je, lk, aW, bo, ai, aA]))⟩
          · exact ⟨aB, pE, Co⟩
          · dsimp only [nv]; omega
      · skip
        have ht : ∀ y ∈ L.take k, y.lo ≤ max x.lo 0 := by
          by_cases Mu : k = 0
          · subst Mu; simp
          · first
            | exact zL hA Xf hz (by have := of_decide_eq_false LM; omega)
            | (exfalso; have := of_decide_eq_false Dz; omega)
        have LN : (k : Int) ≤ (L.length : Int) := by omega
        have fp := il L k
        have Xg : (List.drop k (List.map aj L)).take ((L.length : Int) - (k : Int)).toNat = (L.drop k).map aj := by rw [← List.map_drop, List.take_of_length_le]; rw [List.length_map, List.length_drop]; omega
        have da : ∀ mem : List ay, cutAt mem 2 (k : Int) none (.slice (L.map aj)) = some (.slice ((L.drop k).map aj)) := fun mem => by
          unfold cutAt
          simp only [Option.getD_none,List.length_map,Int.natCast_nonneg,LN,Int.le_refl,Int.toNat_natCast,fp,and_self,if_true,Xg]
        have tC := il (L.drop k) 0
        have tZ : List.take k (List.map aj L) = (L.take k).map aj := (List.map_take ..).symm
        have BV := il (L.take k) 0
        have rB : 1 + (L.length - k) ≤ 34359738368 := by omega
        have JW : List.take (L.length - k) (List.map aj (L.drop k)) = (L.drop k).map aj := List.take_of_length_le (by rw [List.length_map, List.length_drop]; exact Nat.le_refl _)
        let nv : Nat × List bG := (i + 1, L.take k ++ ⟨max x.lo 0, min x.hi 1000000⟩ :: L.drop k)
        have pE : nv.2.Perm (clip (s.take (i + 1))) := by rw [jD]; exact zM k hp
        have Co : fU nv.2 := Dy hA hd ht
        have uz : min k L.length = k := Nat.min_eq_left hk
        have si : k + (L.length - k + 1) ≤ 34359738368 := by omega
        simp only [hw,List.getElem?_map,hx,aj,rK,rf,LN,da,JW,Nat.min_self,tC,tZ,BV,rB,uz,si,List.length_drop,List.length_take,List.length_append,List.length_cons,List.length_nil,Nat.zero_add,Int.le_refl,Int.natCast_nonneg,Int.toNat_natCast,List.length_map,go_sem,reduceIte,zA,zB,zC,zD,zE,zF,reduceCtorEq]
        refine bu tt_ok aD [⟨.n, 0, [], [], []⟩, ⟨.n, 0, [], [], []⟩, ⟨.n, 0, [], [], []⟩, ⟨.n, 0, [], [0,1,2], []⟩, ⟨.r, 0, [], [], []⟩, ⟨.a, 0, [], [4], []⟩, ⟨.n, 0, [], [], []⟩, ⟨.n, 0, [], [], []⟩, ⟨.r, 0, [0], [6,7], []⟩, ⟨.w, 1, [], [4,5,6,7,8], []⟩, ⟨.w, 2, [], [0,1,2,3,4,5,6,7,8,9], []⟩, ⟨.n, 0, [], [0,1,2,3,4,5,6,7,8,9,10], []⟩] 3 (by kernel_rfl) ?_
        simp only [hw,List.getElem?_map,hx,aj,rK,rf,LN,da,JW,Nat.min_self,tC,tZ,BV,rB,uz,si,List.length_drop,List.length_take,List.length_append,List.length_cons,List.length_nil,Nat.zero_add,Int.le_refl,Int.natCast_nonneg,Int.toNat_natCast,List.length_map,go_sem,reduceIte,zA,zB,zC,zD,zE,zF,reduceCtorEq]
        refine rl (v' := .slice (nv.2.map aj)) 3 (by decide) rfl (by first | rfl | exact BU rfl (by simp [uz]) (by simp [nv, aj])) ?_
        refine A3 tt_ok ?_
        simp only [hw,List.getElem?_map,hx,aj,rK,rf,LN,da,JW,Nat.min_self,tC,tZ,BV,rB,uz,si,List.length_drop,List.length_take,List.length_append,List.length_cons,List.length_nil,Nat.zero_add,Int.le_refl,Int.natCast_nonneg,Int.toNat_natCast,List.length_map,go_sem,reduceIte,zA,zB,zC,zD,zE,zF,reduceCtorEq]
        refine bP _ ⟨nv, ?_, ?_, ba (by omega) (by (simp [nv, je, lk, aW, bo, ai, aA]))⟩
        · exact ⟨aB, pE, Co⟩
        · dsimp only [nv]; omega
  · skip
    have cB : ¬ i < s.length := by simpa using cq
    have Ab : L.Perm (clip s) := by rw [show i = s.length by omega, List.take_length] at hp; exact hp
    have Bw : L.length ≤ 1048576 := by rw [Ab.length_eq]; have := ji s; omega
    simp only [List.length_map,go_sem,reduceIte,zA,zB,zC,zD,zE,zF,reduceCtorEq]
    refine ct tt_ok [4] (fun a : Nat × List bG => [(3, .slice (L.map aj)), (7, .ms 0 a.2.length 0 a.2.length), (8, num a.1)]) (fun a : Nat × List bG => [.rows (a.2.length) 2 (a.2.map aj)]) (fun a => L.length - a.1) (fun a => a.1 ≤ L.length ∧ a.2 = merge (L.take a.1)) ((0, [])) 1 (ba (by omega) (by simp only [List.length_map,List.map_nil,List.length_nil,Int.cast_ofNat_Int,go_sem,reduceIte,zA,zB,zC,zD,zE,zF,reduceCtorEq] <;> rfl)) (⟨Nat.zero_le _, rfl⟩) ?_
    rintro ⟨i, R⟩ ⟨hi, hR⟩
    try dsimp only at hi hR
    try dsimp only
    intro Z3 w4
    simp only [List.length_map,go_sem,reduceIte,zA,zB,zC,zD,zE,zF,reduceCtorEq]
    refine aL (fun xh => ?_) (fun xh => ?_)
    · skip
      have aB : i < L.length := by simpa using xh
      have hw := ax i (by omega)
      obtain ⟨x, hx⟩ : ∃ x, L[i]? = some x := ⟨_, List.getElem?_eq_getElem aB⟩
      have E8 : R.length ≤ i := by rw [hR]; have := Fi (L.take i); rw [List.length_take] at this; omega
      have dE : R.length + 1 ≤ 34359738368 := by omega
      simp only [hw,List.getElem?_map,hx,aj,dE,List.length_append,List.length_cons,List.length_nil,Nat.zero_add,List.length_map,go_sem,reduceIte,zA,zB,zC,zD,zE,zF,reduceCtorEq]
      refine bu tt_ok aD [⟨.n, 0, [], [], []⟩, ⟨.n, 0, [], [], []⟩, ⟨.n, 0, [], [], []⟩, ⟨.n, 0, [], [], []⟩, ⟨.n, 0, [], [], []⟩, ⟨.r, 0, [], [], []⟩, ⟨.n, 0, [], [], []⟩, ⟨.r, 0, [], [], []⟩, ⟨.n, 0, [], [], []⟩, ⟨.n, 0, [], [], []⟩, ⟨.n, 0, [], [], []⟩, ⟨.r, 0, [], [], []⟩, ⟨.n, 0, [], [], []⟩, ⟨.r, 0, [], [], []⟩, ⟨.n, 0, [], [], []⟩, ⟨.n, 0, [], [], []⟩] 0 (by kernel_rfl) ?_
      simp only [hw,List.getElem?_map,hx,aj,dE,List.length_append,List.length_cons,List.length_nil,Nat.zero_add,List.length_map,go_sem,reduceIte,zA,zB,zC,zD,zE,zF,reduceCtorEq]
      refine aL (fun xi => ?_) (fun xi => ?_)
      · skip
        have iB : 0 < R.length := by have := of_decide_eq_true xi; omega
        obtain ⟨y, hy⟩ : ∃ y, R[R.length - 1]? = some y := ⟨_, List.getElem?_eq_getElem (by omega)⟩
        have qR : R.getLast? = some y := by rw [List.getLast?_eq_getElem?]; exact hy
        have KJ : IntKind.i64.wrap ((R.length : Int) - 1) = ((R.length - 1 : Nat) : Int) := jf _ _ (by omega) (by omega)
        have C5 : ((R.length - 1 : Nat) : Int) < (R.length : Int) := by omega
        simp only [hw,List.getElem?_map,hx,aj,dE,List.length_append,List.length_cons,List.length_nil,Nat.zero_add,KJ,hy,C5,List.length_map,go_sem,reduceIte,zA,zB,zC,zD,zE,zF,reduceCtorEq]
        refine aL (fun LO => ?_) (fun LO => ?_)
        · skip
          have hle : x.lo ≤ y.hi := by simpa using LO
          have TK : (if y.hi < x.hi then x.hi else y.hi) = max y.hi x.hi := by split <;> omega
          let nv : Nat × List bG := (i + 1, R.set (R.length - 1) ⟨y.lo, max y.hi x.hi⟩)
          have ql : R.set (R.length - 1) ⟨y.lo, max y.hi x.hi⟩ = merge (L.take (i + 1)) := by
            rw [iK hx, ← hR]; unfold dn; rw [qR]; dsimp only; rw [if_pos hle]; exact ID qR _
          simp only [hw,List.getElem?_map,hx,aj,dE,List.length_append,List.length_cons,List.length_nil,Nat.zero_add,KJ,hy,C5,TK,List.length_map,go_sem,reduceIte,zA,zB,zC,zD,zE,zF,reduceCtorEq]
          refine bu tt_ok aD [⟨.n, 0, [], [], []⟩, ⟨.n, 0, [], [], []⟩, ⟨.n, 0, [], [1], []⟩, ⟨.n, 0, [], [], []⟩, ⟨.n, 0, [], [], []⟩, ⟨.n, 0, [], [4], []⟩, ⟨.r, 0, [], [3,4,5], []⟩, ⟨.n, 0, [], [3,4,5,6], []⟩, ⟨.r, 0, [], [3,4,5,6,7], []⟩, ⟨.n, 0, [], [], []⟩, ⟨.n, 0, [], [], []⟩, ⟨.r, 0, [], [9,10], []⟩, ⟨.n, 0, [], [9,10,11], []⟩, ⟨.r, 0, [], [9,10,11,12], []⟩, ⟨.n, 0, [], [3,4,5,6,7,8,9,10,11,12,13], []⟩, ⟨.r, 0, [], [0,1,2,3,4,5,6,7,8,9,10,11,12,13,14], []⟩, ⟨.n, 0, [], [0,1,2,3,4,5,6,7,8,9,10,11,12,13,14,15], []⟩, ⟨.w, 0, [], [0,1,2,3,4,5,6,7,8,9,10,11,12,13,14,15,16], []⟩] 1 (by kernel_rfl) ?_
          simp only [hw,List.getElem?_map,hx,aj,dE,List.length_append,List.length_cons,List.length_nil,Nat.zero_add,KJ,hy,C5,TK,List.length_map,go_sem,reduceIte,zA,zB,zC,zD,zE,zF,reduceCtorEq]
          refine w4 _ ⟨nv, ?_, ?_, ba (by omega) (by (simp [nv, je, lk, aW, bo, ai, aA, List.map_set, List.map_append, aj, setRow, cb, V.cells]))⟩
          · exact ⟨aB, ql⟩
          · dsimp only [nv]; omega
        · skip
          have zZ : dn R x = R ++ [x] := mz fun z EZ => by
            first
              | (rw [qR] at EZ; cases EZ; have := of_decide_eq_false LO; omega)
              | (have h0 : R = [] := List.length_eq_zero_iff.1 (by have := of_decide_eq_false xi; omega)
                 rw [h0] at EZ; cases EZ)
          let nv : Nat × List bG := (i + 1, R ++ [x])
          have ql : nv.2 = merge (L.take (i + 1)) := by rw [iK hx, ← hR, zZ]
          simp only [hw,List.getElem?_map,hx,aj,dE,List.length_append,List.length_cons,List.length_nil,Nat.zero_add,KJ,hy,C5,List.length_map,go_sem,reduceIte,zA,zB,zC,zD,zE,zF,reduceCtorEq]
          refine w4 _ ⟨nv, ?_, ?_, ba (by omega) (by (simp [nv, je, lk, aW, bo, ai, aA, List.map_set, List.map_append, aj, setRow, cb, V.cells]))⟩
          · exact ⟨aB, ql⟩
          · dsimp only [nv]; omega
      · skip
        have zZ : dn R x = R ++ [x] := mz fun z EZ => by
          first
            | (rw [qR] at EZ; cases EZ; have := of_decide_eq_false LO; omega)
            | (have h0 : R = [] := List.length_eq_zero_iff.1 (by have := of_decide_eq_false xi; omega)
               rw [h0] at EZ; cases EZ)
        let nv : Nat × List bG := (i + 1, R ++ [x])
        have ql : nv.2 = merge (L.take (i + 1)) := by rw [iK hx, ← hR, zZ]
        simp only [hw,List.getElem?_map,hx,aj,dE,List.length_append,List.length_cons,List.length_nil,Nat.zero_add,List.length_map,go_sem,reduceIte,zA,zB,zC,zD,zE,zF,reduceCtorEq]
        refine w4 _ ⟨nv, ?_, ?_, ba (by omega) (by (simp [nv, je, lk, aW, bo, ai, aA, List.map_set, List.map_append, aj, setRow, cb, V.cells]))⟩
        · exact ⟨aB, ql⟩
        · dsimp only [nv]; omega
    · skip
      have K9 : ¬ i < L.length := by simpa using xh
      have fk : R = canon s := by rw [hR, show i = L.length by omega, List.take_length]; exact yQ Ab hA
      simp only [List.length_map,go_sem,reduceIte,zA,zB,zC,zD,zE,zF,reduceCtorEq]
      refine hK _ ?_
      simp [mK, lC, oC, Cr, eA, bD, ak, ← fk, List.take_of_length_le]
end Go.Proofs.YtnfeacnbgbggfaaGreatDoor
end

section
namespace Go.Proofs.YtnfeacnbgbggfaaGreatDoor
open Go.Eng
def TL : List (List UInt8) := [[97,110,100], [97,110,121], [97,115], [98,111,111,108], [100,101,112,114,101,99,97,116,101,100], [101,108,115,101], [101,120,112,111,114,116], [102,97,108,115,101], [102,110], [102,111,108,100], [102,114,111,109], [105,102], [105,109,112,111,114,116], [105,110], [105,110,116], [108,101,110,103,116,104], [108,101,116], [108,105,115,116], [109,97,116,99,104], [109,111,100,117,108,101], [110,111,110,101], [110,111,116], [111,114], [116,101,120,116], [116,104,101,110], [116,114,117,101], [116,121,112,101], [117,115,101]]
def Qc : List ByteArray := TL.map fun l => ⟨l.toArray⟩
theorem LP : TL.all (fun k => Lib.contains nh.data.toList (32 :: k ++ [32])) = true := by kernel_rfl
def tw (l : List UInt8) : List UInt8 := l.takeWhile (· != 32)
theorem TN : (List.range 200).all (fun i => !((nh.data.toList.drop i).head? == some 32) || ((nh.data.toList.drop (i + 1)).isEmpty || TL.contains (tw (nh.data.toList.drop (i + 1))))) = true := by kernel_rfl
theorem Qd {k r : List UInt8} (h : ∀ b ∈ k, b ≠ 32) : tw (k ++ 32 :: r) = k := by
 induction k with
 | nil => rfl
 | cons b k ih =>
  have hb : (b != 32) = true := by simpa using h b (List.mem_cons_self ..)
  show List.takeWhile _ (b :: (k ++ 32 :: r)) = _
  rw [List.takeWhile_cons, hb]
  simp only [if_true]
  exact congrArg (b :: ·) (ih fun c hc => h c (List.mem_cons_of_mem _ hc))
theorem LQ : Nat.ble nh.data.toList.length 200 = true := by kernel_rfl
theorem LR (s : ByteArray) (h : gh kD s = true) : Uy s = Qc.any fun k => decide (k = s) := by
 have ec : ∀ b ∈ bp s, b ≠ 32 := fun b hb e => by
  have h1 := List.all_eq_true.1 h b hb
  rw [e] at h1; revert h1; decide
 have hd : (⟨#[32]⟩ ++ s ++ ⟨#[32]⟩ : ByteArray).data.toList = 32 :: bp s ++ [32] := by
  rw [ByteArray.data_append, ByteArray.data_append]
  simp [bp]
 have hm : s ∈ Qc ↔ bp s ∈ TL := by
  unfold Qc
  rw [List.mem_map]
  refine ⟨fun ⟨l, hl, e⟩ => by rw [← e]; simpa [bp] using hl, fun h => ⟨_, h, ?_⟩⟩
  obtain ⟨⟨l⟩⟩ := s; rfl
 have NZ : (Qc.any fun k => decide (k = s)) = true ↔ bp s ∈ TL := by
  rw [List.any_eq_true, ← hm]
  exact ⟨fun ⟨k, hk, e⟩ => by rw [← of_decide_eq_true e]; exact hk, fun h => ⟨s, h, by simp⟩⟩
 rw [Bool.eq_iff_iff, NZ]
 unfold Uy
 rw [hd]
 constructor
 ·intro hc
  unfold Lib.contains at hc
  rw [decide_eq_true_eq] at hc
  rcases Lib.index_spec nh.data.toList (32 :: bp s ++ [32]) with ⟨h1, _⟩ | ⟨i, h1, h2, h3, _⟩
  ·omega
  unfold Lib.occAt at h3
  rw [List.isPrefixOf_iff_prefix] at h3
  obtain ⟨r, hr⟩ := h3
  have hi : i < 200 := by
   have hl := congrArg List.length hr
   have := Nat.le_of_ble_eq_true LQ
   simp only [List.length_append,List.length_cons,List.length_drop] at hl; omega
  have h4 := List.all_eq_true.1 TN i (List.mem_range.2 hi)
  have e1 : nh.data.toList.drop (i + 1) = bp s ++ 32 :: r := by
   have : nh.data.toList.drop (i + 1) = (nh.data.toList.drop i).drop 1 := by rw [List.drop_drop]
   rw [this, ← hr]; simp
  rw [← hr, e1, Qd ec] at h4
  simpa using h4
 ·intro hc
  exact List.all_eq_true.1 LP _ hc
theorem l6 (s : ByteArray) : jR s = (decide (1 ≤ s.size) && decide (s.size ≤ 32) && uu (cK s 0) && gh kD s && !(Qc.any fun k => decide (k = s))) := by
 unfold jR
 cases h : gh kD s with
 | false => simp
 | true => rw [LR s h]
def fb (o : List ByteArray) (c : UInt8) : List ByteArray := if c = 47 then o ++ [⟨#[]⟩] else o.set (o.length - 1) ((o[o.length - 1]?).getD ⟨#[]⟩ ++ ⟨#[c]⟩)
def fc (l : List UInt8) : List ByteArray := l.foldl fb [⟨#[]⟩]
def pd (cur : List UInt8) : List (List UInt8) → List (List UInt8)
 | [] => [cur]
 | h :: t => (cur ++ h) :: t
def Fj (l : List UInt8) : ByteArray := ⟨l.toArray⟩
theorem uA (r : List UInt8) : Lib.split (47 :: r) [47] = [] :: Lib.split r [47] := by
 have c6 : Lib.index (47 :: r) [47] = 0 := by rw [Lib.index]; simp [List.isPrefixOf]
 unfold Lib.split
 rw [Lib.count_cons_eq, Nat.add_comm, Lib.splitK, c6]
 simp
theorem uB (b : UInt8) (r : List UInt8) (h : b ≠ 47) : Lib.split (b :: r) [47] = pd [b] (Lib.split r [47]) := by
 have hp : ([47] : List UInt8).isPrefixOf (b :: r) = false := by simp [List.isPrefixOf, Ne.symm h]
 have c6 : Lib.index (b :: r) [47] = if Lib.index r [47] == -1 then -1 else Lib.index r [47] + 1 := by rw [Lib.index, hp]; simp
 unfold Lib.split
 rw [Lib.count_cons_ne b 47 r h]
 cases hk : Lib.count r [47] with
 | zero => rfl
 | succ k =>
  rw [Lib.splitK, Lib.splitK, c6]
  by_cases hm : Lib.index r [47] = -1
  ·rw [hm]; rfl
  ·have cB := Lib.index_ge r [47]
   obtain ⟨j, hj⟩ : ∃ j : Nat, Lib.index r [47] = j := ⟨(Lib.index r [47]).toNat, by omega⟩
   have h1 : ((j : Int) == -1) = false := by rw [beq_eq_false_iff_ne]; omega
   have h2 : ((j : Int) + 1 == -1) = false := by rw [beq_eq_false_iff_ne]; omega
   have h3 : ((j : Int) + 1).toNat = j + 1 := by omega
   rw [hj, h1]
   simp only [Bool.false_eq_true,if_false,h2,h3,Int.toNat_natCast,pd,List.length_cons,List.length_nil,Nat.add_zero]
   rw [show j + 1 + (0 + 1) = (j + (0 + 1)) + 1 by omega, List.drop_succ_cons]
   rfl
theorem LS (a b : List UInt8) : Fj a ++ Fj b = Fj (a ++ b) := by
 apply ByteArray.ext
 rw [ByteArray.data_append]
 simp [Fj]
theorem xj : ∀ (l : List UInt8) (pre : List ByteArray) (cur : List UInt8), l.foldl fb (pre ++ [Fj cur]) = pre ++ (pd cur (Lib.split l [47])).map Fj
 | [], pre, cur => by
  have : Lib.split [] [47] = [[]] := rfl
  rw [this]; simp [pd]
 | b :: r, pre, cur => by
  rw [List.foldl_cons]
  by_cases h : b = 47
  ·subst h
   have hs : fb (pre ++ [Fj cur]) 47 = (pre ++ [Fj cur]) ++ [Fj []] := by simp [fb, Fj]
   rw [hs, xj r, uA]
   have : pd [] (Lib.split r [47]) = Lib.split r [47] := by
    cases hq : Lib.split r [47] with
    | nil => exfalso; unfold Lib.split at hq; cases hk : Lib.count r [47] <;> rw [hk] at hq <;> rw [Lib.splitK] at hq <;> first | cases hq | (split at hq <;> cases hq)
    | cons a t => rfl
   rw [this]
   simp [pd]
  ·have hs : fb (pre ++ [Fj cur]) b = pre ++ [Fj (cur ++ [b])] := by
    unfold fb
    rw [if_neg h, List.length_append, List.length_singleton, Nat.add_sub_cancel]
    rw [List.getElem?_append_right (Nat.le_refl _), Nat.sub_self]
    simp only [List.getElem?_cons_zero,Option.getD_some]
    rw [List.set_append_right _ _ (Nat.le_refl _), Nat.sub_self, List.set_cons_zero]
    exact congrArg (fun z => pre ++ [z]) (LS cur [b])
   rw [hs, xj r, uB b r h]
   cases hq : Lib.split r [47] with
   | nil => simp [pd]
   | cons a t => simp [pd]
theorem Fk (s : ByteArray) : Fj s.data.toList = s := by obtain ⟨⟨l⟩⟩ := s; rfl
theorem l7 (s : ByteArray) : fc (bp s) = pieces s := by
 have h := xj (bp s) [] []
 have h2 : pd [] (Lib.split (bp s) [47]) = Lib.split (bp s) [47] := by
  cases hq : Lib.split (bp s) [47] with
  | nil => exfalso; unfold Lib.split at hq; cases hk : Lib.count (bp s) [47] <;> rw [hk] at hq <;> rw [Lib.splitK] at hq <;> first | cases hq | (split at hq <;> cases hq)
  | cons a t => rfl
 rw [h2, List.nil_append] at h
 have h3 := Lib.splitB_data ⟨#[47]⟩ 0 (Lib.countB s ⟨#[47]⟩) s
 have h4 : (pieces s).map (fun x => x.data.toList) = Lib.split (bp s) [47] := h3
 rw [show fc (bp s) = _ from h, ← h4, List.map_map]
 conv => rhs; rw [← List.map_id (pieces s)]
 exact List.map_congr_left fun x _ => Fk x
theorem pe (l : List UInt8) (c : UInt8) : fc (l ++ [c]) = fb (fc l) c := by unfold fc; rw [List.foldl_append]; rfl
theorem qm (s : ByteArray) : lM s = (decide (1 ≤ s.size) && decide (cK s 0 = 118)) := by
 obtain ⟨⟨l⟩⟩ := s
 cases l with
 | nil => rfl
 | cons b l =>
  have hb : cK ⟨⟨b :: l⟩⟩ 0 = (b.toNat : Int) := rfl
  have hs : (⟨⟨b :: l⟩⟩ : ByteArray).size = l.length + 1 := rfl
  rw [hb, hs]
  show ((118 : UInt8) == b && ([] : List UInt8).isPrefixOf l) = _
  simp only [List.isPrefixOf_nil_left,Bool.and_true]
  rw [Bool.eq_iff_iff]
  simp only [beq_iff_eq,Bool.and_eq_true,decide_eq_true_eq]
  constructor
  ·rintro rfl; exact ⟨by omega, rfl⟩
  ·rintro ⟨-, h⟩
   apply UInt8.toNat_inj.1
   have : b.toNat = 118 := by omega
   rw [this]; rfl
theorem nZ {s : ByteArray} (h : lM s = true) (k : Nat) : (gp s)[k]? = s[k + 1]? := by
 have hd : (gp s).data.toList = s.data.toList.drop 1 := by
  show Lib.trimPrefix s.data.toList [118] = _
  unfold Lib.trimPrefix
  rw [if_pos (show Lib.hasPrefix s.data.toList [118] = true from h)]; rfl
 have g : ∀ (t : ByteArray) (j : Nat), t[j]? = t.data.toList[j]? := fun t j => by
  obtain ⟨⟨l⟩⟩ := t
  by_cases hj : j < l.length
  ·rw [getElem?_pos (⟨⟨l⟩⟩ : ByteArray) j (by exact hj)]
   show some _ = l[j]?
   rw [List.getElem?_eq_getElem hj]; rfl
  ·rw [getElem?_neg (⟨⟨l⟩⟩ : ByteArray) j (by exact hj)]
   show none = l[j]?
   rw [List.getElem?_eq_none (by omega)]
 rw [g, g, hd, List.getElem?_drop, Nat.add_comm]
theorem l8 {s : ByteArray} (h : lM s = true) : (gp s).size = s.size - 1 := by
 have hd : (gp s).data.toList = s.data.toList.drop 1 := by
  show Lib.trimPrefix s.data.toList [118] = _
  unfold Lib.trimPrefix
  rw [if_pos (show Lib.hasPrefix s.data.toList [118] = true from h)]; rfl
 rw [Lib.size_eq, hd, List.length_drop, ← Lib.size_eq]
theorem Fl {s : ByteArray} (h : lM s = true) (k : Nat) : cK (gp s) k = cK s (k + 1) := by unfold cK; rw [nZ h]
def rv (s : ByteArray) : Bool := !(decide (s.size < 2) || decide (4 < s.size) || !decide (cK s 0 = 118) || (decide (cK s 1 = 48) && decide (2 < s.size)))
theorem iO (s : ByteArray) : ck s = (rv s && gh eE (gp s)) := by
 unfold ck rv
 cases hv : lM s with
 | false =>
  rw [qm] at hv
  by_cases h1 : s.size < 2 <;> simp_all <;> (intros; omega)
 | true =>
  have h1 := l8 hv
  have h2 := Fl hv 0
  rw [qm] at hv
  simp only [Bool.and_eq_true,decide_eq_true_eq] at hv
  unfold lN
  rw [h1, h2]
  cases gh eE (gp s)
  ·simp
  ·rw [Bool.eq_iff_iff]
   simp [hv.2]
   omega
end Go.Proofs.YtnfeacnbgbggfaaGreatDoor
end

section
namespace Go.Proofs.YtnfeacnbgbggfaaGreatDoor
open Go.Eng
open Nat renaming reduceAdd → zA, reduceLT → zB, reduceLeDiff → zC, reduceMul → zD, reduceEqDiff → zE, reduceSub → zF
variable [aG]
set_option maxHeartbeats 4000000
set_option maxRecDepth 100000
theorem xk  : ∃ r_, (fun w => w = .slice (Qc.map str)) r_ ∧ aP Tryz.prog 192 [] r_ := by
 refine dI tt_ok [] 2 [.tmp 0] (fn := Tryz.f192) Tryz.func192 rfl Tryz.call192 ⟨rfl, rfl, by simp⟩ fun K hK => ?_
 simp only [go_sem,reduceIte,zA,zB,zC,zD,zE,zF,reduceCtorEq]
 exact hK _ rfl
theorem BW (l : List ByteArray) (s : ByteArray) (hl : l.length ≤ 1048576) : ∃ r_, (fun w => w = bl (l.any fun k => decide (k = s))) r_ ∧ aP Tryz.prog 191 [.slice (l.map str), str s] r_ := by
 refine dI tt_ok [] 18 [.tmp 4] (fn := Tryz.f191) Tryz.func191 rfl Tryz.call191 ⟨rfl, rfl, by simp⟩ fun K hK => ?_
 simp only [List.length_map,go_sem,reduceIte,zA,zB,zC,zD,zE,zF,reduceCtorEq]
 refine bA tt_ok [] [5] 0 [0,1] (fun vs => ((l.length : Int) - Go.Eng.intOf (vs.headD .undef)).toNat) (fun vs => ∃ i : Nat, vs = [num i] ∧ i ≤ l.length ∧ ∀ j < i, ∀ x, l[j]? = some x → decide (x = s) = false) (by omega) (by simp only [List.length_map,go_sem,reduceIte,zA,zB,zC,zD,zE,zF,reduceCtorEq]) (⟨0, rfl, Nat.zero_le _, fun j hj => absurd hj (Nat.not_lt_zero j)⟩) fun vs hI Z1 bP => ?_
 obtain ⟨i, rfl, hi, aS⟩ := hI
 simp only [List.length_map,go_sem,reduceIte,zA,zB,zC,zD,zE,zF,reduceCtorEq]
 refine aL (fun gi => ?_) (fun gi => ?_)
 ·have aB : i < l.length := by simpa using gi
  have hw := ax i (by omega)
  obtain ⟨x, hx⟩ : ∃ x, l[i]? = some x := ⟨_, List.getElem?_eq_getElem aB⟩
  simp only [hw,List.getElem?_map,hx,List.length_map,go_sem,reduceIte,zA,zB,zC,zD,zE,zF,reduceCtorEq]
  refine aL (fun gM => ?_) (fun gM => ?_)
  ·have aw : true = l.any fun k => decide (k = s) := (wN hx (by simpa [ao] using gM)).symm
   simp only [hw,List.getElem?_map,hx,List.length_map,go_sem,reduceIte,zA,zB,zC,zD,zE,zF,reduceCtorEq]
   exact hK _ (congrArg bl aw)
  ·simp only [hw,List.getElem?_map,hx,List.length_map,go_sem,reduceIte,zA,zB,zC,zD,zE,zF,reduceCtorEq]
   refine bP _ (cA (by omega) (by simp only [hw,List.getElem?_map,hx,List.length_map,go_sem,reduceIte,zA,zB,zC,zD,zE,zF,reduceCtorEq]) ?_ ?_) <;> simp only [fa,lk,reduceIte,zE]
   ·refine ⟨i + 1, rfl, aB, fun j hj => ?_⟩
    rcases Nat.lt_or_ge j i with h | h
    ·exact aS j h
    ·obtain rfl : j = i := by omega
     intro y hy
     rw [hx] at hy; cases hy; simpa [ao] using gM
   ·simp only [Go.Eng.intOf,List.headD_cons]; omega
 ·have cB : ¬ i < l.length := by simpa using gi
  have aw : false = l.any fun k => decide (k = s) := (any_none fun j hj => aS j (by omega)).symm
  simp only [List.length_map,go_sem,reduceIte,zA,zB,zC,zD,zE,zF,reduceCtorEq]
  exact hK _ (congrArg bl aw)
theorem BX (s : ByteArray) : ∃ r_, (fun w => w = bl (jR s)) r_ ∧ aP Tryz.prog 180 [str s] r_ := by
 refine dI tt_ok [] 26 [.tmp 2] (fn := Tryz.f180) Tryz.func180 rfl Tryz.call180 ⟨rfl, rfl, by simp⟩ fun K hK => ?_
 have fR : Tryz.prog.underlying 9 = some .string := by kernel_rfl
 have sl : ∀ (a : ByteArray) (ty : TypeId), cN Tryz.prog (Builtin.len_ #[9] ty) [.sc (.string a)] = some (num a.size) := fun a ty => cx (P := Tryz.prog) (tt := tt) (T := 9) a fR ty
 simp only [sl,go_sem,reduceIte,zA,zB,zC,zD,zE,zF,reduceCtorEq]
 refine aL (fun kZ => ?_) (fun kZ => ?_)
 ·simp only [sl,go_sem,reduceIte,zA,zB,zC,zD,zE,zF,reduceCtorEq]
  refine aL (fun vb => ?_) (fun vb => ?_)
  ·obtain ⟨v0, lO⟩ := bZ (s := s) (i := 0) (by have := of_decide_eq_true kZ; omega)
   have bc := cQ (P := Tryz.prog) s fR .i64 (0 : Int) (by omega) (c := v0) (show s[((0 : Nat) : Int).toNat]? = some v0 from lO)
   have Wx : cK s 0 = v0.toNat := dd lO
   simp only [bc,sl,go_sem,reduceIte,zA,zB,zC,zD,zE,zF,reduceCtorEq]
   refine cF (pU _) ?_
   rintro _ rfl
   simp only [bc,sl,go_sem,reduceIte,zA,zB,zC,zD,zE,zF,reduceCtorEq]
   refine aL (fun BY => ?_) (fun BY => ?_)
   ·simp only [bc,sl,go_sem,reduceIte,zA,zB,zC,zD,zE,zF,reduceCtorEq]
    refine cF (Hh s (by have := of_decide_eq_true vb; omega)) ?_
    rintro _ rfl
    simp only [bc,sl,go_sem,reduceIte,zA,zB,zC,zD,zE,zF,reduceCtorEq]
    refine aL (fun BZ => ?_) (fun BZ => ?_)
    ·simp only [bc,sl,go_sem,reduceIte,zA,zB,zC,zD,zE,zF,reduceCtorEq]
     refine cF (xk) ?_
     rintro _ rfl
     simp only [bc,sl,go_sem,reduceIte,zA,zB,zC,zD,zE,zF,reduceCtorEq]
     refine cF (BW Qc s (by decide)) ?_
     rintro _ rfl
     simp only [bc,sl,go_sem,reduceIte,zA,zB,zC,zD,zE,zF,reduceCtorEq]
     exact hK _ (congrArg bl (by rw [l6]; simp_all <;> (intros; omega)))
    ·simp only [bc,sl,go_sem,reduceIte,zA,zB,zC,zD,zE,zF,reduceCtorEq]
     exact hK _ (congrArg bl (by rw [l6]; simp_all <;> (intros; omega)))
   ·simp only [bc,sl,go_sem,reduceIte,zA,zB,zC,zD,zE,zF,reduceCtorEq]
    exact hK _ (congrArg bl (by rw [l6]; simp_all <;> (intros; omega)))
  ·simp only [sl,go_sem,reduceIte,zA,zB,zC,zD,zE,zF,reduceCtorEq]
   exact hK _ (congrArg bl (by rw [l6]; simp_all <;> (intros; omega)))
 ·simp only [sl,go_sem,reduceIte,zA,zB,zC,zD,zE,zF,reduceCtorEq]
  exact hK _ (congrArg bl (by rw [l6]; simp_all <;> (intros; omega)))
theorem zP (s : ByteArray) (hs : s.size ≤ 1048576) : ∃ r_, (fun w => w = bl (mN s)) r_ ∧ aP Tryz.prog 155 [str s] r_ := by
 refine dI tt_ok [] 24 [.tmp 2] (fn := Tryz.f155) Tryz.func155 rfl Tryz.call155 ⟨rfl, rfl, by simp⟩ fun K hK => ?_
 have fR : Tryz.prog.underlying 9 = some .string := by kernel_rfl
 have sl : ∀ (a : ByteArray) (ty : TypeId), cN Tryz.prog (Builtin.len_ #[9] ty) [.sc (.string a)] = some (num a.size) := fun a ty => cx (P := Tryz.prog) (tt := tt) (T := 9) a fR ty
 simp only [sl,go_sem,reduceIte,zA,zB,zC,zD,zE,zF,reduceCtorEq]
 refine bA tt_ok [] [3] 0 [0] (fun vs => ((s.size : Int) - Go.Eng.intOf (vs.headD .undef)).toNat) (fun vs => ∃ i : Nat, vs = [num i] ∧ i ≤ s.size ∧ ∀ j < i, ∀ b, s[j]? = some b → s5 b.toNat = true) (by omega) (by simp only [sl,go_sem,reduceIte,zA,zB,zC,zD,zE,zF,reduceCtorEq]) (⟨0, rfl, Nat.zero_le _, fun j hj => absurd hj (Nat.not_lt_zero j)⟩) fun vs hI Z1 bP => ?_
 obtain ⟨i, rfl, hi, ec⟩ := hI
 simp only [sl,go_sem,reduceIte,zA,zB,zC,zD,zE,zF,reduceCtorEq]
 refine aL (fun Bh => ?_) (fun Bh => ?_)
 ·have aB : i < s.size := by simpa using Bh
  have hw := ax i (by omega)
  obtain ⟨c, kE⟩ := bZ (s := s) (i := i) aB
  have c6 := cQ (P := Tryz.prog) s fR .i64 (i : Int) (by omega) (c := c) (show s[((i : Nat) : Int).toNat]? = some c from kE)
  simp only [hw,c6,sl,go_sem,reduceIte,zA,zB,zC,zD,zE,zF,reduceCtorEq]
  refine cF (pU _) ?_
  rintro _ rfl
  simp only [hw,c6,sl,go_sem,reduceIte,zA,zB,zC,zD,zE,zF,reduceCtorEq]
  refine aL (fun TO => ?_) (fun TO => ?_)
  ·simp only [hw,c6,sl,go_sem,reduceIte,zA,zB,zC,zD,zE,zF,reduceCtorEq]
   refine cF (mw _) ?_
   rintro _ rfl
   simp only [hw,c6,sl,go_sem,reduceIte,zA,zB,zC,zD,zE,zF,reduceCtorEq]
   refine aL (fun eW => ?_) (fun eW => ?_)
   ·have aw : false = mN s := by unfold mN; rw [iH (p := s5) kE (by unfold s5; simp_all), Bool.and_false]
    simp only [hw,c6,sl,go_sem,reduceIte,zA,zB,zC,zD,zE,zF,reduceCtorEq]
    exact hK _ (congrArg bl aw)
   ·simp only [hw,c6,sl,go_sem,reduceIte,zA,zB,zC,zD,zE,zF,reduceCtorEq]
    refine bP _ (cA (by omega) (by simp only [hw,c6,sl,go_sem,reduceIte,zA,zB,zC,zD,zE,zF,reduceCtorEq]) ?_ ?_) <;> simp only [fa,lk,reduceIte,zE]
    ·refine ⟨i + 1, rfl, aB, fun j hj b hb => ?_⟩
     rcases Nat.lt_or_ge j i with h | h
     ·exact ec j h b hb
     ·obtain rfl : j = i := by omega
      rw [kE] at hb; cases hb; unfold s5; simp_all
    ·simp only [Go.Eng.intOf,List.headD_cons]; omega
  ·simp only [hw,c6,sl,go_sem,reduceIte,zA,zB,zC,zD,zE,zF,reduceCtorEq]
   refine bP _ (cA (by omega) (by simp only [hw,c6,sl,go_sem,reduceIte,zA,zB,zC,zD,zE,zF,reduceCtorEq]) ?_ ?_) <;> simp only [fa,lk,reduceIte,zE]
   ·refine ⟨i + 1, rfl, aB, fun j hj b hb => ?_⟩
    rcases Nat.lt_or_ge j i with h | h
    ·exact ec j h b hb
    ·obtain rfl : j = i := by omega
     rw [kE] at hb; cases hb; unfold s5; simp_all
   ·simp only [Go.Eng.intOf,List.headD_cons]; omega
 ·have cB : ¬ i < s.size := by simpa using Bh
  have aS : gh s5 s = true := jQ fun j hj b hb => ec j (by omega) b hb
  have aw : jR s = mN s := by unfold mN; rw [aS, Bool.and_true]
  simp only [sl,go_sem,reduceIte,zA,zB,zC,zD,zE,zF,reduceCtorEq]
  refine cF (BX s) ?_
  rintro _ rfl
  simp only [sl,go_sem,reduceIte,zA,zB,zC,zD,zE,zF,reduceCtorEq]
  exact hK _ (congrArg bl aw)
end Go.Proofs.YtnfeacnbgbggfaaGreatDoor
end

section
namespace Go.Proofs.YtnfeacnbgbggfaaGreatDoor
open Go.Eng
open Nat renaming reduceAdd → zA, reduceLT → zB, reduceLeDiff → zC, reduceMul → zD, reduceEqDiff → zE, reduceSub → zF
variable [aG]
set_option maxHeartbeats 4000000
set_option maxRecDepth 100000
theorem zQ (t : ByteArray) : ∀ k, (∀ j < k, eE (cK t j) = true) → 0 ≤ dJ t k ∧ dJ t k < 10 ^ k
 | 0, _ => ⟨Int.le_refl _, by simp [dJ]⟩
 | k + 1, h => by
  obtain ⟨h1, h2⟩ := zQ t k fun j hj => h j (by omega)
  have h3 := h k (by omega)
  unfold eE at h3
  simp only [Bool.and_eq_true,decide_eq_true_eq] at h3
  rw [dJ, Int.pow_succ]
  omega
theorem vt {t : ByteArray} {k : Nat} (hk : k ≤ 3) (h : ∀ j < k, eE (cK t j) = true) : 0 ≤ dJ t k ∧ dJ t k < 1000 := by
 obtain ⟨h1, h2⟩ := zQ t k h
 refine ⟨h1, Int.lt_of_lt_of_le h2 ?_⟩
 have : k = 0 ∨ k = 1 ∨ k = 2 ∨ k = 3 := by omega
 rcases this with rfl | rfl | rfl | rfl <;> decide
theorem B6 {s : ByteArray} (h : rv s = true) : lM s = true ∧ 2 ≤ s.size ∧ s.size ≤ 4 := by
 unfold rv at h
 rw [qm]
 by_cases h1 : s.size < 2 <;> by_cases h2 : 4 < s.size <;> simp_all <;> omega
theorem IE {o : List ByteArray} {z : ByteArray} {c : UInt8} (h : o[o.length - 1]? = some z) (hc : c ≠ 47) : fb o c = o.set (o.length - 1) (z ++ ⟨#[c]⟩) := by
 unfold fb; rw [if_neg hc, h]; rfl
theorem vu {s : ByteArray} {i : Nat} {c : UInt8} (h : s[i]? = some c) : (bp s).take (i + 1) = (bp s).take i ++ [c] := by
 unfold bp; rw [List.take_add_one, jP h]; rfl
theorem Q7 {o : List ByteArray} {i : Nat} (h : ∀ x ∈ o, x.size ≤ i) {z : ByteArray} {j : Nat} (hz : o[j]? = some z) : z.size ≤ i := h z (List.mem_of_getElem? hz)
theorem zR (s : ByteArray) : ∃ r_, (fun w => w = num (if ck s = true then iR s else -1)) r_ ∧ aP Tryz.prog 156 [str s] r_ := by
 refine dI tt_ok [] 48 [.tmp 2] (fn := Tryz.f156) Tryz.func156 rfl Tryz.call156 ⟨rfl, rfl, by simp⟩ fun K hK => ?_
 have fR : Tryz.prog.underlying 9 = some .string := by kernel_rfl
 have sl : ∀ (a : ByteArray) (ty : TypeId), cN Tryz.prog (Builtin.len_ #[9] ty) [.sc (.string a)] = some (num a.size) := fun a ty => cx (P := Tryz.prog) (tt := tt) (T := 9) a fR ty
 have C1 : Tryz.prog.underlying 5 = some (.int .u8) := by kernel_rfl
 have C2 : Tryz.prog.underlying 3 = some (.int .i64) := by kernel_rfl
 have cv := fun (k : IntKind) (n : Int) => ey (P := Tryz.prog) (src := 5) (dst := 3) C1 C2 k n
 simp only [sl,cv,go_sem,reduceIte,zA,zB,zC,zD,zE,zF,reduceCtorEq]
 refine aL (fun kZ => ?_) (fun kZ => ?_)
 ·have ec : ck s = false := by rw [iO]; unfold rv; simp_all <;> (intros; omega)
  have aw : -1 = if ck s = true then iR s else -1 := by rw [ec]; rfl
  simp only [sl,cv,go_sem,reduceIte,zA,zB,zC,zD,zE,zF,reduceCtorEq]
  exact hK _ (congrArg num aw)
 ·simp only [sl,cv,go_sem,reduceIte,zA,zB,zC,zD,zE,zF,reduceCtorEq]
  refine aL (fun vb => ?_) (fun vb => ?_)
  ·have ec : ck s = false := by rw [iO]; unfold rv; simp_all <;> (intros; omega)
   have aw : -1 = if ck s = true then iR s else -1 := by rw [ec]; rfl
   simp only [sl,cv,go_sem,reduceIte,zA,zB,zC,zD,zE,zF,reduceCtorEq]
   exact hK _ (congrArg num aw)
  ·have gQ : 2 ≤ s.size := by simp_all <;> omega
   obtain ⟨v0, lO⟩ := bZ (s := s) (i := 0) (by omega)
   have bc := cQ (P := Tryz.prog) s fR .i64 (0 : Int) (by omega) (c := v0) (show s[((0 : Nat) : Int).toNat]? = some v0 from lO)
   have Wx : cK s 0 = v0.toNat := dd lO
   simp only [bc,sl,cv,go_sem,reduceIte,zA,zB,zC,zD,zE,zF,reduceCtorEq]
   refine aL (fun BY => ?_) (fun BY => ?_)
   ·have ec : ck s = false := by rw [iO]; unfold rv; simp_all <;> (intros; omega)
    have aw : -1 = if ck s = true then iR s else -1 := by rw [ec]; rfl
    simp only [bc,sl,cv,go_sem,reduceIte,zA,zB,zC,zD,zE,zF,reduceCtorEq]
    exact hK _ (congrArg num aw)
   ·obtain ⟨v1, M3⟩ := bZ (s := s) (i := 1) (by omega)
    have eZ := cQ (P := Tryz.prog) s fR .i64 (1 : Int) (by omega) (c := v1) (show s[((1 : Nat) : Int).toNat]? = some v1 from M3)
    have rB : cK s 1 = v1.toNat := dd M3
    simp only [bc,eZ,sl,cv,go_sem,reduceIte,zA,zB,zC,zD,zE,zF,reduceCtorEq]
    refine aL (fun BZ => ?_) (fun BZ => ?_)
    ·simp only [bc,eZ,sl,cv,go_sem,reduceIte,zA,zB,zC,zD,zE,zF,reduceCtorEq]
     refine aL (fun IF => ?_) (fun IF => ?_)
     ·have ec : ck s = false := by rw [iO]; unfold rv; simp_all <;> (intros; omega)
      have aw : -1 = if ck s = true then iR s else -1 := by rw [ec]; rfl
      simp only [bc,eZ,sl,cv,go_sem,reduceIte,zA,zB,zC,zD,zE,zF,reduceCtorEq]
      exact hK _ (congrArg num aw)
     ·have TP : rv s = true := by unfold rv; simp_all <;> (intros; omega)
      obtain ⟨hv, gQ, hs4⟩ := B6 TP
      obtain ⟨t, ht⟩ : ∃ t, t = gp s := ⟨_, rfl⟩
      have Xh : t.size = s.size - 1 := by rw [ht]; exact l8 hv
      have z8 : ck s = gh eE t := by rw [iO, TP, ht]; rfl
      simp only [bc,eZ,sl,cv,go_sem,reduceIte,zA,zB,zC,zD,zE,zF,reduceCtorEq]
      refine bA tt_ok [] [4,3] 0 [0,27] (fun vs => ((s.size : Int) - Go.Eng.intOf (vs.headD .undef)).toNat) (fun vs => ∃ i : Nat, vs = [num i, num (dJ t (i - 1))] ∧ 1 ≤ i ∧ i ≤ s.size ∧ ∀ j < i - 1, eE (cK t j) = true) (by omega) (by simp only [bc,eZ,sl,cv,go_sem,reduceIte,zA,zB,zC,zD,zE,zF,reduceCtorEq]) (⟨1, rfl, Nat.le_refl _, by omega, fun j hj => absurd hj (Nat.not_lt_zero j)⟩) fun vs hI Z1 bP => ?_
      obtain ⟨i, rfl, oa, hi, ec⟩ := hI
      simp only [bc,eZ,sl,cv,go_sem,reduceIte,zA,zB,zC,zD,zE,zF,reduceCtorEq]
      refine aL (fun B7 => ?_) (fun B7 => ?_)
      ·have aB : i < s.size := by simpa using B7
       have hw := ax i (by omega)
       obtain ⟨c, kE⟩ := bZ (s := s) (i := i) aB
       have c6 := cQ (P := Tryz.prog) s fR .i64 (i : Int) (by omega) (c := c) (show s[((i : Nat) : Int).toNat]? = some c from kE)
       have Qe : t[i - 1]? = some c := by rw [ht, nZ hv, Nat.sub_add_cancel oa]; exact kE
       have FH : cK t (i - 1) = c.toNat := dd Qe
       simp only [bc,eZ,hw,c6,sl,cv,go_sem,reduceIte,zA,zB,zC,zD,zE,zF,reduceCtorEq]
       refine cF (mw _) ?_
       rintro _ rfl
       simp only [bc,eZ,hw,c6,sl,cv,go_sem,reduceIte,zA,zB,zC,zD,zE,zF,reduceCtorEq]
       refine aL (fun jy => ?_) (fun jy => ?_)
       ·have RY : eE (c.toNat : Int) = false := by simpa using jy
        have A6 : ck s = false := by rw [z8]; exact iH Qe RY
        have aw : -1 = if ck s = true then iR s else -1 := by rw [A6]; rfl
        simp only [bc,eZ,hw,c6,sl,cv,go_sem,reduceIte,zA,zB,zC,zD,zE,zF,reduceCtorEq]
        exact hK _ (congrArg num aw)
       ·have KG : eE (c.toNat : Int) = true := by simpa using jy
        have IG := KG
        unfold eE at IG
        simp only [Bool.and_eq_true,decide_eq_true_eq] at IG
        obtain ⟨RM, NG⟩ := vt (t := t) (k := i - 1) (by omega) ec
        have hu : IntKind.u8.wrap ((c.toNat : Int) - 48) = (c.toNat : Int) - 48 := by have h := c.toNat_lt; simp only [IntKind.wrap,IntKind.bits,IntKind.signed]; simp; omega
        have ta : IntKind.i64.wrap ((c.toNat : Int) - 48) = (c.toNat : Int) - 48 := IntWalk.i64_in _ (by omega)
        have tb : IntKind.i64.wrap (10 * dJ t (i - 1)) = 10 * dJ t (i - 1) := IntWalk.i64_in _ (by omega)
        have Bq : IntKind.i64.wrap (10 * dJ t (i - 1) + ((c.toNat : Int) - 48)) = dJ t i := by
         conv => rhs; rw [show i = i - 1 + 1 by omega, dJ, FH]
         exact IntWalk.i64_in _ (by omega)
        simp only [bc,eZ,hw,c6,hu,ta,tb,Bq,sl,cv,go_sem,reduceIte,zA,zB,zC,zD,zE,zF,reduceCtorEq]
        refine bP _ (cA (by omega) (by simp only [bc,eZ,hw,c6,hu,ta,tb,Bq,sl,cv,go_sem,reduceIte,zA,zB,zC,zD,zE,zF,reduceCtorEq]) ?_ ?_) <;> simp only [fa,lk,reduceIte,zE]
        ·refine ⟨i + 1, by rw [Nat.add_sub_cancel], by omega, aB, fun j hj => ?_⟩
         rw [Nat.add_sub_cancel] at hj
         rcases Nat.lt_or_ge j (i - 1) with h | h
         ·exact ec j h
         ·obtain rfl : j = i - 1 := by omega
          rw [FH]; simpa using jy
        ·simp only [Go.Eng.intOf,List.headD_cons]; omega
      ·have cB : i = s.size := Nat.le_antisymm hi (Nat.le_of_not_lt (by simpa using B7))
       have y8 : gh eE t = true := jQ fun j hj b hb => by have h := ec j (by omega); rwa [dd hb] at h
       have aw : dJ t (i - 1) = if ck s = true then iR s else -1 := by
        rw [z8, y8, if_pos rfl]
        unfold iR
        rw [← ht, Xh, cB]
       simp only [bc,eZ,sl,cv,go_sem,reduceIte,zA,zB,zC,zD,zE,zF,reduceCtorEq]
       exact hK _ (congrArg num aw)
    ·have TP : rv s = true := by unfold rv; simp_all <;> (intros; omega)
     obtain ⟨hv, gQ, hs4⟩ := B6 TP
     obtain ⟨t, ht⟩ : ∃ t, t = gp s := ⟨_, rfl⟩
     have Xh : t.size = s.size - 1 := by rw [ht]; exact l8 hv
     have z8 : ck s = gh eE t := by rw [iO, TP, ht]; rfl
     simp only [bc,eZ,sl,cv,go_sem,reduceIte,zA,zB,zC,zD,zE,zF,reduceCtorEq]
     refine bA tt_ok [] [4,3] 0 [0,27] (fun vs => ((s.size : Int) - Go.Eng.intOf (vs.headD .undef)).toNat) (fun vs => ∃ i : Nat, vs = [num i, num (dJ t (i - 1))] ∧ 1 ≤ i ∧ i ≤ s.size ∧ ∀ j < i - 1, eE (cK t j) = true) (by omega) (by simp only [bc,eZ,sl,cv,go_sem,reduceIte,zA,zB,zC,zD,zE,zF,reduceCtorEq]) (⟨1, rfl, Nat.le_refl _, by omega, fun j hj => absurd hj (Nat.not_lt_zero j)⟩) fun vs hI Z2 mP => ?_
     obtain ⟨i, rfl, oa, hi, ec⟩ := hI
     simp only [bc,eZ,sl,cv,go_sem,reduceIte,zA,zB,zC,zD,zE,zF,reduceCtorEq]
     refine aL (fun B7 => ?_) (fun B7 => ?_)
     ·have aB : i < s.size := by simpa using B7
      have hw := ax i (by omega)
      obtain ⟨c, kE⟩ := bZ (s := s) (i := i) aB
      have c6 := cQ (P := Tryz.prog) s fR .i64 (i : Int) (by omega) (c := c) (show s[((i : Nat) : Int).toNat]? = some c from kE)
      have Qe : t[i - 1]? = some c := by rw [ht, nZ hv, Nat.sub_add_cancel oa]; exact kE
      have FH : cK t (i - 1) = c.toNat := dd Qe
      simp only [bc,eZ,hw,c6,sl,cv,go_sem,reduceIte,zA,zB,zC,zD,zE,zF,reduceCtorEq]
      refine cF (mw _) ?_
      rintro _ rfl
      simp only [bc,eZ,hw,c6,sl,cv,go_sem,reduceIte,zA,zB,zC,zD,zE,zF,reduceCtorEq]
      refine aL (fun jy => ?_) (fun jy => ?_)
      ·have RY : eE (c.toNat : Int) = false := by simpa using jy
       have A6 : ck s = false := by rw [z8]; exact iH Qe RY
       have aw : -1 = if ck s = true then iR s else -1 := by rw [A6]; rfl
       simp only [bc,eZ,hw,c6,sl,cv,go_sem,reduceIte,zA,zB,zC,zD,zE,zF,reduceCtorEq]
       exact hK _ (congrArg num aw)
      ·have KG : eE (c.toNat : Int) = true := by simpa using jy
       have IG := KG
       unfold eE at IG
       simp only [Bool.and_eq_true,decide_eq_true_eq] at IG
       obtain ⟨RM, NG⟩ := vt (t := t) (k := i - 1) (by omega) ec
       have hu : IntKind.u8.wrap ((c.toNat : Int) - 48) = (c.toNat : Int) - 48 := by have h := c.toNat_lt; simp only [IntKind.wrap,IntKind.bits,IntKind.signed]; simp; omega
       have ta : IntKind.i64.wrap ((c.toNat : Int) - 48) = (c.toNat : Int) - 48 := IntWalk.i64_in _ (by omega)
       have tb : IntKind.i64.wrap (10 * dJ t (i - 1)) = 10 * dJ t (i - 1) := IntWalk.i64_in _ (by omega)
       have Bq : IntKind.i64.wrap (10 * dJ t (i - 1) + ((c.toNat : Int) - 48)) = dJ t i := by
        conv => rhs; rw [show i = i - 1 + 1 by omega, dJ, FH]
        exact IntWalk.i64_in _ (by omega)
       simp only [bc,eZ,hw,c6,hu,ta,tb,Bq,sl,cv,go_sem,reduceIte,zA,zB,zC,zD,zE,zF,reduceCtorEq]
       refine mP _ (cA (by omega) (by simp only [bc,eZ,hw,c6,hu,ta,tb,Bq,sl,cv,go_sem,reduceIte,zA,zB,zC,zD,zE,zF,reduceCtorEq]) ?_ ?_) <;> simp only [fa,lk,reduceIte,zE]
       ·refine ⟨i + 1, by rw [Nat.add_sub_cancel], by omega, aB, fun j hj => ?_⟩
        rw [Nat.add_sub_cancel] at hj
        rcases Nat.lt_or_ge j (i - 1) with h | h
        ·exact ec j h
        ·obtain rfl : j = i - 1 := by omega
         rw [FH]; simpa using jy
       ·simp only [Go.Eng.intOf,List.headD_cons]; omega
     ·have cB : i = s.size := Nat.le_antisymm hi (Nat.le_of_not_lt (by simpa using B7))
      have y8 : gh eE t = true := jQ fun j hj b hb => by have h := ec j (by omega); rwa [dd hb] at h
      have aw : dJ t (i - 1) = if ck s = true then iR s else -1 := by
       rw [z8, y8, if_pos rfl]
       unfold iR
       rw [← ht, Xh, cB]
      simp only [bc,eZ,sl,cv,go_sem,reduceIte,zA,zB,zC,zD,zE,zF,reduceCtorEq]
      exact hK _ (congrArg num aw)
end Go.Proofs.YtnfeacnbgbggfaaGreatDoor
end

section
namespace Go.Proofs.YtnfeacnbgbggfaaGreatDoor
open Go.Eng
open Nat renaming reduceAdd → zA, reduceLT → zB, reduceLeDiff → zC, reduceMul → zD, reduceEqDiff → zE, reduceSub → zF
variable [aG]
set_option maxHeartbeats 4000000
set_option maxRecDepth 100000
theorem LU (c : UInt8) : strOfNums [(c.toNat : Int)] = ⟨#[c]⟩ := o8 [c]
theorem Fm {s : ByteArray} {i : Nat} {c : UInt8} {xs : List ByteArray} {y : ByteArray} (hc : s[i]? = some c) (hx : fc ((bp s).take i) = xs ++ [y]) (h : (c.toNat : Int) = 47) : fc ((bp s).take (i + 1)) = (xs ++ [y]) ++ [⟨#[]⟩] := by
 have e : c = 47 := UInt8.toNat_inj.1 (by rw [show (47 : UInt8).toNat = 47 from rfl]; omega)
 rw [vu hc, pe, hx, e]; rfl
theorem IH {s : ByteArray} {i : Nat} {c : UInt8} {xs : List ByteArray} {y : ByteArray} (hc : s[i]? = some c) (hx : fc ((bp s).take i) = xs ++ [y]) (h : ¬ (c.toNat : Int) = 47) : fc ((bp s).take (i + 1)) = xs ++ [y ++ ⟨#[c]⟩] := by
 have e : c ≠ 47 := fun e => h (by rw [e]; rfl)
 rw [vu hc, pe, hx, IE (z := y) (by simp) e]
 simp
theorem II {s : ByteArray} (h : bE s = true) : ∃ j : Nat, j < s.size ∧ s[j]? = some 47 := by
 unfold bE at h
 simp only [Bool.and_eq_true,decide_eq_true_eq] at h
 obtain ⟨⟨-, h2⟩, -⟩ := h
 rw [eh] at h2
 have hc : Lib.countB s ⟨#[47]⟩ = s.data.toList.count 47 := by
  unfold Lib.countB
  exact Lib.count_one 47 s.data.toList
 have hm : (47 : UInt8) ∈ s.data.toList := List.count_pos_iff.1 (by omega)
 obtain ⟨j, hj⟩ := List.mem_iff_getElem?.1 hm
 have qq : j < s.size := by have := (List.getElem?_eq_some_iff.1 hj).1; simpa using this
 obtain ⟨c, kE⟩ := bZ qq
 have := jP kE
 rw [hj] at this; cases this
 exact ⟨j, qq, kE⟩
theorem B8 (s : ByteArray) : 0 < (pieces s).length := by rw [eh]; omega
theorem B9 {s z : ByteArray} (h : z ∈ pieces s) : z.size ≤ s.size := by
 have key : ∀ (l : List UInt8) (o : List ByteArray) (n : Nat), (∀ x ∈ o, x.size ≤ n) → ∀ x ∈ l.foldl fb o, x.size ≤ n + l.length := by
  intro l
  induction l with
  | nil => intro o n h x hx; simpa using h x hx
  | cons b l ih =>
   intro o n h x hx
   rw [List.foldl_cons] at hx
   have := ih (fb o b) (n + 1) (fun y hy => by
    unfold fb at hy
    split at hy
    ·rcases List.mem_append.1 hy with hy | hy
     ·exact Nat.le_succ_of_le (h y hy)
     ·rw [List.mem_singleton.1 hy]; exact Nat.zero_le _
    ·rcases List.mem_or_eq_of_mem_set hy with hy | hy
     ·exact Nat.le_succ_of_le (h y hy)
     ·rw [hy, ByteArray.size_append]
      have hs : (⟨#[b]⟩ : ByteArray).size = 1 := rfl
      have : ((o[o.length - 1]?).getD ⟨#[]⟩).size ≤ n := by
       cases hq : o[o.length - 1]? with
       | none => exact Nat.zero_le _
       | some q => exact h q (List.mem_of_getElem? hq)
      omega) x hx
   rw [List.length_cons]; omega
 rw [← l7] at h
 have := key (bp s) [⟨#[]⟩] 0 (fun x hx => by rw [List.mem_singleton.1 hx]; exact Nat.zero_le _) z h
 rw [Nat.zero_add] at this
 exact this
theorem xl {z : ByteArray} (h : ck z = true) : 0 ≤ iR z := by
 rw [iO] at h
 simp only [Bool.and_eq_true] at h
 obtain ⟨-, -, h4⟩ := B6 h.1
 exact (nJ h.2 _ (Nat.le_refl _)).1
theorem IJ (s : ByteArray) (hs : s.size ≤ 1048576) : ∃ r_, (fun w => w = .slice ((pieces s).map str)) r_ ∧ aP Tryz.prog 154 [str s] r_ := by
 refine dI tt_ok [] 37 [.tmp 2] (fn := Tryz.f154) Tryz.func154 rfl Tryz.call154 ⟨rfl, rfl, by simp⟩ fun K hK => ?_
 have fR : Tryz.prog.underlying 9 = some .string := by kernel_rfl
 have sl : ∀ (a : ByteArray) (ty : TypeId), cN Tryz.prog (Builtin.len_ #[9] ty) [.sc (.string a)] = some (num a.size) := fun a ty => cx (P := Tryz.prog) (tt := tt) (T := 9) a fR ty
 have Jn := fun (n : Int) => xG (P := Tryz.prog) (mem := []) (s := 159) (d := 9) (e := 5) (rows := [.sc (.int .u8 n)]) (ns := [n]) (by kernel_rfl) (by kernel_rfl) fR rfl
 have tO : ∀ c : Int, (strOfNums [c]).size = 1 := fun c => rfl
 simp only [sl,Jn,go_sem,reduceIte,zA,zB,zC,zD,zE,zF,reduceCtorEq]
 refine ct tt_ok [] (fun a : Nat × Nat × List ByteArray × ByteArray => [(0, str s), (3, .ms 0 a.2.1 0 (a.2.1 + 1)), (4, num a.1)]) (fun a : Nat × Nat × List ByteArray × ByteArray => [.rows a.2.1 1 ((a.2.2.1 ++ [a.2.2.2]).map str)]) (fun a => s.size - a.1) (fun a => a.1 ≤ s.size ∧ a.2.2.1.length = a.2.1 ∧ a.2.1 ≤ a.1 ∧ a.2.2.2.size ≤ a.1 ∧ (∀ x ∈ a.2.2.1, x.size ≤ s.size) ∧ fc ((bp s).take a.1) = a.2.2.1 ++ [a.2.2.2]) ((0, 0, [], ⟨#[]⟩)) 1 (ba (by omega) (by simp only [sl,Jn,List.map_cons,List.map_nil,List.nil_append,Int.cast_ofNat_Int,go_sem,reduceIte,zA,zB,zC,zD,zE,zF,reduceCtorEq] <;> rfl)) (⟨Nat.zero_le _, rfl, Nat.le_refl _, Nat.le_refl _, (fun x hx => by cases hx), rfl⟩) ?_
 rintro ⟨i, k, xs, y⟩ ⟨hi, xQ, Vs, hyi, aS, LV⟩
 try dsimp only at hi xQ Vs hyi aS LV
 try dsimp only
 intro Z1 bP
 simp only [sl,Jn,go_sem,reduceIte,zA,zB,zC,zD,zE,zF,reduceCtorEq]
 refine aL (fun gi => ?_) (fun gi => ?_)
 ·have aB : i < s.size := by simpa using gi
  have hw := ax i (by omega)
  obtain ⟨c, kE⟩ := bZ (s := s) (i := i) aB
  have c6 := cQ (P := Tryz.prog) s fR .i64 (i : Int) (by omega) (c := c) (show s[((i : Nat) : Int).toNat]? = some c from kE)
  have dT : IntKind.i64.wrap (((k + 1 : Nat) : Int) - 1) = ((k : Nat) : Int) := jf _ k (by omega) (by omega)
  have fJ : ((k : Nat) : Int) < ((k + 1 : Nat) : Int) := by omega
  have UN : (xs ++ [y])[k]? = some y := by rw [List.getElem?_append_right (by omega), xQ, Nat.sub_self]; rfl
  have dE : k + 1 + 1 ≤ 34359738368 := by omega
  have C8 := fun a b => oD Tryz.prog 9 a b y (strOfNums [(c.toNat : Int)]) (by rw [tO, show IntKind.i64.max = 9223372036854775807 from rfl]; omega)
  simp only [hw,c6,dT,fJ,dE,xQ,List.getElem?_map,UN,C8,List.length_map,List.length_append,List.length_cons,List.length_nil,Nat.zero_add,sl,Jn,go_sem,reduceIte,zA,zB,zC,zD,zE,zF,reduceCtorEq]
  refine aL (fun gJ => ?_) (fun gJ => ?_)
  ·let nv : Nat × Nat × List ByteArray × ByteArray := (i + 1, k + 1, xs ++ [y], ⟨#[]⟩)
   have IK : ∀ x ∈ nv.2.2.1, x.size ≤ s.size := fun x hx => by
    rcases List.mem_append.1 hx with h | h
    ·exact aS x h
    ·rw [List.mem_singleton.1 h]; omega
   have IL : fc ((bp s).take nv.1) = nv.2.2.1 ++ [nv.2.2.2] := Fm kE LV (by simpa using gJ)
   simp only [hw,c6,dT,fJ,dE,xQ,List.getElem?_map,UN,C8,List.length_map,List.length_append,List.length_cons,List.length_nil,Nat.zero_add,sl,Jn,go_sem,reduceIte,zA,zB,zC,zD,zE,zF,reduceCtorEq]
   refine bP _ ⟨nv, ?_, ?_, ba (by omega) (by (simp [nv, je, lk, aW, bo, ai, aA, List.map_append]; first | done | (rw [List.set_append_right _ _ (by rw [List.length_map]; omega), List.length_map, xQ, Nat.sub_self]; rfl)))⟩
   ·refine ⟨aB, ?_, ?_, ?_, ?_⟩
    ·dsimp only [nv]; first | exact xQ | (rw [List.length_append, xQ]; rfl)
    ·dsimp only [nv]; omega
    ·dsimp only [nv]; first | exact Nat.zero_le _ | (rw [ByteArray.size_append, tO]; omega)
    ·exact ⟨IK, IL⟩
   ·dsimp only [nv]; omega
  ·let nv : Nat × Nat × List ByteArray × ByteArray := (i + 1, k, xs, y ++ strOfNums [(c.toNat : Int)])
   have IK : ∀ x ∈ nv.2.2.1, x.size ≤ s.size := aS
   have IL : fc ((bp s).take nv.1) = nv.2.2.1 ++ [nv.2.2.2] := by show _ = xs ++ [y ++ strOfNums [(c.toNat : Int)]]; rw [LU]; exact IH kE LV (by simpa using gJ)
   simp only [hw,c6,dT,fJ,dE,xQ,List.getElem?_map,UN,C8,List.length_map,List.length_append,List.length_cons,List.length_nil,Nat.zero_add,sl,Jn,go_sem,reduceIte,zA,zB,zC,zD,zE,zF,reduceCtorEq]
   refine bu tt_ok aD [⟨.n, 0, [], [], []⟩, ⟨.n, 0, [], [], []⟩, ⟨.n, 0, [], [], []⟩, ⟨.n, 0, [], [], []⟩, ⟨.n, 0, [], [], []⟩, ⟨.n, 0, [], [], []⟩, ⟨.n, 0, [], [], []⟩, ⟨.n, 0, [], [], []⟩, ⟨.r, 0, [], [], []⟩, ⟨.r, 0, [], [], []⟩, ⟨.n, 0, [], [], []⟩, ⟨.n, 0, [], [], []⟩, ⟨.n, 0, [], [], []⟩, ⟨.n, 0, [], [], []⟩, ⟨.n, 0, [], [], []⟩, ⟨.n, 0, [], [], []⟩, ⟨.r, 0, [], [], []⟩, ⟨.w, 0, [], [], []⟩] 1 (by kernel_rfl) ?_
   simp only [hw,c6,dT,fJ,dE,xQ,List.getElem?_map,UN,C8,List.length_map,List.length_append,List.length_cons,List.length_nil,Nat.zero_add,sl,Jn,go_sem,reduceIte,zA,zB,zC,zD,zE,zF,reduceCtorEq]
   refine bP _ ⟨nv, ?_, ?_, ba (by omega) (by (simp [nv, je, lk, aW, bo, ai, aA, List.map_append]; first | done | (rw [List.set_append_right _ _ (by rw [List.length_map]; omega), List.length_map, xQ, Nat.sub_self]; rfl)))⟩
   ·refine ⟨aB, ?_, ?_, ?_, ?_⟩
    ·dsimp only [nv]; first | exact xQ | (rw [List.length_append, xQ]; rfl)
    ·dsimp only [nv]; omega
    ·dsimp only [nv]; first | exact Nat.zero_le _ | (rw [ByteArray.size_append, tO]; omega)
    ·exact ⟨IK, IL⟩
   ·dsimp only [nv]; omega
 ·have cB : ¬ i < s.size := by simpa using gi
  have fk : pieces s = xs ++ [y] := by rw [← l7, ← LV, List.take_of_length_le]; exact Nat.le_of_not_lt cB
  simp only [sl,Jn,go_sem,reduceIte,zA,zB,zC,zD,zE,zF,reduceCtorEq]
  exact G5 (by simp [xQ]) (hK _ (by rw [fk]))
theorem vw (s : ByteArray) (hs : s.size ≤ 1048576) : ∃ r_, (fun w => w = .bT [num (bQ s), num (bF s)]) r_ ∧ aP Tryz.prog 133 [str s] r_ := by
 refine dI tt_ok [] 39 [.tmp 2, .tmp 3] (fn := Tryz.f133) Tryz.func133 rfl Tryz.call133 ⟨rfl, rfl, by simp⟩ fun K hK => ?_
 have fR : Tryz.prog.underlying 9 = some .string := by kernel_rfl
 have sl : ∀ (a : ByteArray) (ty : TypeId), cN Tryz.prog (Builtin.len_ #[9] ty) [.sc (.string a)] = some (num a.size) := fun a ty => cx (P := Tryz.prog) (tt := tt) (T := 9) a fR ty
 simp only [sl,List.length_map,go_sem,reduceIte,zA,zB,zC,zD,zE,zF,reduceCtorEq]
 refine aL (fun gi => ?_) (fun gi => ?_)
 ·have ec : bE s = false := by unfold bE; simp_all <;> (intros; omega)
  simp only [sl,List.length_map,go_sem,reduceIte,zA,zB,zC,zD,zE,zF,reduceCtorEq]
  refine hK _ ?_
  first
   | (unfold bQ bF; rw [ec]; rfl)
   | (unfold bQ bF; rw [bM, oe]; simp_all; done)
   | (unfold bQ bF; rw [bM, oe]; simp_all; rfl)
 ·simp only [sl,List.length_map,go_sem,reduceIte,zA,zB,zC,zD,zE,zF,reduceCtorEq]
  refine cF (IJ s (by omega)) ?_
  rintro _ rfl
  obtain ⟨P, hP⟩ : ∃ P, P = pieces s := ⟨_, rfl⟩
  have Wy := ve s
  have Wz := B8 s
  have hPz : ∀ x ∈ P, x.size ≤ s.size := fun x hx => B9 (hP ▸ hx)
  rw [← hP]
  rw [← hP] at Wy Wz
  obtain ⟨z, hz⟩ : ∃ z, P[P.length - 1]? = some z := ⟨_, List.getElem?_eq_getElem (by omega)⟩
  have oe : vd s = z := y9 (by rw [← hP]; exact hz)
  have dT : IntKind.i64.wrap ((P.length : Int) - 1) = ((P.length - 1 : Nat) : Int) := jf _ _ (by omega) (by omega)
  simp only [List.getElem?_map,hz,dT,sl,List.length_map,go_sem,reduceIte,zA,zB,zC,zD,zE,zF,reduceCtorEq]
  refine bA tt_ok [] [5] 0 [4,9] (fun vs => ((P.length : Int) - Go.Eng.intOf (vs.headD .undef)).toNat) (fun vs => ∃ i : Nat, vs = [num i] ∧ i ≤ P.length ∧ ∀ j < i, ∀ x, P[j]? = some x → mN x = true) (by omega) (by simp only [List.getElem?_map,hz,dT,sl,List.length_map,go_sem,reduceIte,zA,zB,zC,zD,zE,zF,reduceCtorEq]) (⟨0, rfl, Nat.zero_le _, fun j hj => absurd hj (Nat.not_lt_zero j)⟩) fun vs hI Z1 bP => ?_
  obtain ⟨i, rfl, hi, aS⟩ := hI
  simp only [List.getElem?_map,hz,dT,sl,List.length_map,go_sem,reduceIte,zA,zB,zC,zD,zE,zF,reduceCtorEq]
  refine aL (fun gJ => ?_) (fun gJ => ?_)
  ·have aB : i < P.length := by simpa using gJ
   have hw := ax i (by omega)
   obtain ⟨x, hx⟩ : ∃ x, P[i]? = some x := ⟨_, List.getElem?_eq_getElem aB⟩
   simp only [List.getElem?_map,hz,dT,hw,hx,sl,List.length_map,go_sem,reduceIte,zA,zB,zC,zD,zE,zF,reduceCtorEq]
   refine cF (zP x (by have := hPz x (List.mem_of_getElem? hx); omega)) ?_
   rintro _ rfl
   simp only [List.getElem?_map,hz,dT,hw,hx,sl,List.length_map,go_sem,reduceIte,zA,zB,zC,zD,zE,zF,reduceCtorEq]
   refine aL (fun iS => ?_) (fun iS => ?_)
   ·have ec : bE s = false := by
     have ha : P.all mN = false := Br hx (by simpa using iS)
     unfold bE; rw [← hP, ha]; simp
    simp only [List.getElem?_map,hz,dT,hw,hx,sl,List.length_map,go_sem,reduceIte,zA,zB,zC,zD,zE,zF,reduceCtorEq]
    refine hK _ ?_
    first
     | (unfold bQ bF; rw [ec]; rfl)
     | (unfold bQ bF; rw [bM, oe]; simp_all; done)
     | (unfold bQ bF; rw [bM, oe]; simp_all; rfl)
   ·simp only [List.getElem?_map,hz,dT,hw,hx,sl,List.length_map,go_sem,reduceIte,zA,zB,zC,zD,zE,zF,reduceCtorEq]
    refine bP _ (cA (by omega) (by simp only [List.getElem?_map,hz,dT,hw,hx,sl,List.length_map,go_sem,reduceIte,zA,zB,zC,zD,zE,zF,reduceCtorEq]) ?_ ?_) <;> simp only [fa,lk,reduceIte,zE]
    ·refine ⟨i + 1, rfl, aB, fun j hj => ?_⟩
     rcases Nat.lt_or_ge j i with h | h
     ·exact aS j h
     ·obtain rfl : j = i := by omega
      intro y hy
      rw [hx] at hy; cases hy; simpa using iS
    ·simp only [Go.Eng.intOf,List.headD_cons]; omega
  ·have cB : ¬ i < P.length := by simpa using gJ
   have ha : P.all mN = true := Hs fun j hj => aS j (by omega)
   simp only [List.getElem?_map,hz,dT,sl,List.length_map,go_sem,reduceIte,zA,zB,zC,zD,zE,zF,reduceCtorEq]
   refine cF (zR z) ?_
   rintro _ rfl
   simp only [List.getElem?_map,hz,dT,sl,List.length_map,go_sem,reduceIte,zA,zB,zC,zD,zE,zF,reduceCtorEq]
   refine aL (fun Qf => ?_) (fun Qf => ?_)
   ·have ec : bE s = false := by
     unfold bE; rw [oe, ← hP]
     by_cases hv : ck z = true
     ·have := xl hv; simp_all; omega
     ·simp [hv]
    simp only [List.getElem?_map,hz,dT,sl,List.length_map,go_sem,reduceIte,zA,zB,zC,zD,zE,zF,reduceCtorEq]
    refine hK _ ?_
    first
     | (unfold bQ bF; rw [ec]; rfl)
     | (unfold bQ bF; rw [bM, oe]; simp_all; done)
     | (unfold bQ bF; rw [bM, oe]; simp_all; rfl)
   ·simp only [List.getElem?_map,hz,dT,sl,List.length_map,go_sem,reduceIte,zA,zB,zC,zD,zE,zF,reduceCtorEq]
    refine aL (fun rn => ?_) (fun rn => ?_)
    ·have ec : bE s = false := by
      unfold bE; rw [oe, ← hP]
      by_cases hv : ck z = true
      ·have := xl hv; simp_all; omega
      ·simp [hv]
     simp only [List.getElem?_map,hz,dT,sl,List.length_map,go_sem,reduceIte,zA,zB,zC,zD,zE,zF,reduceCtorEq]
     refine hK _ ?_
     first
      | (unfold bQ bF; rw [ec]; rfl)
      | (unfold bQ bF; rw [bM, oe]; simp_all; done)
      | (unfold bQ bF; rw [bM, oe]; simp_all; rfl)
    ·have hvz : ck z = true := by
      by_cases hv : ck z = true
      ·exact hv
      ·exfalso; simp_all
     have bM : bE s = true := by unfold bE; rw [oe, ← hP, ha, hvz]; simp_all; omega
     simp only [List.getElem?_map,hz,dT,sl,List.length_map,go_sem,reduceIte,zA,zB,zC,zD,zE,zF,reduceCtorEq]
     refine hK _ ?_
     first
      | (unfold bQ bF; rw [ec]; rfl)
      | (unfold bQ bF; rw [bM, oe]; simp_all; done)
      | (unfold bQ bF; rw [bM, oe]; simp_all; rfl)
theorem Ca (s : ByteArray) (hs : s.size ≤ 1048576) : ∃ r_, (fun w => w = bl (bE s)) r_ ∧ aP Tryz.prog 132 [str s] r_ := by
 refine dI tt_ok [] 12 [.tmp 2] (fn := Tryz.f132) Tryz.func132 rfl Tryz.call132 ⟨rfl, rfl, by simp⟩ fun K hK => ?_
 simp only [go_sem,reduceIte,zA,zB,zC,zD,zE,zF,reduceCtorEq]
 refine cF (vw s hs) ?_
 rintro _ rfl
 simp only [go_sem,reduceIte,zA,zB,zC,zD,zE,zF,reduceCtorEq]
 exact hK _ (congrArg bl (by unfold bF; by_cases h : bE s = true <;> simp [h]))
end Go.Proofs.YtnfeacnbgbggfaaGreatDoor
end

section
namespace Go.Proofs.YtnfeacnbgbggfaaGreatDoor
open Go.Eng
open Nat renaming reduceAdd → zA, reduceLT → zB, reduceLeDiff → zC, reduceMul → zD, reduceEqDiff → zE, reduceSub → zF
variable [aG]
set_option maxHeartbeats 4000000
set_option maxRecDepth 100000
theorem qn (T : TypeId) (x y : Operand) (a b : ByteArray) : aT Tryz.prog (fO .gtr T x y) (str a) (str b) = some (bl (!Op.bytesLess a.toList b.toList && !decide (a = b))) := by
 simp [aT, bC, fO, binOp, Op.stringOp, eqGuard, aH, dH, bind, pure, Sem.bind, ao]
theorem LW {a b : ByteArray} (h : ke a b = false) (hn : a ≠ b) : kG a b = 1 := by unfold kG; rw [h, if_neg (by simp), if_neg hn]
theorem LX {a b : ByteArray} (h : ke a b = false) (hn : a = b) : kG a b = 0 := by unfold kG; rw [h, if_neg (by simp), if_pos hn]
theorem DA {a b : ByteArray} (h : ke a b = true) : kG a b = -1 := by unfold kG; rw [h]; rfl
theorem Rl.tP {a b : Rl} {n : Int} (h : kG a.path b.path = n) (hn : n ≠ 0) : a.cmp b = n := by unfold Rl.cmp; rw [h, if_pos hn]
theorem Rl.LY {a b : Rl} (h : kG a.path b.path = 0) : a.cmp b = a.aC.cmp b.aC := by unfold Rl.cmp; rw [h]; rfl
theorem IN (s : ByteArray) (hs : s.size ≤ 1048576) : ∃ r_, (fun w => ∃ nm : ByteArray, w = .bT [str nm, num (bQ s), num (bF s)]) r_ ∧ aP Tryz.prog 108 [str s] r_ := by
 refine dI tt_ok [] 31 [.tmp 2, .tmp 3, .tmp 4] (fn := Tryz.f108) Tryz.func108 rfl Tryz.call108 ⟨rfl, rfl, by simp⟩ fun K hK => ?_
 have fR : Tryz.prog.underlying 9 = some .string := by kernel_rfl
 have sl : ∀ (a : ByteArray) (ty : TypeId), cN Tryz.prog (Builtin.len_ #[9] ty) [.sc (.string a)] = some (num a.size) := fun a ty => cx (P := Tryz.prog) (tt := tt) (T := 9) a fR ty
 simp only [sl,go_sem,reduceIte,zA,zB,zC,zD,zE,zF,reduceCtorEq]
 refine cF (Ca s hs) ?_
 rintro _ rfl
 simp only [sl,go_sem,reduceIte,zA,zB,zC,zD,zE,zF,reduceCtorEq]
 refine aL (fun cE => ?_) (fun cE => ?_)
 ·have ec : bE s = false := by simp_all
  have e1 : bQ s = 0 := by unfold bQ; rw [ec]; rfl
  have e2 : bF s = 4 := by unfold bF; rw [ec]; rfl
  simp only [sl,go_sem,reduceIte,zA,zB,zC,zD,zE,zF,reduceCtorEq]
  first
   | exact hK _ ⟨⟨#[]⟩, by rw [e1, e2] <;> rfl⟩
   | exact hK _ ⟨_, by rw [e2] <;> rfl⟩
 ·have bM : bE s = true := by simpa using cE
  have e2 : bF s = 0 := by unfold bF; rw [bM]; rfl
  obtain ⟨j0, aag, hj0⟩ := II bM
  have M4 : IntKind.i64.wrap ((s.size : Int) - 1) = (s.size : Int) - 1 := IntWalk.i64_in _ (by omega)
  simp only [M4,sl,go_sem,reduceIte,zA,zB,zC,zD,zE,zF,reduceCtorEq]
  refine cF (vw s hs) ?_
  rintro _ rfl
  simp only [M4,sl,go_sem,reduceIte,zA,zB,zC,zD,zE,zF,reduceCtorEq]
  refine aL (fun gM => ?_) (fun gM => ?_)
  ·(rw [e2] at gM; simp at gM)
  ·simp only [M4,sl,go_sem,reduceIte,zA,zB,zC,zD,zE,zF,reduceCtorEq]
   refine bA tt_ok [] [7] 0 [0,2,3,4,5,10,17] (fun vs => (Go.Eng.intOf (vs.headD .undef)).toNat) (fun vs => ∃ i : Nat, vs = [num i] ∧ i < s.size ∧ ∃ j : Nat, j ≤ i ∧ s[j]? = some 47) (by omega) (by simp only [M4,sl,go_sem,reduceIte,zA,zB,zC,zD,zE,zF,reduceCtorEq]) (⟨s.size - 1, by rw [Int.ofNat_sub (by omega)]; rfl, by omega, j0, by omega, hj0⟩) fun vs hI Z1 bP => ?_
   obtain ⟨i, rfl, hi, j, hj, Qg⟩ := hI
   obtain ⟨c, kE⟩ := bZ (s := s) (i := i) hi
   have c6 := cQ (P := Tryz.prog) s fR .i64 (i : Int) (by omega) (c := c) (show s[((i : Nat) : Int).toNat]? = some c from kE)
   simp only [M4,c6,sl,go_sem,reduceIte,zA,zB,zC,zD,zE,zF,reduceCtorEq]
   refine aL (fun iQ => ?_) (fun iQ => ?_)
   ·have bO : ¬ (c.toNat : Int) = 47 := by simpa using iQ
    have sb : j ≠ i := fun e => by subst e; rw [kE] at Qg; cases Qg; exact bO rfl
    have hw : IntKind.i64.wrap ((i : Int) - 1) = ((i - 1 : Nat) : Int) := jf _ _ (by omega) (by omega)
    simp only [M4,c6,hw,sl,go_sem,reduceIte,zA,zB,zC,zD,zE,zF,reduceCtorEq]
    refine bP _ (cA (by omega) (by simp only [M4,c6,hw,sl,go_sem,reduceIte,zA,zB,zC,zD,zE,zF,reduceCtorEq]) ?_ ?_) <;> simp only [fa,lk,reduceIte,zE]
    ·exact ⟨i - 1, rfl, by omega, j, by omega, Qg⟩
    ·simp only [Go.Eng.intOf,List.headD_cons]; omega
   ·have O2 : aT Tryz.prog (fun a h => Instr.sliceAt 9 a none (some h) none) (.sc (.string s)) (.sc (.int .i64 (i : Int))) = some (.sc (.string (s.extract 0 (i : Int).toNat))) := yd (P := Tryz.prog) (tt := tt) (mem := []) (T := 9) s fR .i64 (i : Int) (by omega) (by omega)
    simp only [M4,c6,O2,sl,go_sem,reduceIte,zA,zB,zC,zD,zE,zF,reduceCtorEq]
    first
     | exact hK _ ⟨⟨#[]⟩, by rw [e1, e2] <;> rfl⟩
     | exact hK _ ⟨_, by rw [e2] <;> rfl⟩
theorem IP (a b : dr) : ∃ r_, (fun w => w = num (a.cmp b)) r_ ∧ aP Tryz.prog 120 [bh a, bh b] r_ := by
 refine dI tt_ok [] 44 [.tmp 4] (fn := Tryz.f120) Tryz.func120 rfl Tryz.call120 ⟨rfl, rfl, by simp⟩ fun K hK => ?_
 simp only [bh]
 simp only [go_sem,reduceIte,zA,zB,zC,zD,zE,zF,reduceCtorEq]
 refine bA tt_ok [] [7] 4 [5,6] (fun vs => ((3 : Int) - Go.Eng.intOf (vs.headD .undef)).toNat) (fun vs => ∃ i : Nat, vs = [num i] ∧ i ≤ 3 ∧ ∀ j < i, ft (a.part j) (b.part j) = 0) (by omega) (by simp only [go_sem,reduceIte,zA,zB,zC,zD,zE,zF,reduceCtorEq]) (⟨0, rfl, Nat.zero_le _, fun j hj => absurd hj (Nat.not_lt_zero j)⟩) fun vs hI Z1 bP => ?_
 obtain ⟨i, rfl, hi, aS⟩ := hI
 simp only [go_sem,reduceIte,zA,zB,zC,zD,zE,zF,reduceCtorEq]
 refine aL (fun iS => ?_) (fun iS => ?_)
 ·have aB : i < 3 := by have := of_decide_eq_true iS; omega
  rw [iS]
  have cX : (i : Int) < 3 := by omega
  have hw := ax i (by omega)
  have M5 := a.SS i aB
  have M6 := b.SS i aB
  have tg : ((3 : Nat) : Int) = 3 := rfl
  simp only [hw,cX,M5,M6,tg,Int.natCast_nonneg,Int.toNat_natCast,go_sem,reduceIte,zA,zB,zC,zD,zE,zF,reduceCtorEq]
  refine bu tt_ok aD [⟨.n, 0, [], [], []⟩, ⟨.n, 0, [], [], []⟩, ⟨.r, 0, [], [], []⟩, ⟨.r, 0, [], [], []⟩, ⟨.n, 0, [], [], []⟩, ⟨.n, 0, [], [], []⟩, ⟨.r, 0, [], [], []⟩, ⟨.r, 0, [], [], []⟩, ⟨.n, 0, [], [], []⟩] 0 (by kernel_rfl) ?_
  simp only [hw,cX,M5,M6,tg,Int.natCast_nonneg,Int.toNat_natCast,go_sem,reduceIte,zA,zB,zC,zD,zE,zF,reduceCtorEq]
  refine aL (fun zN => ?_) (fun zN => ?_)
  ·have TQ : ft (a.part i) (b.part i) = -1 := by unfold ft; simp_all
   have aw : -1 = a.cmp b := by rw [dr.Bj aB aS (by rw [TQ]; decide), TQ]
   simp only [hw,cX,M5,M6,tg,Int.natCast_nonneg,Int.toNat_natCast,go_sem,reduceIte,zA,zB,zC,zD,zE,zF,reduceCtorEq]
   exact hK _ (congrArg num aw)
  ·simp only [hw,cX,M5,M6,tg,Int.natCast_nonneg,Int.toNat_natCast,go_sem,reduceIte,zA,zB,zC,zD,zE,zF,reduceCtorEq]
   refine bu tt_ok aD [⟨.n, 0, [], [], []⟩, ⟨.n, 0, [], [], []⟩, ⟨.r, 0, [], [], []⟩, ⟨.r, 0, [], [], []⟩, ⟨.n, 0, [], [], []⟩, ⟨.n, 0, [], [], []⟩, ⟨.r, 0, [], [], []⟩, ⟨.r, 0, [], [], []⟩, ⟨.n, 0, [], [], []⟩] 0 (by kernel_rfl) ?_
   simp only [hw,cX,M5,M6,tg,Int.natCast_nonneg,Int.toNat_natCast,go_sem,reduceIte,zA,zB,zC,zD,zE,zF,reduceCtorEq]
   refine aL (fun TR => ?_) (fun TR => ?_)
   ·have TQ : ft (a.part i) (b.part i) = 1 := by unfold ft; simp_all
    have aw : 1 = a.cmp b := by rw [dr.Bj aB aS (by rw [TQ]; decide), TQ]
    simp only [hw,cX,M5,M6,tg,Int.natCast_nonneg,Int.toNat_natCast,go_sem,reduceIte,zA,zB,zC,zD,zE,zF,reduceCtorEq]
    exact hK _ (congrArg num aw)
   ·simp only [hw,cX,M5,M6,tg,Int.natCast_nonneg,Int.toNat_natCast,go_sem,reduceIte,zA,zB,zC,zD,zE,zF,reduceCtorEq]
    refine bP _ (cA (by omega) (by simp only [hw,cX,M5,M6,tg,Int.natCast_nonneg,Int.toNat_natCast,go_sem,reduceIte,zA,zB,zC,zD,zE,zF,reduceCtorEq]) ?_ ?_) <;> simp only [fa,lk,reduceIte,zE]
    ·refine ⟨i + 1, rfl, aB, fun j hj => ?_⟩
     rcases Nat.lt_or_ge j i with h | h
     ·exact aS j h
     ·obtain rfl : j = i := by omega
      unfold ft
      have h1 := of_decide_eq_false zN; have h2 := of_decide_eq_false TR
      rw [if_neg h1, if_neg h2]
    ·simp only [Go.Eng.intOf,List.headD_cons]; omega
 ·have cB : i = 3 := by have := of_decide_eq_false iS; omega
  subst cB
  have aw : 0 = a.cmp b := (dr.cmp_eq aS).symm
  simp only [go_sem,reduceIte,zA,zB,zC,zD,zE,zF,reduceCtorEq]
  exact hK _ (congrArg num aw)
theorem l9 (a b : Rl) : ∃ r_, (fun w => w = num (a.cmp b)) r_ ∧ aP Tryz.prog 90 [ag a, ag b] r_ := by
 refine dI tt_ok [] 20 [.tmp 4] (fn := Tryz.f90) Tryz.func90 rfl Tryz.call90 ⟨rfl, rfl, by simp⟩ fun K hK => ?_
 simp only [ag,ab]
 simp only [qn,go_sem,reduceIte,zA,zB,zC,zD,zE,zF,reduceCtorEq]
 refine aL (fun gi => ?_) (fun gi => ?_)
 ·have aw : -1 = a.cmp b := (Rl.tP (DA (by unfold ke; simpa using gi)) (by decide)).symm
  simp only [qn,go_sem,reduceIte,zA,zB,zC,zD,zE,zF,reduceCtorEq]
  exact hK _ (congrArg num aw)
 ·simp only [qn,go_sem,reduceIte,zA,zB,zC,zD,zE,zF,reduceCtorEq]
  refine aL (fun cq => ?_) (fun cq => ?_)
  ·have aw : 1 = a.cmp b := (Rl.tP (LW (by unfold ke; simpa using gi) (by simp_all)) (by decide)).symm
   simp only [qn,go_sem,reduceIte,zA,zB,zC,zD,zE,zF,reduceCtorEq]
   exact hK _ (congrArg num aw)
  ·have aw : a.aC.cmp b.aC = a.cmp b := (Rl.LY (LX (by unfold ke; simpa using gi) (by simp_all))).symm
   simp only [qn,go_sem,reduceIte,zA,zB,zC,zD,zE,zF,reduceCtorEq]
   refine cF (by have h := IP a.aC b.aC; simp only [bh] at h; exact h) ?_
   rintro _ rfl
   simp only [qn,go_sem,reduceIte,zA,zB,zC,zD,zE,zF,reduceCtorEq]
   exact hK _ (congrArg num aw)
theorem DB (s : ByteArray) (hs : s.size ≤ 1048576) : ∃ r_, (fun w => w = num (if bE s = true then bQ s else -1)) r_ ∧ aP Tryz.prog 73 [str s] r_ := by
 refine dI tt_ok [] 15 [.tmp 2] (fn := Tryz.f73) Tryz.func73 rfl Tryz.call73 ⟨rfl, rfl, by simp⟩ fun K hK => ?_
 simp only [go_sem,reduceIte,zA,zB,zC,zD,zE,zF,reduceCtorEq]
 refine cF (IN s hs) ?_
 rintro _ ⟨nm, rfl⟩
 simp only [go_sem,reduceIte,zA,zB,zC,zD,zE,zF,reduceCtorEq]
 refine aL (fun lQ => ?_) (fun lQ => ?_)
 ·simp only [go_sem,reduceIte,zA,zB,zC,zD,zE,zF,reduceCtorEq]
  exact hK _ (congrArg num (by unfold bF at *; by_cases h : bE s = true <;> simp_all))
 ·simp only [go_sem,reduceIte,zA,zB,zC,zD,zE,zF,reduceCtorEq]
  exact hK _ (congrArg num (by unfold bF at *; by_cases h : bE s = true <;> simp_all))
theorem n4 (s : ByteArray) : ∃ r_, (fun w => w = bl (jB s)) r_ ∧ aP Tryz.prog 96 [str s] r_ := by
 refine dI tt_ok [] 11 [.tmp 2] (fn := Tryz.f96) Tryz.func96 rfl Tryz.call96 ⟨rfl, rfl, by simp⟩ fun K hK => ?_
 have fR : Tryz.prog.underlying 9 = some .string := by kernel_rfl
 have sl : ∀ (a : ByteArray) (ty : TypeId), cN Tryz.prog (Builtin.len_ #[9] ty) [.sc (.string a)] = some (num a.size) := fun a ty => cx (P := Tryz.prog) (tt := tt) (T := 9) a fR ty
 simp only [sl,go_sem,reduceIte,zA,zB,zC,zD,zE,zF,reduceCtorEq]
 refine aL (fun kZ => ?_) (fun kZ => ?_)
 ·simp only [sl,go_sem,reduceIte,zA,zB,zC,zD,zE,zF,reduceCtorEq]
  exact hK _ (congrArg bl (by unfold jB; simp_all <;> (intros; omega)))
 ·simp only [sl,go_sem,reduceIte,zA,zB,zC,zD,zE,zF,reduceCtorEq]
  exact hK _ (congrArg bl (by unfold jB; simp_all <;> (intros; omega)))
end Go.Proofs.YtnfeacnbgbggfaaGreatDoor
end

section
namespace Go.Proofs.YtnfeacnbgbggfaaGreatDoor
open Go.Eng
open Nat renaming reduceAdd → zA, reduceLT → zB, reduceLeDiff → zC, reduceMul → zD, reduceEqDiff → zE, reduceSub → zF
variable [aG]
set_option maxHeartbeats 4000000
set_option maxRecDepth 100000
theorem LZ {s : ByteArray} (h : bE s = true) : 0 ≤ bQ s := by
  unfold bQ; rw [if_pos h]
  unfold bE at h
  simp only [Bool.and_eq_true] at h
  exact xl h.1.1.1
theorem IQ {s : ByteArray} (h : (if bE s = true then bQ s else -1) < 0) : bF s = 4 := by
  unfold bF
  by_cases hm : bE s = true
  · rw [if_pos hm] at h; have := LZ hm; omega
  · rw [if_neg hm]
theorem IS {s : ByteArray} (h : ¬ (if bE s = true then bQ s else -1) < 0) : bF s = 0 ∧ (if bE s = true then bQ s else -1) = bQ s := by
  unfold bF
  by_cases hm : bE s = true
  · rw [if_pos hm, if_pos hm]; exact ⟨rfl, rfl⟩
  · rw [if_neg hm] at h; exact absurd (by decide) h
theorem TS {q : Rq} {b : Option Rq} (h : bF q.path = 4) : mA q b = 4 := by unfold mA; rw [if_pos (by rw [h]; decide)]
theorem M7 {q : Rq} {b : Option Rq} (h : bF q.path = 0) (h2 : (decide (q.set.length = 0) || !decide (q.set = canon q.set)) = true) : mA q b = 1 := by
  unfold mA
  rw [if_neg (by rw [h]; simp), h2]; simp
theorem IT {q p : Rq} (h : bF q.path = 0) (h2 : (decide (q.set.length = 0) || !decide (q.set = canon q.set)) = false) : mA q (some p) = if Jl q.path p.path = true then 1 else 0 := by
  unfold mA
  rw [if_neg (by rw [h]; simp), h2]; simp
theorem M8 {q : Rq} (h : bF q.path = 0) (h2 : (decide (q.set.length = 0) || !decide (q.set = canon q.set)) = false) : mA q none = 0 := by
  unfold mA
  rw [if_neg (by rw [h]; simp), h2]; simp
theorem DC (a : ByteArray) : ke a a = false := by rw [nH]; exact decide_eq_false (List.lt_irrefl _)
theorem vz {a b : ByteArray} : kG a b = 0 ↔ a = b := by
  unfold kG
  refine ⟨fun h => ?_, fun h => by rw [h, DC]; simp⟩
  by_cases h1 : ke a b = true
  · rw [if_pos h1] at h; cases h
  · rw [if_neg h1] at h
    by_cases h2 : a = b
    · exact h2
    · rw [if_neg h2] at h; cases h
theorem mH {a b : Int} : ft a b = 0 ↔ a = b := by unfold ft; split <;> (try split) <;> omega
theorem dr.pf {a b : dr} : a.cmp b = 0 ↔ a = b := by
  constructor
  · intro h
    unfold dr.cmp at h
    by_cases h1 : ft a.mj b.mj = 0
    · rw [if_neg (by simpa using h1)] at h
      by_cases h2 : ft a.mn b.mn = 0
      · rw [if_neg (by simpa using h2)] at h
        exact dr.ext' (mH.1 h1) (mH.1 h2) (mH.1 h)
      · rw [if_pos h2] at h; exact absurd h h2
    · rw [if_pos h1] at h; exact absurd h h1
  · rintro rfl
    have e : ∀ x, ft x x = 0 := fun x => mH.2 rfl
    unfold dr.cmp
    rw [e, e, e]; rfl
theorem Rl.pf {a b : Rl} : a.cmp b = 0 ↔ a.key = b.key := by
  have hk : a.key = b.key ↔ a.path = b.path ∧ a.aC = b.aC := by simp [Rl.key]
  rw [hk]
  unfold Rl.cmp
  by_cases h1 : kG a.path b.path = 0
  · rw [if_neg (by simpa using h1), dr.pf]
    exact ⟨fun h => ⟨vz.1 h1, h⟩, fun h => h.2⟩
  · rw [if_pos h1]
    exact ⟨fun h => absurd h h1, fun h => absurd (vz.2 h.1) h1⟩
theorem TU {r : Rl} (h : bF r.path = 4) : gr r = 4 := by unfold gr; rw [if_pos (by rw [h]; decide)]
theorem M9 {r : Rl} (h : bF r.path = 0) (h2 : (!r.aC.ok || !decide (r.aC.mj = bQ r.path)) = true) : gr r = 2 := by unfold gr; rw [if_neg (by rw [h]; simp), if_pos h2]
theorem TV {r : Rl} (h : bF r.path = 0) (h2 : (!r.aC.ok || !decide (r.aC.mj = bQ r.path)) = false) (h3 : fw r.reqs ≠ 0) : gr r = fw r.reqs := by unfold gr; rw [if_neg (by rw [h]; simp), if_neg (by rw [h2]; simp), if_pos h3]
theorem DD {r : Rl} (h : bF r.path = 0) (h2 : (!r.aC.ok || !decide (r.aC.mj = bQ r.path)) = false) (h3 : fw r.reqs = 0) : gr r = if (jB r.ar && (jB r.gg && jB r.ce)) = true then 0 else 1 := by unfold gr; rw [if_neg (by rw [h]; simp), if_neg (by rw [h2]; simp), if_neg (by rw [h3]; simp)]
theorem L0 (l : List Rq) (hl : l.length ≤ 1048576) (hb : ∀ q ∈ l, qS q) : ∃ r_, (fun w => w = num (fw l)) r_ ∧ aP Tryz.prog 95 [ah l] r_ := by
  refine dI tt_ok [] 58 [.tmp 2] (fn := Tryz.f95) Tryz.func95 rfl Tryz.call95 ⟨rfl, rfl, by simp⟩ fun K hK => ?_
  simp only [ah]
  simp only [List.length_map,aR,go_sem,reduceIte,zA,zB,zC,zD,zE,zF,reduceCtorEq]
  refine aL (fun Hm => ?_) (fun Hm => ?_)
  · skip
    have aw : 7 = fw l := by unfold fw; rw [if_pos (by have := of_decide_eq_true Hm; omega)]
    simp only [List.length_map,aR,go_sem,reduceIte,zA,zB,zC,zD,zE,zF,reduceCtorEq]
    exact hK _ (congrArg num aw)
  · skip
    simp only [List.length_map,aR,go_sem,reduceIte,zA,zB,zC,zD,zE,zF,reduceCtorEq]
    refine bA tt_ok [] [3] 0 [0,6] (fun vs => ((l.length : Int) - Go.Eng.intOf (vs.headD .undef)).toNat) (fun vs => ∃ i : Nat, vs = [num i] ∧ i ≤ l.length ∧ eO none l = eO (bU l i) (l.drop i)) (by omega) (by simp only [List.length_map,aR,go_sem,reduceIte,zA,zB,zC,zD,zE,zF,reduceCtorEq]) (⟨0, rfl, Nat.zero_le _, rfl⟩) fun vs hI Z1 bP => ?_
    obtain ⟨i, rfl, hi, gG⟩ := hI
    simp only [List.length_map,aR,go_sem,reduceIte,zA,zB,zC,zD,zE,zF,reduceCtorEq]
    refine aL (fun cE => ?_) (fun cE => ?_)
    · skip
      have aB : i < l.length := by simpa using cE
      have hw := ax i (by omega)
      obtain ⟨x, hx⟩ : ∃ x, l[i]? = some x := ⟨_, List.getElem?_eq_getElem aB⟩
      have Pz := hb x (List.mem_of_getElem? hx)
      simp only [hw,List.getElem?_map,hx,al,ak,List.length_map,aR,go_sem,reduceIte,zA,zB,zC,zD,zE,zF,reduceCtorEq]
      refine cF (DB x.path Pz.1) ?_
      rintro _ rfl
      simp only [hw,List.getElem?_map,hx,al,ak,List.length_map,aR,go_sem,reduceIte,zA,zB,zC,zD,zE,zF,reduceCtorEq]
      refine aL (fun nI => ?_) (fun nI => ?_)
      · skip
        have hE : mA x (bU l i) = 4 := TS (IQ (of_decide_eq_true nI))
        have aw : 4 = fw l := by unfold fw; rw [if_neg (by have := of_decide_eq_false Hm; omega), gG, lP hx (by rw [hE]; decide), hE]
        simp only [hw,List.getElem?_map,hx,al,ak,List.length_map,aR,go_sem,reduceIte,zA,zB,zC,zD,zE,zF,reduceCtorEq]
        exact hK _ (congrArg num aw)
      · skip
        have Cb := (IS (of_decide_eq_false nI)).1
        simp only [hw,List.getElem?_map,hx,al,ak,List.length_map,aR,go_sem,reduceIte,zA,zB,zC,zD,zE,zF,reduceCtorEq]
        refine bu tt_ok aD [⟨.n, 0, [], [], []⟩, ⟨.n, 0, [], [], []⟩, ⟨.r, 0, [], [], []⟩, ⟨.n, 0, [], [], []⟩, ⟨.r, 0, [], [], []⟩, ⟨.n, 0, [], [], []⟩, ⟨.n, 0, [], [], []⟩, ⟨.n, 0, [], [], []⟩, ⟨.n, 0, [], [], []⟩, ⟨.n, 0, [], [], []⟩, ⟨.r, 0, [], [], []⟩, ⟨.n, 0, [], [], []⟩, ⟨.r, 0, [], [], []⟩, ⟨.n, 0, [], [], []⟩, ⟨.n, 0, [], [], []⟩, ⟨.r, 0, [], [], []⟩, ⟨.n, 0, [], [], []⟩, ⟨.r, 0, [], [], []⟩, ⟨.n, 0, [], [], []⟩, ⟨.n, 0, [], [], []⟩, ⟨.n, 0, [], [], []⟩, ⟨.n, 0, [], [], []⟩] 0 (by kernel_rfl) ?_
        simp only [hw,List.getElem?_map,hx,al,ak,List.length_map,aR,go_sem,reduceIte,zA,zB,zC,zD,zE,zF,reduceCtorEq]
        refine aL (fun IU => ?_) (fun IU => ?_)
        · skip
          have hz : x.set.length = 0 := by have := of_decide_eq_true IU; omega
          have L1 : (decide (x.set.length = 0) || !decide (x.set = canon x.set)) = true := by
            first
              | (rw [hz]; rfl)
              | (rw [show decide (x.set = canon x.set) = false by simpa using mO]; simp)
          have hE : mA x (bU l i) = 1 := M7 Cb L1
          have aw : 1 = fw l := by unfold fw; rw [if_neg (by have := of_decide_eq_false Hm; omega), gG, lP hx (by rw [hE]; decide), hE]
          simp only [hw,List.getElem?_map,hx,al,ak,List.length_map,aR,go_sem,reduceIte,zA,zB,zC,zD,zE,zF,reduceCtorEq]
          exact hK _ (congrArg num aw)
        · skip
          simp only [hw,List.getElem?_map,hx,al,ak,List.length_map,aR,go_sem,reduceIte,zA,zB,zC,zD,zE,zF,reduceCtorEq]
          refine cG (by have h := qk x.set Pz.2; simp only [ak] at h; exact h) ?_
          rintro _ rfl
          simp only [hw,List.getElem?_map,hx,al,ak,List.length_map,aR,go_sem,reduceIte,zA,zB,zC,zD,zE,zF,reduceCtorEq]
          refine cG (by have h := wO x.set (canon x.set) Pz.2; simp only [ak] at h; exact h) ?_
          rintro _ rfl
          simp only [hw,List.getElem?_map,hx,al,ak,List.length_map,aR,go_sem,reduceIte,zA,zB,zC,zD,zE,zF,reduceCtorEq]
          refine aL (fun mO => ?_) (fun mO => ?_)
          · skip
            have L1 : (decide (x.set.length = 0) || !decide (x.set = canon x.set)) = true := by
              first
                | (rw [hz]; rfl)
                | (rw [show decide (x.set = canon x.set) = false by simpa using mO]; simp)
            have hE : mA x (bU l i) = 1 := M7 Cb L1
            have aw : 1 = fw l := by unfold fw; rw [if_neg (by have := of_decide_eq_false Hm; omega), gG, lP hx (by rw [hE]; decide), hE]
            simp only [hw,List.getElem?_map,hx,al,ak,List.length_map,aR,go_sem,reduceIte,zA,zB,zC,zD,zE,zF,reduceCtorEq]
            exact hK _ (congrArg num aw)
          · skip
            have hz : x.set.length ≠ 0 := by have := of_decide_eq_false IU; omega
            have L1 : (decide (x.set.length = 0) || !decide (x.set = canon x.set)) = false := by rw [decide_eq_false hz, show decide (x.set = canon x.set) = true by simpa using mO]; rfl
            simp only [hw,List.getElem?_map,hx,al,ak,List.length_map,aR,go_sem,reduceIte,zA,zB,zC,zD,zE,zF,reduceCtorEq]
            refine bu tt_ok aD [⟨.n, 0, [], [], []⟩, ⟨.n, 0, [], [], []⟩, ⟨.n, 0, [], [], []⟩, ⟨.n, 0, [], [], []⟩, ⟨.n, 0, [], [], []⟩, ⟨.r, 0, [], [], []⟩, ⟨.n, 0, [], [], []⟩, ⟨.r, 0, [], [], []⟩, ⟨.n, 0, [], [], []⟩, ⟨.n, 0, [], [], []⟩, ⟨.n, 0, [], [], []⟩, ⟨.r, 0, [], [], []⟩, ⟨.n, 0, [], [], []⟩, ⟨.r, 0, [], [], []⟩, ⟨.n, 0, [], [], []⟩, ⟨.n, 0, [], [], []⟩] 0 (by kernel_rfl) ?_
            simp only [hw,List.getElem?_map,hx,al,ak,List.length_map,aR,go_sem,reduceIte,zA,zB,zC,zD,zE,zF,reduceCtorEq]
            refine aL (fun gw => ?_) (fun gw => ?_)
            · skip
              have vY : i ≠ 0 := by have := of_decide_eq_true gw; omega
              obtain ⟨p, hp⟩ : ∃ p, l[i - 1]? = some p := ⟨_, List.getElem?_eq_getElem (by omega)⟩
              have EI : bU l i = some p := by rw [pW vY, hp]
              have dT : IntKind.i64.wrap ((i : Int) - 1) = ((i - 1 : Nat) : Int) := jf _ _ (by omega) (by omega)
              simp only [hw,List.getElem?_map,hx,al,ak,dT,hp,List.length_map,aR,go_sem,reduceIte,zA,zB,zC,zD,zE,zF,reduceCtorEq]
              refine aL (fun rq => ?_) (fun rq => ?_)
              · skip
                have hE : mA x (bU l i) = 1 := by rw [EI, IT Cb L1, if_pos (by unfold Jl ke; rw [← ao]; exact rq)]
                have aw : 1 = fw l := by unfold fw; rw [if_neg (by have := of_decide_eq_false Hm; omega), gG, lP hx (by rw [hE]; decide), hE]
                simp only [hw,List.getElem?_map,hx,al,ak,dT,hp,List.length_map,aR,go_sem,reduceIte,zA,zB,zC,zD,zE,zF,reduceCtorEq]
                exact hK _ (congrArg num aw)
              · skip
                have Jk : mA x (bU l i) = 0 := by
                  first
                    | (rw [EI, IT Cb L1, if_neg (by unfold Jl ke; rw [← ao]; rw [rq]; simp)]; done)
                    | (have h0 : i = 0 := by have := of_decide_eq_false gw; omega
                       rw [h0]; exact M8 Cb L1)
                simp only [hw,List.getElem?_map,hx,al,ak,dT,hp,List.length_map,aR,go_sem,reduceIte,zA,zB,zC,zD,zE,zF,reduceCtorEq]
                refine bP _ (cA (by omega) (by simp only [hw,List.getElem?_map,hx,al,ak,dT,hp,List.length_map,aR,go_sem,reduceIte,zA,zB,zC,zD,zE,zF,reduceCtorEq]) ?_ ?_) <;> simp only [fa,lk,reduceIte,zE]
                · exact ⟨i + 1, rfl, aB, by rw [gG]; exact te hx Jk⟩
                · simp only [Go.Eng.intOf,List.headD_cons]; omega
            · skip
              have Jk : mA x (bU l i) = 0 := by
                first
                  | (rw [EI, IT Cb L1, if_neg (by unfold Jl ke; rw [← ao]; rw [rq]; simp)]; done)
                  | (have h0 : i = 0 := by have := of_decide_eq_false gw; omega
                     rw [h0]; exact M8 Cb L1)
              simp only [hw,List.getElem?_map,hx,al,ak,List.length_map,aR,go_sem,reduceIte,zA,zB,zC,zD,zE,zF,reduceCtorEq]
              refine bP _ (cA (by omega) (by simp only [hw,List.getElem?_map,hx,al,ak,List.length_map,aR,go_sem,reduceIte,zA,zB,zC,zD,zE,zF,reduceCtorEq]) ?_ ?_) <;> simp only [fa,lk,reduceIte,zE]
              · exact ⟨i + 1, rfl, aB, by rw [gG]; exact te hx Jk⟩
              · simp only [Go.Eng.intOf,List.headD_cons]; omega
    · skip
      have cB : ¬ i < l.length := by simpa using cE
      have aw : 0 = fw l := by unfold fw; rw [if_neg (by have := of_decide_eq_false Hm; omega), gG, List.drop_eq_nil_of_le (by omega)]; rfl
      simp only [List.length_map,aR,go_sem,reduceIte,zA,zB,zC,zD,zE,zF,reduceCtorEq]
      exact hK _ (congrArg num aw)
theorem zS (r : Rl) (hb : Jm r) : ∃ r_, (fun w => w = num (gr r)) r_ ∧ aP Tryz.prog 59 [ag r] r_ := by
  refine dI tt_ok [] 43 [.tmp 2] (fn := Tryz.f59) Tryz.func59 rfl Tryz.call59 ⟨rfl, rfl, by simp⟩ fun K hK => ?_
  simp only [ag,ab,ah]
  obtain ⟨rB, si, QG⟩ := hb
  simp only [go_sem,reduceIte,zA,zB,zC,zD,zE,zF,reduceCtorEq]
  refine cF (DB r.path rB) ?_
  rintro _ rfl
  obtain ⟨M, hM⟩ : ∃ M, M = (if bE r.path = true then bQ r.path else -1) := ⟨_, rfl⟩
  rw [← hM]
  simp only [go_sem,reduceIte,zA,zB,zC,zD,zE,zF,reduceCtorEq]
  refine aL (fun gi => ?_) (fun gi => ?_)
  · skip
    have aw : 4 = gr r := (TU (IQ (by rw [← hM]; exact of_decide_eq_true gi))).symm
    simp only [go_sem,reduceIte,zA,zB,zC,zD,zE,zF,reduceCtorEq]
    exact hK _ (congrArg num aw)
  · skip
    obtain ⟨Cb, UO⟩ := IS (s := r.path) (by rw [← hM]; exact of_decide_eq_false gi)
    rw [← hM] at UO
    simp only [go_sem,reduceIte,zA,zB,zC,zD,zE,zF,reduceCtorEq]
    refine cF (by have h := EB r.aC; simp only [bh] at h; exact h) ?_
    rintro _ rfl
    simp only [go_sem,reduceIte,zA,zB,zC,zD,zE,zF,reduceCtorEq]
    refine aL (fun th => ?_) (fun th => ?_)
    · skip
      have hv : (!r.aC.ok || !decide (r.aC.mj = bQ r.path)) = true := by rw [← UO]; simp_all
      have aw : 2 = gr r := (M9 Cb hv).symm
      simp only [go_sem,reduceIte,zA,zB,zC,zD,zE,zF,reduceCtorEq]
      exact hK _ (congrArg num aw)
    · skip
      simp only [go_sem,reduceIte,zA,zB,zC,zD,zE,zF,reduceCtorEq]
      refine aL (fun HL => ?_) (fun HL => ?_)
      · skip
        have hv : (!r.aC.ok || !decide (r.aC.mj = bQ r.path)) = true := by rw [← UO]; simp_all
        have aw : 2 = gr r := (M9 Cb hv).symm
        simp only [go_sem,reduceIte,zA,zB,zC,zD,zE,zF,reduceCtorEq]
        exact hK _ (congrArg num aw)
      · skip
        have hv : (!r.aC.ok || !decide (r.aC.mj = bQ r.path)) = false := by rw [← UO]; simp_all
        simp only [go_sem,reduceIte,zA,zB,zC,zD,zE,zF,reduceCtorEq]
        refine cF (by have h := L0 r.reqs si QG; simp only [ah] at h; exact h) ?_
        rintro _ rfl
        simp only [go_sem,reduceIte,zA,zB,zC,zD,zE,zF,reduceCtorEq]
        refine aL (fun fu => ?_) (fun fu => ?_)
        · skip
          have aw : fw r.reqs = gr r := (TV Cb hv (by simpa using fu)).symm
          simp only [go_sem,reduceIte,zA,zB,zC,zD,zE,zF,reduceCtorEq]
          exact hK _ (congrArg num aw)
        · skip
          simp only [go_sem,reduceIte,zA,zB,zC,zD,zE,zF,reduceCtorEq]
          refine cF (n4 _) ?_
          rintro _ rfl
          simp only [go_sem,reduceIte,zA,zB,zC,zD,zE,zF,reduceCtorEq]
          refine aL (fun TW => ?_) (fun TW => ?_)
          · skip
            have hd : (jB r.ar && (jB r.gg && jB r.ce)) = false := by simp_all
            have aw : 1 = gr r := by rw [DD Cb hv (by simpa using fu), hd]; rfl
            simp only [go_sem,reduceIte,zA,zB,zC,zD,zE,zF,reduceCtorEq]
            exact hK _ (congrArg num aw)
          · skip
            simp only [go_sem,reduceIte,zA,zB,zC,zD,zE,zF,reduceCtorEq]
            refine cF (n4 _) ?_
            rintro _ rfl
            simp only [go_sem,reduceIte,zA,zB,zC,zD,zE,zF,reduceCtorEq]
            refine aL (fun Qh => ?_) (fun Qh => ?_)
            · skip
              have hd : (jB r.ar && (jB r.gg && jB r.ce)) = false := by simp_all
              have aw : 1 = gr r := by rw [DD Cb hv (by simpa using fu), hd]; rfl
              simp only [go_sem,reduceIte,zA,zB,zC,zD,zE,zF,reduceCtorEq]
              exact hK _ (congrArg num aw)
            · skip
              simp only [go_sem,reduceIte,zA,zB,zC,zD,zE,zF,reduceCtorEq]
              refine cF (n4 _) ?_
              rintro _ rfl
              simp only [go_sem,reduceIte,zA,zB,zC,zD,zE,zF,reduceCtorEq]
              refine aL (fun Pd => ?_) (fun Pd => ?_)
              · skip
                have hd : (jB r.ar && (jB r.gg && jB r.ce)) = false := by simp_all
                have aw : 1 = gr r := by rw [DD Cb hv (by simpa using fu), hd]; rfl
                simp only [go_sem,reduceIte,zA,zB,zC,zD,zE,zF,reduceCtorEq]
                exact hK _ (congrArg num aw)
              · skip
                have hd : (jB r.ar && (jB r.gg && jB r.ce)) = true := by simp_all
                have aw : 0 = gr r := by rw [DD Cb hv (by simpa using fu), hd]; rfl
                simp only [go_sem,reduceIte,zA,zB,zC,zD,zE,zF,reduceCtorEq]
                exact hK _ (congrArg num aw)
theorem im (l : List Rl) (I : List V) (hb : tY l) : ∃ r_, (fun w => w = num (dK l)) r_ ∧ aP Tryz.prog 49 [bm l I] r_ := by
  refine dI tt_ok [] 55 [.tmp 2] (fn := Tryz.f49) Tryz.func49 rfl Tryz.call49 ⟨rfl, rfl, by simp⟩ fun K hK => ?_
  simp only [bm,aY]
  obtain ⟨hl, hb⟩ := hb
  simp only [List.length_map,go_sem,reduceIte,zA,zB,zC,zD,zE,zF,reduceCtorEq]
  refine aL (fun cE => ?_) (fun cE => ?_)
  · skip
    have aw : 7 = dK l := by unfold dK; rw [if_pos (by have := of_decide_eq_true cE; omega)]
    simp only [List.length_map,go_sem,reduceIte,zA,zB,zC,zD,zE,zF,reduceCtorEq]
    exact hK _ (congrArg num aw)
  · skip
    simp only [List.length_map,go_sem,reduceIte,zA,zB,zC,zD,zE,zF,reduceCtorEq]
    refine bA tt_ok [] [4] 1 [3,10] (fun vs => ((l.length : Int) - Go.Eng.intOf (vs.headD .undef)).toNat) (fun vs => ∃ i : Nat, vs = [num i] ∧ i ≤ l.length ∧ c8 none l = c8 (bU l i) (l.drop i)) (by omega) (by simp only [List.length_map,go_sem,reduceIte,zA,zB,zC,zD,zE,zF,reduceCtorEq]) (⟨0, rfl, Nat.zero_le _, rfl⟩) fun vs hI Z1 bP => ?_
    obtain ⟨i, rfl, hi, gG⟩ := hI
    simp only [List.length_map,go_sem,reduceIte,zA,zB,zC,zD,zE,zF,reduceCtorEq]
    refine aL (fun cq => ?_) (fun cq => ?_)
    · skip
      have aB : i < l.length := by simpa using cq
      have hw := ax i (by omega)
      obtain ⟨x, hx⟩ : ∃ x, l[i]? = some x := ⟨_, List.getElem?_eq_getElem aB⟩
      simp only [hw,List.getElem?_map,hx,ag,ab,ah,List.length_map,go_sem,reduceIte,zA,zB,zC,zD,zE,zF,reduceCtorEq]
      refine cF (by have h := zS x (hb x (List.mem_of_getElem? hx)); simp only [ag,ab,ah] at h; exact h) ?_
      rintro _ rfl
      simp only [hw,List.getElem?_map,hx,ag,ab,ah,List.length_map,go_sem,reduceIte,zA,zB,zC,zD,zE,zF,reduceCtorEq]
      refine aL (fun iS => ?_) (fun iS => ?_)
      · skip
        have aw : gr x = dK l := by unfold dK; rw [if_neg (by have := of_decide_eq_false cE; omega), gG, C6 hx (by simpa using iS)]
        simp only [hw,List.getElem?_map,hx,ag,ab,ah,List.length_map,go_sem,reduceIte,zA,zB,zC,zD,zE,zF,reduceCtorEq]
        exact hK _ (congrArg num aw)
      · skip
        obtain ⟨p, Xi⟩ : ∃ p, i ≠ 0 → l[i - 1]? = some p ∧ bU l i = some p := by
          obtain ⟨p, hp⟩ : ∃ p, l[i - 1]? = some p := ⟨_, List.getElem?_eq_getElem (by omega)⟩
          exact ⟨p, fun h => ⟨hp, by rw [pW h, hp]⟩⟩
        simp only [hw,List.getElem?_map,hx,ag,ab,ah,List.length_map,go_sem,reduceIte,zA,zB,zC,zD,zE,zF,reduceCtorEq]
        refine bu tt_ok aD [⟨.n, 0, [], [], []⟩, ⟨.n, 0, [], [], []⟩, ⟨.n, 0, [], [], []⟩, ⟨.n, 0, [], [], []⟩, ⟨.n, 0, [], [], []⟩, ⟨.n, 0, [], [], []⟩, ⟨.r, 0, [], [], []⟩, ⟨.r, 0, [], [], []⟩, ⟨.n, 0, [], [], []⟩, ⟨.n, 0, [], [], []⟩, ⟨.r, 0, [], [], []⟩, ⟨.r, 0, [], [], []⟩, ⟨.n, 0, [], [], []⟩, ⟨.n, 0, [], [], []⟩, ⟨.n, 0, [], [], []⟩] 0 (by kernel_rfl) ?_
        simp only [hw,List.getElem?_map,hx,ag,ab,ah,List.length_map,go_sem,reduceIte,zA,zB,zC,zD,zE,zF,reduceCtorEq]
        refine aL (fun gw => ?_) (fun gw => ?_)
        · skip
          have vY : i ≠ 0 := by have := of_decide_eq_true gw; omega
          obtain ⟨hp, EI⟩ := Xi vY
          have dT : IntKind.i64.wrap ((i : Int) - 1) = ((i - 1 : Nat) : Int) := jf _ _ (by omega) (by omega)
          simp only [hw,List.getElem?_map,hx,ag,ab,ah,dT,hp,List.length_map,go_sem,reduceIte,zA,zB,zC,zD,zE,zF,reduceCtorEq]
          refine cG (by have h := l9 p x; simp only [ag,ab,ah] at h; exact h) ?_
          rintro _ rfl
          simp only [hw,List.getElem?_map,hx,ag,ab,ah,dT,hp,List.length_map,go_sem,reduceIte,zA,zB,zC,zD,zE,zF,reduceCtorEq]
          refine aL (fun BQ => ?_) (fun BQ => ?_)
          · skip
            have aw : 5 = dK l := by unfold dK; rw [if_neg (by have := of_decide_eq_false cE; omega), gG, tf hx (by simpa using iS) EI, if_pos (Rl.pf.1 (by simpa using BQ))]
            simp only [hw,List.getElem?_map,hx,ag,ab,ah,dT,hp,List.length_map,go_sem,reduceIte,zA,zB,zC,zD,zE,zF,reduceCtorEq]
            exact hK _ (congrArg num aw)
          · skip
            have eR : p.key ≠ x.key := fun e => by have := of_decide_eq_false BQ; exact this (Rl.pf.2 e)
            simp only [hw,List.getElem?_map,hx,ag,ab,ah,dT,hp,List.length_map,go_sem,reduceIte,zA,zB,zC,zD,zE,zF,reduceCtorEq]
            refine bu tt_ok aD [⟨.n, 0, [], [], []⟩, ⟨.n, 0, [], [], []⟩, ⟨.n, 0, [], [], []⟩, ⟨.n, 0, [], [], []⟩, ⟨.n, 0, [], [], []⟩, ⟨.n, 0, [], [], []⟩, ⟨.r, 0, [], [], []⟩, ⟨.r, 0, [], [], []⟩, ⟨.n, 0, [], [], []⟩, ⟨.n, 0, [], [], []⟩, ⟨.r, 0, [], [], []⟩, ⟨.r, 0, [], [], []⟩, ⟨.n, 0, [], [], []⟩, ⟨.n, 0, [], [], []⟩, ⟨.n, 0, [], [], []⟩] 0 (by kernel_rfl) ?_
            simp only [hw,List.getElem?_map,hx,ag,ab,ah,dT,hp,List.length_map,go_sem,reduceIte,zA,zB,zC,zD,zE,zF,reduceCtorEq]
            refine aL (fun gx => ?_) (fun gx => ?_)
            · skip
              have oa : i ≠ 0 := by have := of_decide_eq_true gx; omega
              obtain ⟨jr, Qi⟩ := Xi oa
              have tQ : IntKind.i64.wrap ((i : Int) - 1) = ((i - 1 : Nat) : Int) := jf _ _ (by omega) (by omega)
              simp only [hw,List.getElem?_map,hx,ag,ab,ah,dT,hp,tQ,jr,List.length_map,go_sem,reduceIte,zA,zB,zC,zD,zE,zF,reduceCtorEq]
              refine cG (by have h := l9 p x; simp only [ag,ab,ah] at h; exact h) ?_
              rintro _ rfl
              simp only [hw,List.getElem?_map,hx,ag,ab,ah,dT,hp,tQ,jr,List.length_map,go_sem,reduceIte,zA,zB,zC,zD,zE,zF,reduceCtorEq]
              refine aL (fun pX => ?_) (fun pX => ?_)
              · skip
                have Qj : p.key ≠ x.key := by first | exact eR | (exfalso; rw [gw] at gx; cases gx)
                have aw : 1 = dK l := by unfold dK; rw [if_neg (by have := of_decide_eq_false cE; omega), gG, tf hx (by simpa using iS) Qi, if_neg Qj, if_pos (of_decide_eq_true pX)]
                simp only [hw,List.getElem?_map,hx,ag,ab,ah,dT,hp,tQ,jr,List.length_map,go_sem,reduceIte,zA,zB,zC,zD,zE,zF,reduceCtorEq]
                exact hK _ (congrArg num aw)
              · skip
                have yF : ∀ p, bU l i = some p → p.key ≠ x.key ∧ ¬ 0 < p.cmp x := by
                  intro q hq
                  first
                    | (have h1 := of_decide_eq_false pX; rw [EI] at hq; cases hq; exact ⟨eR, h1⟩)
                    | (have h1 := of_decide_eq_false gw; have h0 : i = 0 := (by omega); rw [h0] at hq; cases hq)
                    | (have h1 := of_decide_eq_false gx; exfalso; omega)
                simp only [hw,List.getElem?_map,hx,ag,ab,ah,dT,hp,tQ,jr,List.length_map,go_sem,reduceIte,zA,zB,zC,zD,zE,zF,reduceCtorEq]
                refine bP _ (cA (by omega) (by simp only [hw,List.getElem?_map,hx,ag,ab,ah,dT,hp,tQ,jr,List.length_map,go_sem,reduceIte,zA,zB,zC,zD,zE,zF,reduceCtorEq]) ?_ ?_) <;> simp only [fa,lk,reduceIte,zE]
                · exact ⟨i + 1, rfl, aB, by rw [gG]; exact mB hx (by simpa using iS) yF⟩
                · simp only [Go.Eng.intOf,List.headD_cons]; omega
            · skip
              have yF : ∀ p, bU l i = some p → p.key ≠ x.key ∧ ¬ 0 < p.cmp x := by
                intro q hq
                first
                  | (have h1 := of_decide_eq_false pX; rw [EI] at hq; cases hq; exact ⟨eR, h1⟩)
                  | (have h1 := of_decide_eq_false gw; have h0 : i = 0 := (by omega); rw [h0] at hq; cases hq)
                  | (have h1 := of_decide_eq_false gx; exfalso; omega)
              simp only [hw,List.getElem?_map,hx,ag,ab,ah,dT,hp,List.length_map,go_sem,reduceIte,zA,zB,zC,zD,zE,zF,reduceCtorEq]
              refine bP _ (cA (by omega) (by simp only [hw,List.getElem?_map,hx,ag,ab,ah,dT,hp,List.length_map,go_sem,reduceIte,zA,zB,zC,zD,zE,zF,reduceCtorEq]) ?_ ?_) <;> simp only [fa,lk,reduceIte,zE]
              · exact ⟨i + 1, rfl, aB, by rw [gG]; exact mB hx (by simpa using iS) yF⟩
              · simp only [Go.Eng.intOf,List.headD_cons]; omega
        · skip
          simp only [hw,List.getElem?_map,hx,ag,ab,ah,List.length_map,go_sem,reduceIte,zA,zB,zC,zD,zE,zF,reduceCtorEq]
          refine bu tt_ok aD [⟨.n, 0, [], [], []⟩, ⟨.n, 0, [], [], []⟩, ⟨.n, 0, [], [], []⟩, ⟨.n, 0, [], [], []⟩, ⟨.n, 0, [], [], []⟩, ⟨.n, 0, [], [], []⟩, ⟨.r, 0, [], [], []⟩, ⟨.r, 0, [], [], []⟩, ⟨.n, 0, [], [], []⟩, ⟨.n, 0, [], [], []⟩, ⟨.r, 0, [], [], []⟩, ⟨.r, 0, [], [], []⟩, ⟨.n, 0, [], [], []⟩, ⟨.n, 0, [], [], []⟩, ⟨.n, 0, [], [], []⟩] 0 (by kernel_rfl) ?_
          simp only [hw,List.getElem?_map,hx,ag,ab,ah,List.length_map,go_sem,reduceIte,zA,zB,zC,zD,zE,zF,reduceCtorEq]
          refine aL (fun gx => ?_) (fun gx => ?_)
          · skip
            have oa : i ≠ 0 := by have := of_decide_eq_true gx; omega
            obtain ⟨jr, Qi⟩ := Xi oa
            have tQ : IntKind.i64.wrap ((i : Int) - 1) = ((i - 1 : Nat) : Int) := jf _ _ (by omega) (by omega)
            simp only [hw,List.getElem?_map,hx,ag,ab,ah,tQ,jr,List.length_map,go_sem,reduceIte,zA,zB,zC,zD,zE,zF,reduceCtorEq]
            refine cG (by have h := l9 p x; simp only [ag,ab,ah] at h; exact h) ?_
            rintro _ rfl
            simp only [hw,List.getElem?_map,hx,ag,ab,ah,tQ,jr,List.length_map,go_sem,reduceIte,zA,zB,zC,zD,zE,zF,reduceCtorEq]
            refine aL (fun pX => ?_) (fun pX => ?_)
            · skip
              have Qj : p.key ≠ x.key := by first | exact eR | (exfalso; rw [gw] at gx; cases gx)
              have aw : 1 = dK l := by unfold dK; rw [if_neg (by have := of_decide_eq_false cE; omega), gG, tf hx (by simpa using iS) Qi, if_neg Qj, if_pos (of_decide_eq_true pX)]
              simp only [hw,List.getElem?_map,hx,ag,ab,ah,tQ,jr,List.length_map,go_sem,reduceIte,zA,zB,zC,zD,zE,zF,reduceCtorEq]
              exact hK _ (congrArg num aw)
            · skip
              have yF : ∀ p, bU l i = some p → p.key ≠ x.key ∧ ¬ 0 < p.cmp x := by
                intro q hq
                first
                  | (have h1 := of_decide_eq_false pX; rw [EI] at hq; cases hq; exact ⟨eR, h1⟩)
                  | (have h1 := of_decide_eq_false gw; have h0 : i = 0 := (by omega); rw [h0] at hq; cases hq)
                  | (have h1 := of_decide_eq_false gx; exfalso; omega)
              simp only [hw,List.getElem?_map,hx,ag,ab,ah,tQ,jr,List.length_map,go_sem,reduceIte,zA,zB,zC,zD,zE,zF,reduceCtorEq]
              refine bP _ (cA (by omega) (by simp only [hw,List.getElem?_map,hx,ag,ab,ah,tQ,jr,List.length_map,go_sem,reduceIte,zA,zB,zC,zD,zE,zF,reduceCtorEq]) ?_ ?_) <;> simp only [fa,lk,reduceIte,zE]
              · exact ⟨i + 1, rfl, aB, by rw [gG]; exact mB hx (by simpa using iS) yF⟩
              · simp only [Go.Eng.intOf,List.headD_cons]; omega
          · skip
            have yF : ∀ p, bU l i = some p → p.key ≠ x.key ∧ ¬ 0 < p.cmp x := by
              intro q hq
              first
                | (have h1 := of_decide_eq_false pX; rw [EI] at hq; cases hq; exact ⟨eR, h1⟩)
                | (have h1 := of_decide_eq_false gw; have h0 : i = 0 := (by omega); rw [h0] at hq; cases hq)
                | (have h1 := of_decide_eq_false gx; exfalso; omega)
            simp only [hw,List.getElem?_map,hx,ag,ab,ah,List.length_map,go_sem,reduceIte,zA,zB,zC,zD,zE,zF,reduceCtorEq]
            refine bP _ (cA (by omega) (by simp only [hw,List.getElem?_map,hx,ag,ab,ah,List.length_map,go_sem,reduceIte,zA,zB,zC,zD,zE,zF,reduceCtorEq]) ?_ ?_) <;> simp only [fa,lk,reduceIte,zE]
            · exact ⟨i + 1, rfl, aB, by rw [gG]; exact mB hx (by simpa using iS) yF⟩
            · simp only [Go.Eng.intOf,List.headD_cons]; omega
    · skip
      have cB : ¬ i < l.length := by simpa using cq
      have aw : 0 = dK l := by unfold dK; rw [if_neg (by have := of_decide_eq_false cE; omega), gG, List.drop_eq_nil_of_le (by omega)]; rfl
      simp only [List.length_map,go_sem,reduceIte,zA,zB,zC,zD,zE,zF,reduceCtorEq]
      exact hK _ (congrArg num aw)
end Go.Proofs.YtnfeacnbgbggfaaGreatDoor
end

section
namespace Go.Proofs.YtnfeacnbgbggfaaGreatDoor
open Go.Eng
open Nat renaming reduceAdd → zA, reduceLT → zB, reduceLeDiff → zC, reduceMul → zD, reduceEqDiff → zE, reduceSub → zF
variable [aG]
set_option maxHeartbeats 4000000
set_option maxRecDepth 100000
theorem jZ {l : List Rl} {i : Nat} (hi : i ≤ l.length) (h0 : 0 < i → dK l = 0) (Xj : ¬ i < l.length ∨ dK l ≠ 0) : l.take i = aq l := by
 unfold aq
 by_cases hx : dK l = 0
 ·rw [if_pos hx, List.take_of_length_le]
  rcases Xj with h | h
  ·omega
  ·exact absurd hx h
 ·rw [if_neg hx]
  have : i = 0 := by
   rcases Nat.eq_zero_or_pos i with h | h
   ·exact h
   ·exact absurd (h0 h) hx
  rw [this, List.take_zero]
def iP (t : List Rl) (p : ByteArray) : List dr := (bS t p).map Rl.aC
theorem tR {l : List Rl} {i : Nat} {x : Rl} (h : l[i]? = some x) (p : ByteArray) : iP (l.take (i + 1)) p = iP (l.take i) p ++ (if x.path = p then [x.aC] else []) := by
 unfold iP bS
 rw [List.take_add_one, h]
 by_cases hp : x.path = p <;> simp [hp]
theorem Fo (l : List Rl) (p : ByteArray) (i : Nat) : (iP (l.take i) p).length ≤ i := by
 unfold iP bS
 rw [List.length_map]
 exact Nat.le_trans (List.length_filter_le _ _) (by rw [List.length_take]; omega)
def TX (t : List Rl) (p : ByteArray) : List bG := ((bS t p).filter fun r => !r.yk).map fun r => ⟨r.aC.place, r.aC.place + 1⟩
theorem TY {l : List Rl} {i : Nat} {x : Rl} (h : l[i]? = some x) (p : ByteArray) : TX (l.take (i + 1)) p = TX (l.take i) p ++ (if x.path = p ∧ x.yk = false then [⟨x.aC.place, x.aC.place + 1⟩] else []) := by
 unfold TX bS
 rw [List.take_add_one, h]
 by_cases hp : x.path = p <;> cases hy : x.yk <;> simp [hp, hy]
theorem UP (l : List Rl) (p : ByteArray) (i : Nat) : (TX (l.take i) p).length ≤ i := by
 unfold TX bS
 rw [List.length_map]
 exact Nat.le_trans (List.length_filter_le _ _) (Nat.le_trans (List.length_filter_le _ _) (by rw [List.length_take]; omega))
def gO (b : Option ByteArray) : List Rl → List ByteArray
 | [] => []
 | r :: t => if b = some r.path then gO (some r.path) t else r.path :: gO (some r.path) t
theorem Fp {l : List Rl} {s : dD} (h : ∀ j < l.length, ∀ x, l[j]? = some x → x.key ≠ s) : (l.find? fun r => decide (r.key = s)) = none := by
 rw [List.find?_eq_none]
 intro x hx
 obtain ⟨j, hj⟩ := List.mem_iff_getElem?.1 hx
 have := h j (List.getElem?_eq_some_iff.1 hj).1 x hj
 simpa using this
theorem L2 {l : List Rl} {s : dD} {i : Nat} {x : Rl} (hx : l[i]? = some x) (hk : x.key = s) (h : ∀ j < i, ∀ x, l[j]? = some x → x.key ≠ s) : (l.find? fun r => decide (r.key = s)) = some x := by
 have aB := (List.getElem?_eq_some_iff.1 hx).1
 rw [List.find?_eq_some_iff_getElem]
 refine ⟨by simpa using hk, i, aB, (List.getElem?_eq_some_iff.1 hx).2, fun j hj => ?_⟩
 have := h j hj _ (List.getElem?_eq_getElem (by omega))
 simpa using this
theorem Qk {l : List Rl} {s : dD} (h : dK l ≠ 0) : rp l s = none := by unfold rp aq; rw [if_neg h]; rfl
theorem IV {l : List Rl} {s : dD} (h : dK l = 0) : rp l s = l.find? fun r => decide (r.key = s) := by unfold rp aq; rw [if_pos h]
theorem mI (v : dr) (h : v.ok = true) : ∃ r_, (fun w => w = num (v.place)) r_ ∧ aP Tryz.prog 87 [bh v] r_ := by
 refine dI tt_ok [] 9 [.tmp 2] (fn := Tryz.f87) Tryz.func87 rfl Tryz.call87 ⟨rfl, rfl, by simp⟩ fun K hK => ?_
 simp only [bh]
 obtain ⟨w1, w2, -, -⟩ := iI h
 simp only [w1,w2,go_sem,reduceIte,zA,zB,zC,zD,zE,zF,reduceCtorEq]
 exact hK _ rfl
theorem zT (l : List Rl) (I : List V) (hb : tY l) (p : ByteArray) (v : dr) : ∃ r_, (fun w => w = .bT [ag ((rp l ⟨p, v⟩).getD nS), bl (rp l ⟨p, v⟩).isSome]) r_ ∧ aP Tryz.prog 35 [bm l I, str p, bh v] r_ := by
 refine dI tt_ok [] 44 [.cell 6 40, .tmp 7] (fn := Tryz.f35) Tryz.func35 rfl Tryz.call35 ⟨rfl, rfl, by simp⟩ fun K hK => ?_
 simp only [bm,aY,bh]
 have w6 := hb.1
 simp only [List.length_map,ao,go_sem,reduceIte,zA,zB,zC,zD,zE,zF,reduceCtorEq]
 refine cF (by have h := im l I hb; simp only [bm,aY] at h; exact h) ?_
 rintro _ rfl
 simp only [List.length_map,ao,go_sem,reduceIte,zA,zB,zC,zD,zE,zF,reduceCtorEq]
 refine aL (fun Ql => ?_) (fun Ql => ?_)
 ·have Jg : rp l ⟨p, v⟩ = none := Qk (by simpa using Ql)
  simp only [List.length_map,ao,go_sem,reduceIte,zA,zB,zC,zD,zE,zF,reduceCtorEq]
  refine hK _ ?_
  rw [Jg]
  first
   | rfl
   | (simp [ag, ab, ah]; done)
 ·have jF : dK l = 0 := by simpa using Ql
  simp only [List.length_map,ao,go_sem,reduceIte,zA,zB,zC,zD,zE,zF,reduceCtorEq]
  refine bA tt_ok [] [8] 3 [1,3,5,6,11] (fun vs => ((l.length : Int) - Go.Eng.intOf (vs.headD .undef)).toNat) (fun vs => ∃ i : Nat, vs = [num i] ∧ i ≤ l.length ∧ ∀ j < i, ∀ x, l[j]? = some x → x.key ≠ ⟨p, v⟩) (by omega) (by simp only [List.length_map,ao,go_sem,reduceIte,zA,zB,zC,zD,zE,zF,reduceCtorEq]) (⟨0, rfl, Nat.zero_le _, fun j hj => absurd hj (Nat.not_lt_zero j)⟩) fun vs hI Z1 bP => ?_
  obtain ⟨i, rfl, hi, aS⟩ := hI
  simp only [List.length_map,ao,go_sem,reduceIte,zA,zB,zC,zD,zE,zF,reduceCtorEq]
  refine aL (fun gM => ?_) (fun gM => ?_)
  ·have aB : i < l.length := by simpa using gM
   have hw := ax i (by omega)
   obtain ⟨x, hx⟩ : ∃ x, l[i]? = some x := ⟨_, List.getElem?_eq_getElem aB⟩
   have wQ := fun a b => cV a b x.aC v
   simp only [hw,List.getElem?_map,hx,ag,ab,ah,wQ,List.length_map,ao,go_sem,reduceIte,zA,zB,zC,zD,zE,zF,reduceCtorEq]
   refine bu tt_ok aD [⟨.n, 0, [], [], []⟩, ⟨.r, 0, [], [], []⟩, ⟨.n, 0, [], [], []⟩, ⟨.r, 0, [], [], []⟩, ⟨.n, 0, [], [], []⟩, ⟨.r, 0, [], [], []⟩, ⟨.n, 0, [], [], []⟩, ⟨.n, 0, [], [], []⟩, ⟨.n, 0, [], [], []⟩, ⟨.n, 0, [], [], []⟩, ⟨.r, 0, [], [], []⟩, ⟨.n, 0, [], [], []⟩, ⟨.r, 0, [], [], []⟩, ⟨.n, 0, [], [], []⟩, ⟨.r, 0, [], [], []⟩, ⟨.r, 0, [], [], []⟩, ⟨.n, 0, [], [], []⟩, ⟨.n, 0, [], [], []⟩] 0 (by kernel_rfl) ?_
   simp only [hw,List.getElem?_map,hx,ag,ab,ah,wQ,List.length_map,ao,go_sem,reduceIte,zA,zB,zC,zD,zE,zF,reduceCtorEq]
   refine aL (fun TZ => ?_) (fun TZ => ?_)
   ·simp only [hw,List.getElem?_map,hx,ag,ab,ah,wQ,List.length_map,ao,go_sem,reduceIte,zA,zB,zC,zD,zE,zF,reduceCtorEq]
    refine aL (fun rn => ?_) (fun rn => ?_)
    ·have hkx : x.key = ⟨p, v⟩ := by simp_all [Rl.key]
     have Jg : rp l ⟨p, v⟩ = some x := by rw [IV jF]; exact L2 hx hkx aS
     simp only [hw,List.getElem?_map,hx,ag,ab,ah,wQ,List.length_map,ao,go_sem,reduceIte,zA,zB,zC,zD,zE,zF,reduceCtorEq]
     refine hK _ ?_
     rw [Jg]
     first
      | rfl
      | (simp [ag, ab, ah]; done)
    ·have eR : x.key ≠ ⟨p, v⟩ := fun e => by simp_all [Rl.key]
     simp only [hw,List.getElem?_map,hx,ag,ab,ah,wQ,List.length_map,ao,go_sem,reduceIte,zA,zB,zC,zD,zE,zF,reduceCtorEq]
     refine bP _ (cA (by omega) (by simp only [hw,List.getElem?_map,hx,ag,ab,ah,wQ,List.length_map,ao,go_sem,reduceIte,zA,zB,zC,zD,zE,zF,reduceCtorEq]) ?_ ?_) <;> simp only [fa,lk,reduceIte,zE]
     ·refine ⟨i + 1, rfl, aB, fun j hj => ?_⟩
      rcases Nat.lt_or_ge j i with h | h
      ·exact aS j h
      ·obtain rfl : j = i := by omega
       intro y hy
       rw [hx] at hy; cases hy; exact eR
     ·simp only [Go.Eng.intOf,List.headD_cons]; omega
   ·have eR : x.key ≠ ⟨p, v⟩ := fun e => by simp_all [Rl.key]
    simp only [hw,List.getElem?_map,hx,ag,ab,ah,wQ,List.length_map,ao,go_sem,reduceIte,zA,zB,zC,zD,zE,zF,reduceCtorEq]
    refine bP _ (cA (by omega) (by simp only [hw,List.getElem?_map,hx,ag,ab,ah,wQ,List.length_map,ao,go_sem,reduceIte,zA,zB,zC,zD,zE,zF,reduceCtorEq]) ?_ ?_) <;> simp only [fa,lk,reduceIte,zE]
    ·refine ⟨i + 1, rfl, aB, fun j hj => ?_⟩
     rcases Nat.lt_or_ge j i with h | h
     ·exact aS j h
     ·obtain rfl : j = i := by omega
      intro y hy
      rw [hx] at hy; cases hy; exact eR
    ·simp only [Go.Eng.intOf,List.headD_cons]; omega
  ·have cB : ¬ i < l.length := by simpa using gM
   have Jg : rp l ⟨p, v⟩ = none := by rw [IV jF]; exact Fp fun j hj => aS j (by omega)
   simp only [List.length_map,ao,go_sem,reduceIte,zA,zB,zC,zD,zE,zF,reduceCtorEq]
   refine hK _ ?_
   rw [Jg]
   first
    | rfl
    | (simp [ag, ab, ah]; done)
end Go.Proofs.YtnfeacnbgbggfaaGreatDoor
end

section
namespace Go.Proofs.YtnfeacnbgbggfaaGreatDoor
open Go.Eng
open Nat renaming reduceAdd → zA, reduceLT → zB, reduceLeDiff → zC, reduceMul → zD, reduceEqDiff → zE, reduceSub → zF
variable [aG]
set_option maxHeartbeats 4000000
set_option maxRecDepth 100000
def aaj (t : List Rl) (p : ByteArray) : List dr := iP t p
theorem tS {l : List Rl} {i : Nat} {x : Rl} (h : l[i]? = some x) (p : ByteArray) : nX (bS (l.take (i + 1)) p) = nX (bS (l.take i) p) ++ (if x.path = p ∧ x.yk = false then [ua x] else []) := by
 unfold nX bS
 rw [List.take_add_one, h]
 by_cases hp : x.path = p <;> cases hy : x.yk <;> simp [hp, hy]
theorem xm (l : List Rl) (p : ByteArray) (i : Nat) : (nX (bS (l.take i) p)).length ≤ i := by
 unfold nX bS
 rw [List.length_map]
 exact Nat.le_trans (List.length_filter_le _ _) (Nat.le_trans (List.length_filter_le _ _) (by rw [List.length_take]; omega))
theorem IW {r : Rl} (h : gr r = 0) : r.aC.ok = true := by
 cases ho : r.aC.ok with
 | true => rfl
 | false =>
  exfalso
  unfold gr at h
  by_cases h1 : bF r.path ≠ 0
  ·rw [if_pos h1] at h; cases h
  ·rw [if_neg h1, if_pos (by rw [ho]; rfl)] at h; cases h
theorem IX {l : List Rl} (h : dK l = 0) {x : Rl} (hx : x ∈ l) : gr x = 0 := rP (l := l) (by unfold aq; rw [if_pos h]; exact hx)
theorem zU {G : List Rl} {i : Nat} {x : Rl} (h : G[i]? = some x) : (G.take (i + 1)).map Rl.aC = (G.take i).map Rl.aC ++ [x.aC] := by rw [List.take_add_one, h]; simp
theorem T0 (s t : List dr) (hl : s.length ≤ 1048576) : ∃ r_, (fun w => w = bl (decide (s = t))) r_ ∧ aP Tryz.prog 36 [.slice (s.map bh), .slice (t.map bh)] r_ := by
 refine dI tt_ok [] 26 [.tmp 4] (fn := Tryz.f36) Tryz.func36 rfl Tryz.call36 ⟨rfl, rfl, by simp⟩ fun K hK => ?_
 simp only [List.length_map,e9,go_sem,reduceIte,zA,zB,zC,zD,zE,zF,reduceCtorEq]
 refine aL (fun cE => ?_) (fun cE => ?_)
 ·have aw : false = decide (s = t) := by
   refine (decide_eq_false fun e => ?_).symm
   subst e; simp at cE
  simp only [List.length_map,e9,go_sem,reduceIte,zA,zB,zC,zD,zE,zF,reduceCtorEq]
  exact hK _ (congrArg bl aw)
 ·have gG : s.length = t.length := by have := cE; simp at this; omega
  simp only [List.length_map,e9,go_sem,reduceIte,zA,zB,zC,zD,zE,zF,reduceCtorEq]
  refine bA tt_ok [] [13] 0 [0,1,10,12] (fun vs => ((s.length : Int) - Go.Eng.intOf (vs.headD .undef)).toNat) (fun vs => ∃ i : Nat, vs = [num i] ∧ i ≤ s.length ∧ ∀ j < i, s[j]? = t[j]?) (by omega) (by simp only [List.length_map,e9,go_sem,reduceIte,zA,zB,zC,zD,zE,zF,reduceCtorEq]) (⟨0, rfl, Nat.zero_le _, fun j hj => absurd hj (Nat.not_lt_zero j)⟩) fun vs hI Z1 bP => ?_
  obtain ⟨i, rfl, hi, aS⟩ := hI
  simp only [List.length_map,e9,go_sem,reduceIte,zA,zB,zC,zD,zE,zF,reduceCtorEq]
  refine aL (fun cq => ?_) (fun cq => ?_)
  ·have aB : i < s.length := by simpa using cq
   have hw := ax i (by omega)
   obtain ⟨x, hx⟩ : ∃ x, s[i]? = some x := ⟨_, List.getElem?_eq_getElem aB⟩
   obtain ⟨y, hy⟩ : ∃ y, t[i]? = some y := ⟨_, List.getElem?_eq_getElem (by omega)⟩
   simp only [hw,List.getElem?_map,hx,hy,bh,List.length_map,e9,go_sem,reduceIte,zA,zB,zC,zD,zE,zF,reduceCtorEq]
   refine bu tt_ok aD [⟨.n, 0, [], [], []⟩, ⟨.n, 0, [], [], []⟩, ⟨.r, 0, [], [], []⟩, ⟨.r, 0, [], [], []⟩, ⟨.n, 0, [], [], []⟩, ⟨.n, 0, [], [], []⟩, ⟨.r, 0, [], [], []⟩, ⟨.r, 0, [], [], []⟩, ⟨.n, 0, [], [], []⟩] 0 (by kernel_rfl) ?_
   simp only [hw,List.getElem?_map,hx,hy,bh,List.length_map,e9,go_sem,reduceIte,zA,zB,zC,zD,zE,zF,reduceCtorEq]
   refine aL (fun iQ => ?_) (fun iQ => ?_)
   ·have aw : false = decide (s = t) := by
     refine (decide_eq_false fun e => ?_).symm
     subst e; rw [hx] at hy; cases hy; simp at iQ
    simp only [hw,List.getElem?_map,hx,hy,bh,List.length_map,e9,go_sem,reduceIte,zA,zB,zC,zD,zE,zF,reduceCtorEq]
    exact hK _ (congrArg bl aw)
   ·simp only [hw,List.getElem?_map,hx,hy,bh,List.length_map,e9,go_sem,reduceIte,zA,zB,zC,zD,zE,zF,reduceCtorEq]
    refine bP _ (cA (by omega) (by simp only [hw,List.getElem?_map,hx,hy,bh,List.length_map,e9,go_sem,reduceIte,zA,zB,zC,zD,zE,zF,reduceCtorEq]) ?_ ?_) <;> simp only [fa,lk,reduceIte,zE]
    ·refine ⟨i + 1, rfl, aB, fun j hj => ?_⟩
     rcases Nat.lt_or_ge j i with h | h
     ·exact aS j h
     ·obtain rfl : j = i := by omega
      rw [hx, hy]
      have := iQ
      simp_all
    ·simp only [Go.Eng.intOf,List.headD_cons]; omega
  ·have cB : ¬ i < s.length := by simpa using cq
   have aw : true = decide (s = t) := (decide_eq_true (gk gG fun j hj => aS j (by omega))).symm
   simp only [List.length_map,e9,go_sem,reduceIte,zA,zB,zC,zD,zE,zF,reduceCtorEq]
   exact hK _ (congrArg bl aw)
theorem T1 (s t : List ByteArray) (hl : s.length ≤ 1048576) : ∃ r_, (fun w => w = bl (decide (s = t))) r_ ∧ aP Tryz.prog 39 [.slice (s.map str), .slice (t.map str)] r_ := by
 refine dI tt_ok [] 26 [.tmp 4] (fn := Tryz.f39) Tryz.func39 rfl Tryz.call39 ⟨rfl, rfl, by simp⟩ fun K hK => ?_
 simp only [List.length_map,ao,go_sem,reduceIte,zA,zB,zC,zD,zE,zF,reduceCtorEq]
 refine aL (fun cE => ?_) (fun cE => ?_)
 ·have aw : false = decide (s = t) := by
   refine (decide_eq_false fun e => ?_).symm
   subst e; simp at cE
  simp only [List.length_map,ao,go_sem,reduceIte,zA,zB,zC,zD,zE,zF,reduceCtorEq]
  exact hK _ (congrArg bl aw)
 ·have gG : s.length = t.length := by have := cE; simp at this; omega
  simp only [List.length_map,ao,go_sem,reduceIte,zA,zB,zC,zD,zE,zF,reduceCtorEq]
  refine bA tt_ok [] [13] 0 [0,1,10,12] (fun vs => ((s.length : Int) - Go.Eng.intOf (vs.headD .undef)).toNat) (fun vs => ∃ i : Nat, vs = [num i] ∧ i ≤ s.length ∧ ∀ j < i, s[j]? = t[j]?) (by omega) (by simp only [List.length_map,ao,go_sem,reduceIte,zA,zB,zC,zD,zE,zF,reduceCtorEq]) (⟨0, rfl, Nat.zero_le _, fun j hj => absurd hj (Nat.not_lt_zero j)⟩) fun vs hI Z1 bP => ?_
  obtain ⟨i, rfl, hi, aS⟩ := hI
  simp only [List.length_map,ao,go_sem,reduceIte,zA,zB,zC,zD,zE,zF,reduceCtorEq]
  refine aL (fun cq => ?_) (fun cq => ?_)
  ·have aB : i < s.length := by simpa using cq
   have hw := ax i (by omega)
   obtain ⟨x, hx⟩ : ∃ x, s[i]? = some x := ⟨_, List.getElem?_eq_getElem aB⟩
   obtain ⟨y, hy⟩ : ∃ y, t[i]? = some y := ⟨_, List.getElem?_eq_getElem (by omega)⟩
   simp only [hw,List.getElem?_map,hx,hy,List.length_map,ao,go_sem,reduceIte,zA,zB,zC,zD,zE,zF,reduceCtorEq]
   refine bu tt_ok aD [⟨.n, 0, [], [], []⟩, ⟨.n, 0, [], [], []⟩, ⟨.r, 0, [], [], []⟩, ⟨.r, 0, [], [], []⟩, ⟨.n, 0, [], [], []⟩, ⟨.n, 0, [], [], []⟩, ⟨.r, 0, [], [], []⟩, ⟨.r, 0, [], [], []⟩, ⟨.n, 0, [], [], []⟩] 0 (by kernel_rfl) ?_
   simp only [hw,List.getElem?_map,hx,hy,List.length_map,ao,go_sem,reduceIte,zA,zB,zC,zD,zE,zF,reduceCtorEq]
   refine aL (fun iQ => ?_) (fun iQ => ?_)
   ·have aw : false = decide (s = t) := by
     refine (decide_eq_false fun e => ?_).symm
     subst e; rw [hx] at hy; cases hy; simp at iQ
    simp only [hw,List.getElem?_map,hx,hy,List.length_map,ao,go_sem,reduceIte,zA,zB,zC,zD,zE,zF,reduceCtorEq]
    exact hK _ (congrArg bl aw)
   ·simp only [hw,List.getElem?_map,hx,hy,List.length_map,ao,go_sem,reduceIte,zA,zB,zC,zD,zE,zF,reduceCtorEq]
    refine bP _ (cA (by omega) (by simp only [hw,List.getElem?_map,hx,hy,List.length_map,ao,go_sem,reduceIte,zA,zB,zC,zD,zE,zF,reduceCtorEq]) ?_ ?_) <;> simp only [fa,lk,reduceIte,zE]
    ·refine ⟨i + 1, rfl, aB, fun j hj => ?_⟩
     rcases Nat.lt_or_ge j i with h | h
     ·exact aS j h
     ·obtain rfl : j = i := by omega
      rw [hx, hy]
      have := iQ
      simp_all
    ·simp only [Go.Eng.intOf,List.headD_cons]; omega
  ·have cB : ¬ i < s.length := by simpa using cq
   have aw : true = decide (s = t) := (decide_eq_true (gk gG fun j hj => aS j (by omega))).symm
   simp only [List.length_map,ao,go_sem,reduceIte,zA,zB,zC,zD,zE,zF,reduceCtorEq]
   exact hK _ (congrArg bl aw)
theorem L3 (l : List Rl) (I : List V) (hb : tY l) (p : ByteArray) : ∃ r_, (fun w => w = .slice ((iP (aq l) p).map bh)) r_ ∧ aP Tryz.prog 38 [bm l I, str p] r_ := by
 refine dI tt_ok [] 38 [.tmp 4] (fn := Tryz.f38) Tryz.func38 rfl Tryz.call38 ⟨rfl, rfl, by simp⟩ fun K hK => ?_
 simp only [bm,aY]
 have w6 := hb.1
 simp only [List.length_map,ao,go_sem,reduceIte,zA,zB,zC,zD,zE,zF,reduceCtorEq]
 refine ct tt_ok [] (fun a : Nat × List dr => [(1, str p), (2, .ptr 0 0), (5, .ms 1 a.2.length 0 a.2.length), (6, num a.1)]) (fun a : Nat × List dr => [.box [.slice (l.map ag), .slice I], .rows a.2.length 3 (a.2.map bh)]) (fun a => l.length - a.1) (fun a => a.1 ≤ l.length ∧ a.2 = iP (l.take a.1) p ∧ (0 < a.1 → dK l = 0)) ((0, [])) 2 (ba (by omega) (by simp only [List.length_map,ao,List.map_nil,List.length_nil,Int.cast_ofNat_Int,go_sem,reduceIte,zA,zB,zC,zD,zE,zF,reduceCtorEq] <;> rfl)) (⟨Nat.zero_le _, rfl, fun h => absurd h (Nat.lt_irrefl _)⟩) ?_
 rintro ⟨i, R⟩ ⟨hi, hR, h0⟩
 try dsimp only at hi hR h0
 try dsimp only
 intro Z1 bP
 simp only [List.length_map,ao,go_sem,reduceIte,zA,zB,zC,zD,zE,zF,reduceCtorEq]
 refine aL (fun jl => ?_) (fun jl => ?_)
 ·have aB : i < l.length := by have := of_decide_eq_true jl; omega
  simp only [List.length_map,ao,go_sem,reduceIte,zA,zB,zC,zD,zE,zF,reduceCtorEq]
  refine cF (by have h := im l I hb; simp only [bm,aY] at h; exact h) ?_
  rintro _ rfl
  simp only [List.length_map,ao,go_sem,reduceIte,zA,zB,zC,zD,zE,zF,reduceCtorEq]
  refine aL (fun gM => ?_) (fun gM => ?_)
  ·have jF : dK l = 0 := of_decide_eq_true gM
   have hw := ax i (by omega)
   obtain ⟨x, hx⟩ : ∃ x, l[i]? = some x := ⟨_, List.getElem?_eq_getElem aB⟩
   simp only [hw,List.getElem?_map,hx,ag,ab,ah,List.length_map,ao,go_sem,reduceIte,zA,zB,zC,zD,zE,zF,reduceCtorEq]
   refine aL (fun IF => ?_) (fun IF => ?_)
   ·have L4 : x.path = p := by simpa [ao] using IF
    let nv : Nat × List dr := (i + 1, R ++ [x.aC])
    have E8 : R.length ≤ i := by rw [hR]; exact Fo l p i
    have dE : R.length + 1 ≤ 34359738368 := by omega
    have ql : nv.2 = iP (l.take (i + 1)) p := by rw [tR hx, if_pos L4, ← hR]
    simp only [hw,List.getElem?_map,hx,ag,ab,ah,dE,List.length_append,List.length_cons,List.length_nil,Nat.zero_add,List.length_map,ao,go_sem,reduceIte,zA,zB,zC,zD,zE,zF,reduceCtorEq]
    refine bP _ ⟨nv, ?_, ?_, ba (by omega) (by (simp [nv, je, lk, aW, bo, ai, aA, List.map_append, bh, ua]))⟩
    ·exact ⟨aB, ql, fun _ => jF⟩
    ·dsimp only [nv]; omega
   ·have L4 : ¬ x.path = p := by simpa [ao] using IF
    let nv : Nat × List dr := (i + 1, R)
    have ql : nv.2 = iP (l.take (i + 1)) p := by rw [tR hx, if_neg L4, ← hR, List.append_nil]
    simp only [hw,List.getElem?_map,hx,ag,ab,ah,List.length_map,ao,go_sem,reduceIte,zA,zB,zC,zD,zE,zF,reduceCtorEq]
    refine bP _ ⟨nv, ?_, ?_, ba (by omega) (by (simp [nv, je, lk, aW, bo, ai, aA, List.map_append, bh, ua]))⟩
    ·exact ⟨aB, ql, fun _ => jF⟩
    ·dsimp only [nv]; omega
  ·have IY : l.take i = aq l := jZ hi h0 (by
    first
    | exact Or.inl (by have := of_decide_eq_false jl; omega)
    | exact Or.inr (of_decide_eq_false gM)
    | exact Or.inr (of_decide_eq_false gJ)
    | exact Or.inr (of_decide_eq_false o5))
   have fk : R = iP (aq l) p := by rw [hR, IY]
   simp only [List.length_map,ao,go_sem,reduceIte,zA,zB,zC,zD,zE,zF,reduceCtorEq]
   refine hK _ ?_
   simp [mK, lC, oC, Cr, eA, bD, ← fk, List.take_of_length_le]
 ·have IY : l.take i = aq l := jZ hi h0 (by
   first
   | exact Or.inl (by have := of_decide_eq_false jl; omega)
   | exact Or.inr (of_decide_eq_false gM)
   | exact Or.inr (of_decide_eq_false gJ)
   | exact Or.inr (of_decide_eq_false o5))
  have fk : R = iP (aq l) p := by rw [hR, IY]
  simp only [List.length_map,ao,go_sem,reduceIte,zA,zB,zC,zD,zE,zF,reduceCtorEq]
  refine hK _ ?_
  simp [mK, lC, oC, Cr, eA, bD, ← fk, List.take_of_length_le]
theorem Q8 (l : List Rl) (I : List V) (hb : tY l) (p : ByteArray) : ∃ r_, (fun w => w = ak (canon (nX (bS (aq l) p)))) r_ ∧ aP Tryz.prog 44 [bm l I, str p] r_ := by
 refine dI tt_ok [] 48 [.tmp 4] (fn := Tryz.f44) Tryz.func44 rfl Tryz.call44 ⟨rfl, rfl, by simp⟩ fun K hK => ?_
 simp only [bm,aY]
 have w6 := hb.1
 simp only [List.length_map,ao,go_sem,reduceIte,zA,zB,zC,zD,zE,zF,reduceCtorEq]
 refine ct tt_ok [] (fun a : Nat × List bG => [(1, str p), (2, .ptr 0 0), (5, .ms 1 a.2.length 0 a.2.length), (6, num a.1)]) (fun a : Nat × List bG => [.box [.slice (l.map ag), .slice I], .rows a.2.length 2 (a.2.map aj)]) (fun a => l.length - a.1) (fun a => a.1 ≤ l.length ∧ a.2 = nX (bS (l.take a.1) p) ∧ (0 < a.1 → dK l = 0)) ((0, [])) 2 (ba (by omega) (by simp only [List.length_map,ao,List.map_nil,List.length_nil,Int.cast_ofNat_Int,go_sem,reduceIte,zA,zB,zC,zD,zE,zF,reduceCtorEq] <;> rfl)) (⟨Nat.zero_le _, rfl, fun h => absurd h (Nat.lt_irrefl _)⟩) ?_
 rintro ⟨i, R⟩ ⟨hi, hR, h0⟩
 try dsimp only at hi hR h0
 try dsimp only
 intro Z1 bP
 simp only [List.length_map,ao,go_sem,reduceIte,zA,zB,zC,zD,zE,zF,reduceCtorEq]
 refine aL (fun jl => ?_) (fun jl => ?_)
 ·have aB : i < l.length := by have := of_decide_eq_true jl; omega
  simp only [List.length_map,ao,go_sem,reduceIte,zA,zB,zC,zD,zE,zF,reduceCtorEq]
  refine cF (by have h := im l I hb; simp only [bm,aY] at h; exact h) ?_
  rintro _ rfl
  simp only [List.length_map,ao,go_sem,reduceIte,zA,zB,zC,zD,zE,zF,reduceCtorEq]
  refine aL (fun o5 => ?_) (fun o5 => ?_)
  ·have jF : dK l = 0 := of_decide_eq_true o5
   have hw := ax i (by omega)
   obtain ⟨x, hx⟩ : ∃ x, l[i]? = some x := ⟨_, List.getElem?_eq_getElem aB⟩
   simp only [hw,List.getElem?_map,hx,ag,ab,ah,List.length_map,ao,go_sem,reduceIte,zA,zB,zC,zD,zE,zF,reduceCtorEq]
   refine aL (fun T2 => ?_) (fun T2 => ?_)
   ·simp only [hw,List.getElem?_map,hx,ag,ab,ah,List.length_map,ao,go_sem,reduceIte,zA,zB,zC,zD,zE,zF,reduceCtorEq]
    refine aL (fun zN => ?_) (fun zN => ?_)
    ·have L4 : x.path = p ∧ x.yk = false := by simp_all
     have bM : x.aC.ok = true := IW (IX jF (List.mem_of_getElem? hx))
     have Qm : x.aC.place = x.aC.pl := (if_pos bM).symm
     obtain ⟨-, -, aak, aal⟩ := iI bM
     have Dq : IntKind.i64.wrap (x.aC.place + 1) = x.aC.place + 1 := IntWalk.i64_in _ (by omega)
     have fp : ∀ a b : Int, ca [V.agg [num a, num b]] 0 2 = true := fun _ _ => rfl
     let nv : Nat × List bG := (i + 1, R ++ [ua x])
     have E8 : R.length ≤ i := by rw [hR]; exact xm l p i
     have dE : R.length + 1 ≤ 34359738368 := by omega
     have ql : nv.2 = nX (bS (l.take (i + 1)) p) := by rw [tS hx, if_pos L4, ← hR]
     simp only [hw,List.getElem?_map,hx,ag,ab,ah,dE,List.length_append,List.length_cons,List.length_nil,Nat.zero_add,Dq,fp,List.length_map,ao,go_sem,reduceIte,zA,zB,zC,zD,zE,zF,reduceCtorEq]
     refine bu tt_ok aD [⟨.n, 0, [], [], []⟩, ⟨.n, 0, [], [], []⟩, ⟨.r, 0, [], [1], []⟩, ⟨.n, 0, [], [1,2], []⟩, ⟨.n, 0, [], [], []⟩, ⟨.r, 0, [], [4], []⟩, ⟨.n, 0, [], [1,2,3,4,5], []⟩, ⟨.n, 0, [], [1,2,3,4,5,6], []⟩, ⟨.n, 0, [], [1,2,3,4,5,6,7], []⟩, ⟨.n, 0, [], [1,2,3,4,5,6,7,8], []⟩, ⟨.w, 0, [], [0,1,2,3,4,5,6,7,8,9], []⟩, ⟨.n, 0, [], [0,1,2,3,4,5,6,7,8,9,10], []⟩] 1 (by kernel_rfl) ?_
     simp only [hw,List.getElem?_map,hx,ag,ab,ah,dE,List.length_append,List.length_cons,List.length_nil,Nat.zero_add,Dq,fp,List.length_map,ao,go_sem,reduceIte,zA,zB,zC,zD,zE,zF,reduceCtorEq]
     refine cG (by have h := mI x.aC bM; simp only [bh] at h; exact h) ?_
     rintro _ rfl
     simp only [hw,List.getElem?_map,hx,ag,ab,ah,dE,List.length_append,List.length_cons,List.length_nil,Nat.zero_add,Dq,fp,List.length_map,ao,go_sem,reduceIte,zA,zB,zC,zD,zE,zF,reduceCtorEq]
     refine cG (by have h := mI x.aC bM; simp only [bh] at h; exact h) ?_
     rintro _ rfl
     simp only [hw,List.getElem?_map,hx,ag,ab,ah,dE,List.length_append,List.length_cons,List.length_nil,Nat.zero_add,Dq,fp,List.length_map,ao,go_sem,reduceIte,zA,zB,zC,zD,zE,zF,reduceCtorEq]
     refine bP _ ⟨nv, ?_, ?_, ba (by omega) (by (first | (simp [nv, je, lk, aW, bo, ai, aA, List.map_append, aj, ua, ← Qm]; done) | (simp [nv, je, lk, aW, bo, ai, aA, List.map_append, aj, ua]; done)))⟩
     ·exact ⟨aB, ql, fun _ => jF⟩
     ·dsimp only [nv]; omega
    ·let nv : Nat × List bG := (i + 1, R)
     have L4 : ¬ (x.path = p ∧ x.yk = false) := by simp_all
     have ql : nv.2 = nX (bS (l.take (i + 1)) p) := by rw [tS hx, if_neg L4, ← hR, List.append_nil]
     simp only [hw,List.getElem?_map,hx,ag,ab,ah,List.length_map,ao,go_sem,reduceIte,zA,zB,zC,zD,zE,zF,reduceCtorEq]
     refine bP _ ⟨nv, ?_, ?_, ba (by omega) (by (first | (simp [nv, je, lk, aW, bo, ai, aA, List.map_append, aj, ua, ← Qm]; done) | (simp [nv, je, lk, aW, bo, ai, aA, List.map_append, aj, ua]; done)))⟩
     ·exact ⟨aB, ql, fun _ => jF⟩
     ·dsimp only [nv]; omega
   ·let nv : Nat × List bG := (i + 1, R)
    have L4 : ¬ (x.path = p ∧ x.yk = false) := by simp_all
    have ql : nv.2 = nX (bS (l.take (i + 1)) p) := by rw [tS hx, if_neg L4, ← hR, List.append_nil]
    simp only [hw,List.getElem?_map,hx,ag,ab,ah,List.length_map,ao,go_sem,reduceIte,zA,zB,zC,zD,zE,zF,reduceCtorEq]
    refine bP _ ⟨nv, ?_, ?_, ba (by omega) (by (first | (simp [nv, je, lk, aW, bo, ai, aA, List.map_append, aj, ua, ← Qm]; done) | (simp [nv, je, lk, aW, bo, ai, aA, List.map_append, aj, ua]; done)))⟩
    ·exact ⟨aB, ql, fun _ => jF⟩
    ·dsimp only [nv]; omega
  ·have IY : l.take i = aq l := jZ hi h0 (by
    first
    | exact Or.inl (by have := of_decide_eq_false jl; omega)
    | exact Or.inr (of_decide_eq_false gM)
    | exact Or.inr (of_decide_eq_false gJ)
    | exact Or.inr (of_decide_eq_false o5))
   have fk : R = nX (bS (aq l) p) := by rw [hR, IY]
   have E8 : R.length ≤ i := by rw [hR]; exact xm l p i
   have tK : List.take R.length (R.map aj) = R.map aj := List.take_of_length_le (by simp)
   have Il : R.length ≤ (R.map aj).length := by simp
   simp only [tK,Il,List.length_map,ao,go_sem,reduceIte,zA,zB,zC,zD,zE,zF,reduceCtorEq]
   refine cF (by have h := qk R (by omega); simp only [ak] at h; exact h) ?_
   rintro _ rfl
   simp only [tK,Il,List.length_map,ao,go_sem,reduceIte,zA,zB,zC,zD,zE,zF,reduceCtorEq]
   exact hK _ (by rw [← fk]; rfl)
 ·have IY : l.take i = aq l := jZ hi h0 (by
   first
   | exact Or.inl (by have := of_decide_eq_false jl; omega)
   | exact Or.inr (of_decide_eq_false gM)
   | exact Or.inr (of_decide_eq_false gJ)
   | exact Or.inr (of_decide_eq_false o5))
  have fk : R = nX (bS (aq l) p) := by rw [hR, IY]
  have E8 : R.length ≤ i := by rw [hR]; exact xm l p i
  have tK : List.take R.length (R.map aj) = R.map aj := List.take_of_length_le (by simp)
  have Il : R.length ≤ (R.map aj).length := by simp
  simp only [tK,Il,List.length_map,ao,go_sem,reduceIte,zA,zB,zC,zD,zE,zF,reduceCtorEq]
  refine cF (by have h := qk R (by omega); simp only [ak] at h; exact h) ?_
  rintro _ rfl
  simp only [tK,Il,List.length_map,ao,go_sem,reduceIte,zA,zB,zC,zD,zE,zF,reduceCtorEq]
  exact hK _ (by rw [← fk]; rfl)
theorem Na (hG : aG.g = some 0) (l : List Rl) (I : List V) (hb : tY l) (p : ByteArray) : aP Tryz.prog 37 [bm l I, str p] (.slice ((iP (aq l) p).map bh)) := by
 refine QN tt_ok [] 31 [.tmp 4] (fn := Tryz.f37) Tryz.func37 rfl Tryz.call37 ⟨rfl, rfl, by simp⟩ fun K hK => ?_
 simp only [bm,aY]
 have w6 := hb.1
 simp only [ae,af,List.length_map,go_sem,reduceIte,zA,zB,zC,zD,zE,zF,reduceCtorEq]
 refine cW (by have h := jj hG l I hb; simp only [bm,aY] at h; exact h _) ?_
 rintro _ _ ⟨rfl, rfl⟩
 try simp only [Ev,Q3,List.length_cons,List.length_nil,zA]
 by_cases fF : p ∈ aO (aq l)
 ·have cM := fun (mem : List ay) (b : Nat) hm => mF (aq l) p (mem := mem) (b := b) hm
  simp only [if_pos fF,bW] at cM
  simp only [ae,af,cM,List.length_map,go_sem,reduceIte,zA,zB,zC,zD,zE,zF,reduceCtorEq]
  refine yK 7 0 3 (by decide) rfl ?_
  refine ct tt_ok [] (fun a : Nat × List dr => [(7, .ms 6 a.2.length 0 a.2.length), (18, .slice ((bS (aq l) p).map ag)), (19, num (bS (aq l) p).length), (20, num a.1)]) (fun a : Nat × List dr => [.box [.slice (l.map ag), .slice I], .box [.slice (l.map ag), .slice I], .box [.mp 3, .mp 4], .map (bL aM 0 (gK (aq l))) (gK (aq l)).length, .map (bL strVal 0 (gP (aq l))) (aO (aq l)).length, .box [.mp 3, .mp 4], .rows a.2.length 3 (a.2.map bh)]) (fun a => (bS (aq l) p).length - a.1) (fun a => a.1 ≤ (bS (aq l) p).length ∧ a.2 = ((bS (aq l) p).take a.1).map Rl.aC) ((0, [])) 7 (ba (by omega) (by simp only [ae,af,cM,List.length_map,List.map_nil,List.length_nil,Int.cast_ofNat_Int,go_sem,reduceIte,zA,zB,zC,zD,zE,zF,reduceCtorEq] <;> rfl)) (⟨Nat.zero_le _, rfl⟩) ?_
  rintro ⟨i, L⟩ ⟨hi, hL⟩
  try dsimp only at hi hL ⊢
  intro Z1 bP
  simp only [ae,af,cM,List.length_map,go_sem,reduceIte,zA,zB,zC,zD,zE,zF,reduceCtorEq]
  refine aL (fun eW => ?_) (fun eW => ?_)
  ·have aB : i < (bS (aq l) p).length := by simpa using eW
   have zy : (bS (aq l) p).length ≤ 256 := Nat.le_trans (List.length_filter_le _ _) (eY l)
   have hw := ax i (by omega)
   obtain ⟨x, hx⟩ : ∃ x, (bS (aq l) p)[i]? = some x := ⟨_, List.getElem?_eq_getElem aB⟩
   have Bw : L.length ≤ 256 := by rw [hL, List.length_map, List.length_take]; omega
   have dE : L.length + 1 ≤ 34359738368 := by omega
   let nv : Nat × List dr := (i + 1, L ++ [x.aC])
   have Ik : L ++ [x.aC] = ((bS (aq l) p).take (i + 1)).map Rl.aC := by rw [zU hx, hL]
   simp only [ae,af,cM,hw,List.getElem?_map,hx,ag,ab,ah,Option.map_some,dE,List.length_cons,List.length_nil,Nat.zero_add,List.length_map,go_sem,reduceIte,zA,zB,zC,zD,zE,zF,reduceCtorEq]
   refine bP _ ⟨nv, ?_, ?_, ba (by omega) (by (simp only [nv,hw,List.map_append,List.map_cons,List.map_nil,List.length_append,List.length_map,List.length_cons,List.length_nil,Nat.zero_add,bh,ua,ae,af,go_sem,reduceIte,zA,zB,zC,zD,zE,zF,reduceCtorEq]))⟩
   ·exact ⟨aB, Ik⟩
   ·dsimp only [nv]; omega
  ·have cB : ¬ i < (bS (aq l) p).length := by simpa using eW
   have rZ : i = (bS (aq l) p).length := by omega
   have Lz : L = iP (aq l) p := by rw [hL, rZ, List.take_length]; rfl
   simp only [ae,af,cM,List.length_map,go_sem,reduceIte,zA,zB,zC,zD,zE,zF,reduceCtorEq]
   refine hK _ ?_
   simp [mK, lC, oC, Cr, eA, bD, ← Lz, List.take_of_length_le]
 ·have cM := fun (mem : List ay) (b : Nat) hm => mF (aq l) p (mem := mem) (b := b) hm
  simp only [if_neg fF] at cM
  have zH : bS (aq l) p = [] := by have h := kN fF; unfold bW at h; simpa using h
  simp only [ae,af,cM,List.length_map,go_sem,reduceIte,zA,zB,zC,zD,zE,zF,reduceCtorEq]
  refine rl (v' := .slice ((bS (aq l) p).map ag)) 18 (by decide) rfl (by rw [zH]; rfl) ?_
  refine Hd (v' := num ((bS (aq l) p).length : Int)) 19 (by rw [zH]; rfl) ?_
  refine yK 7 0 3 (by decide) rfl ?_
  refine ct tt_ok [] (fun a : Nat × List dr => [(7, .ms 6 a.2.length 0 a.2.length), (18, .slice ((bS (aq l) p).map ag)), (19, num (bS (aq l) p).length), (20, num a.1)]) (fun a : Nat × List dr => [.box [.slice (l.map ag), .slice I], .box [.slice (l.map ag), .slice I], .box [.mp 3, .mp 4], .map (bL aM 0 (gK (aq l))) (gK (aq l)).length, .map (bL strVal 0 (gP (aq l))) (aO (aq l)).length, .box [.mp 3, .mp 4], .rows a.2.length 3 (a.2.map bh)]) (fun a => (bS (aq l) p).length - a.1) (fun a => a.1 ≤ (bS (aq l) p).length ∧ a.2 = ((bS (aq l) p).take a.1).map Rl.aC) ((0, [])) 7 (ba (by omega) (by simp only [ae,af,cM,List.length_map,List.map_nil,List.length_nil,Int.cast_ofNat_Int,go_sem,reduceIte,zA,zB,zC,zD,zE,zF,reduceCtorEq] <;> rfl)) (⟨Nat.zero_le _, rfl⟩) ?_
  rintro ⟨i, L⟩ ⟨hi, hL⟩
  try dsimp only at hi hL ⊢
  intro Z2 mP
  simp only [ae,af,cM,List.length_map,go_sem,reduceIte,zA,zB,zC,zD,zE,zF,reduceCtorEq]
  refine aL (fun eW => ?_) (fun eW => ?_)
  ·have aB : i < (bS (aq l) p).length := by simpa using eW
   have zy : (bS (aq l) p).length ≤ 256 := Nat.le_trans (List.length_filter_le _ _) (eY l)
   have hw := ax i (by omega)
   obtain ⟨x, hx⟩ : ∃ x, (bS (aq l) p)[i]? = some x := ⟨_, List.getElem?_eq_getElem aB⟩
   have Bw : L.length ≤ 256 := by rw [hL, List.length_map, List.length_take]; omega
   have dE : L.length + 1 ≤ 34359738368 := by omega
   let nv : Nat × List dr := (i + 1, L ++ [x.aC])
   have Ik : L ++ [x.aC] = ((bS (aq l) p).take (i + 1)).map Rl.aC := by rw [zU hx, hL]
   simp only [ae,af,cM,hw,List.getElem?_map,hx,ag,ab,ah,Option.map_some,dE,List.length_cons,List.length_nil,Nat.zero_add,List.length_map,go_sem,reduceIte,zA,zB,zC,zD,zE,zF,reduceCtorEq]
   refine mP _ ⟨nv, ?_, ?_, ba (by omega) (by (simp only [nv,hw,List.map_append,List.map_cons,List.map_nil,List.length_append,List.length_map,List.length_cons,List.length_nil,Nat.zero_add,bh,ua,ae,af,go_sem,reduceIte,zA,zB,zC,zD,zE,zF,reduceCtorEq]))⟩
   ·exact ⟨aB, Ik⟩
   ·dsimp only [nv]; omega
  ·have cB : ¬ i < (bS (aq l) p).length := by simpa using eW
   have rZ : i = (bS (aq l) p).length := by omega
   have Lz : L = iP (aq l) p := by rw [hL, rZ, List.take_length]; rfl
   simp only [ae,af,cM,List.length_map,go_sem,reduceIte,zA,zB,zC,zD,zE,zF,reduceCtorEq]
   refine hK _ ?_
   simp [mK, lC, oC, Cr, eA, bD, ← Lz, List.take_of_length_le]
end Go.Proofs.YtnfeacnbgbggfaaGreatDoor
end

section
namespace Go.Proofs.YtnfeacnbgbggfaaGreatDoor
open Go.Eng
open Nat renaming reduceAdd → zA, reduceLT → zB, reduceLeDiff → zC, reduceMul → zD, reduceEqDiff → zE, reduceSub → zF
variable [aG]
set_option maxHeartbeats 4000000
set_option maxRecDepth 100000
def vA (b : Option ByteArray) : List Rl → Option ByteArray
  | [] => b
  | r :: t => vA (some r.path) t
theorem Cc (t : List Rl) (x : Rl) : ∀ b, vA b (t ++ [x]) = some x.path := by
  induction t with
  | nil => intro b; rfl
  | cons r t ih => intro b; exact ih _
theorem vB (t : List Rl) (x : Rl) : ∀ b, gO b (t ++ [x]) = gO b t ++ (if vA b t = some x.path then [] else [x.path]) := by
  induction t with
  | nil => intro b; show (if b = some x.path then gO _ [] else x.path :: gO _ []) = _; unfold vA; split <;> rfl
  | cons r t ih =>
    intro b
    show (if b = some r.path then gO (some r.path) (t ++ [x]) else r.path :: gO (some r.path) (t ++ [x])) = _
    rw [ih]
    show _ = (if b = some r.path then gO (some r.path) t else r.path :: gO (some r.path) t) ++ (if vA (some r.path) t = some x.path then [] else [x.path])
    by_cases h : b = some r.path
    · rw [if_pos h, if_pos h]
    · rw [if_neg h, if_neg h]; rfl
theorem zV (t : List Rl) : ∀ b, (gO b t).length ≤ t.length := by
  induction t with
  | nil => intro b; exact Nat.le_refl _
  | cons r t ih =>
    intro b
    show (if b = some r.path then gO (some r.path) t else r.path :: gO (some r.path) t).length ≤ _
    have := ih (some r.path)
    split
    · simp only [List.length_cons]; omega
    · simp only [List.length_cons]; omega
theorem tT {l : List Rl} {i : Nat} {x : Rl} (h : l[i]? = some x) (hi : i = 0) : gO none (l.take (i + 1)) = gO none (l.take i) ++ [x.path] := by
  rw [List.take_add_one, h]
  show gO none (_ ++ [x]) = _
  rw [vB]; subst hi; rfl
theorem qo {l : List Rl} {i : Nat} {x q : Rl} (h : l[i]? = some x) (hi : i ≠ 0) (hq : l[i - 1]? = some q) : gO none (l.take (i + 1)) = gO none (l.take i) ++ (if q.path = x.path then [] else [x.path]) := by
  rw [List.take_add_one, h]
  show gO none (_ ++ [x]) = _
  rw [vB]
  have e : l.take i = l.take (i - 1) ++ [q] := by
    have := List.take_add_one (l := l) (i := i - 1)
    rw [Nat.sub_add_cancel (Nat.pos_of_ne_zero hi), hq] at this
    exact this
  have e2 : vA none (l.take i) = some q.path := by rw [e]; exact Cc _ _ _
  rw [e2]
  by_cases hp : q.path = x.path <;> simp [hp]
theorem Q9 (l : List Rl) (I : List V) (hb : tY l) : ∃ r_, (fun w => w = .slice ((gO none (aq l)).map str)) r_ ∧ aP Tryz.prog 41 [bm l I] r_ := by
  refine dI tt_ok [] 46 [.tmp 2] (fn := Tryz.f41) Tryz.func41 rfl Tryz.call41 ⟨rfl, rfl, by simp⟩ fun K hK => ?_
  simp only [bm,aY]
  have w6 := hb.1
  simp only [List.length_map,ao,go_sem,reduceIte,zA,zB,zC,zD,zE,zF,reduceCtorEq]
  refine ct tt_ok [] (fun a : Nat × List ByteArray => [(1, .ptr 0 0), (3, .ms 1 a.2.length 0 a.2.length), (4, num a.1)]) (fun a : Nat × List ByteArray => [.box [.slice (l.map ag), .slice I], .rows a.2.length 1 (a.2.map str)]) (fun a => l.length - a.1) (fun a => a.1 ≤ l.length ∧ a.2 = gO none (l.take a.1) ∧ (0 < a.1 → dK l = 0)) ((0, [])) 2 (ba (by omega) (by simp only [List.length_map,ao,List.map_nil,List.length_nil,Int.cast_ofNat_Int,go_sem,reduceIte,zA,zB,zC,zD,zE,zF,reduceCtorEq] <;> rfl)) (⟨Nat.zero_le _, rfl, fun h => absurd h (Nat.lt_irrefl _)⟩) ?_
  rintro ⟨i, R⟩ ⟨hi, hR, h0⟩
  try dsimp only at hi hR h0
  try dsimp only
  intro Z1 bP
  simp only [List.length_map,ao,go_sem,reduceIte,zA,zB,zC,zD,zE,zF,reduceCtorEq]
  refine aL (fun jl => ?_) (fun jl => ?_)
  · skip
    have aB : i < l.length := by have := of_decide_eq_true jl; omega
    simp only [List.length_map,ao,go_sem,reduceIte,zA,zB,zC,zD,zE,zF,reduceCtorEq]
    refine cF (by have h := im l I hb; simp only [bm,aY] at h; exact h) ?_
    rintro _ rfl
    simp only [List.length_map,ao,go_sem,reduceIte,zA,zB,zC,zD,zE,zF,reduceCtorEq]
    refine aL (fun gJ => ?_) (fun gJ => ?_)
    · skip
      have jF : dK l = 0 := of_decide_eq_true gJ
      have hw := ax i (by omega)
      obtain ⟨x, hx⟩ : ∃ x, l[i]? = some x := ⟨_, List.getElem?_eq_getElem aB⟩
      simp only [hw,List.getElem?_map,hx,ag,ab,ah,List.length_map,ao,go_sem,reduceIte,zA,zB,zC,zD,zE,zF,reduceCtorEq]
      refine bu tt_ok aD [⟨.n, 0, [], [], []⟩, ⟨.n, 0, [], [], []⟩, ⟨.n, 0, [], [], []⟩, ⟨.n, 0, [], [], []⟩, ⟨.r, 0, [], [], []⟩, ⟨.n, 0, [], [], []⟩, ⟨.r, 0, [], [], []⟩, ⟨.n, 0, [], [], []⟩, ⟨.r, 0, [], [], []⟩, ⟨.n, 0, [], [], []⟩, ⟨.r, 0, [], [], []⟩, ⟨.n, 0, [], [], []⟩, ⟨.n, 0, [], [], []⟩, ⟨.r, 0, [], [], []⟩, ⟨.n, 0, [], [], []⟩, ⟨.r, 0, [], [], []⟩, ⟨.n, 0, [], [], []⟩, ⟨.n, 0, [], [], []⟩] 0 (by kernel_rfl) ?_
      simp only [hw,List.getElem?_map,hx,ag,ab,ah,List.length_map,ao,go_sem,reduceIte,zA,zB,zC,zD,zE,zF,reduceCtorEq]
      refine aL (fun DE => ?_) (fun DE => ?_)
      · skip
        let nv : Nat × List ByteArray := (i + 1, R ++ [x.path])
        have E8 : R.length ≤ i := by rw [hR]; have := zV (l.take i) none; rw [List.length_take] at this; omega
        have dE : R.length + 1 ≤ 34359738368 := by omega
        have ql : nv.2 = gO none (l.take (i + 1)) := by
          show R ++ [x.path] = _
          by_cases vY : i = 0
          · rw [tT hx vY, ← hR]
          · first
            | (have bO : ¬ q.path = x.path := (by intro e; rw [e] at Fq; simp at Fq)
               rw [qo hx vY hq, if_neg bO, ← hR])
            | (have h1 := of_decide_eq_true DE; exfalso; omega)
        simp only [hw,List.getElem?_map,hx,ag,ab,ah,dE,List.length_append,List.length_cons,List.length_nil,Nat.zero_add,List.length_map,ao,go_sem,reduceIte,zA,zB,zC,zD,zE,zF,reduceCtorEq]
        refine bP _ ⟨nv, ?_, ?_, ba (by omega) (by (simp [nv, je, lk, aW, bo, ai, aA, List.map_append]))⟩
        · exact ⟨aB, ql, fun _ => jF⟩
        · dsimp only [nv]; omega
      · skip
        have vY : i ≠ 0 := by have := of_decide_eq_false DE; omega
        obtain ⟨q, hq⟩ : ∃ q, l[i - 1]? = some q := ⟨_, List.getElem?_eq_getElem (by omega)⟩
        have dT : IntKind.i64.wrap ((i : Int) - 1) = ((i - 1 : Nat) : Int) := jf _ _ (by omega) (by omega)
        simp only [hw,List.getElem?_map,hx,ag,ab,ah,dT,hq,List.length_map,ao,go_sem,reduceIte,zA,zB,zC,zD,zE,zF,reduceCtorEq]
        refine aL (fun Fq => ?_) (fun Fq => ?_)
        · skip
          let nv : Nat × List ByteArray := (i + 1, R ++ [x.path])
          have E8 : R.length ≤ i := by rw [hR]; have := zV (l.take i) none; rw [List.length_take] at this; omega
          have dE : R.length + 1 ≤ 34359738368 := by omega
          have ql : nv.2 = gO none (l.take (i + 1)) := by
            show R ++ [x.path] = _
            by_cases vY : i = 0
            · rw [tT hx vY, ← hR]
            · first
              | (have bO : ¬ q.path = x.path := (by intro e; rw [e] at Fq; simp at Fq)
                 rw [qo hx vY hq, if_neg bO, ← hR])
              | (have h1 := of_decide_eq_true DE; exfalso; omega)
          simp only [hw,List.getElem?_map,hx,ag,ab,ah,dT,hq,dE,List.length_append,List.length_cons,List.length_nil,Nat.zero_add,List.length_map,ao,go_sem,reduceIte,zA,zB,zC,zD,zE,zF,reduceCtorEq]
          refine bP _ ⟨nv, ?_, ?_, ba (by omega) (by (simp [nv, je, lk, aW, bo, ai, aA, List.map_append]))⟩
          · exact ⟨aB, ql, fun _ => jF⟩
          · dsimp only [nv]; omega
        · skip
          have heq : q.path = x.path := (show x.path = q.path by simpa [ao] using Fq).symm
          let nv : Nat × List ByteArray := (i + 1, R)
          have ql : nv.2 = gO none (l.take (i + 1)) := by rw [qo hx vY hq, if_pos heq, List.append_nil, ← hR]
          simp only [hw,List.getElem?_map,hx,ag,ab,ah,dT,hq,List.length_map,ao,go_sem,reduceIte,zA,zB,zC,zD,zE,zF,reduceCtorEq]
          refine bP _ ⟨nv, ?_, ?_, ba (by omega) (by (simp [nv, je, lk, aW, bo, ai, aA, List.map_append]))⟩
          · exact ⟨aB, ql, fun _ => jF⟩
          · dsimp only [nv]; omega
    · skip
      have IY : l.take i = aq l := jZ hi h0 (by
        first
        | exact Or.inl (by have := of_decide_eq_false jl; omega)
        | exact Or.inr (of_decide_eq_false gM)
        | exact Or.inr (of_decide_eq_false gJ)
        | exact Or.inr (of_decide_eq_false o5))
      have fk : R = gO none (aq l) := by rw [hR, IY]
      simp only [List.length_map,ao,go_sem,reduceIte,zA,zB,zC,zD,zE,zF,reduceCtorEq]
      refine hK _ ?_
      simp [mK, lC, oC, Cr, eA, bD, ← fk, List.take_of_length_le]
  · skip
    have IY : l.take i = aq l := jZ hi h0 (by
      first
      | exact Or.inl (by have := of_decide_eq_false jl; omega)
      | exact Or.inr (of_decide_eq_false gM)
      | exact Or.inr (of_decide_eq_false gJ)
      | exact Or.inr (of_decide_eq_false o5))
    have fk : R = gO none (aq l) := by rw [hR, IY]
    simp only [List.length_map,ao,go_sem,reduceIte,zA,zB,zC,zD,zE,zF,reduceCtorEq]
    refine hK _ ?_
    simp [mK, lC, oC, Cr, eA, bD, ← fk, List.take_of_length_le]
end Go.Proofs.YtnfeacnbgbggfaaGreatDoor
end

section
namespace Go.Proofs.YtnfeacnbgbggfaaGreatDoor
open Go.Eng

variable [aG]
theorem IZ {a b : ByteArray} (h : ke a b = true) : ke b a = false := by
 rw [nH, decide_eq_true_eq] at h
 rw [nH]
 exact decide_eq_false fun h2 => List.lt_asymm h h2
theorem I1 {a b : ByteArray} (h1 : ke b a = false) (h2 : ke a b = false) : a = b := by
 rw [nH, decide_eq_false_iff_not] at h1 h2
 obtain ⟨⟨x⟩⟩ := a
 obtain ⟨⟨y⟩⟩ := b
 have : x = y := List.le_antisymm (List.not_lt.1 h1) (List.not_lt.1 h2)
 rw [this]
end Go.Proofs.YtnfeacnbgbggfaaGreatDoor
end

section
namespace Go.Proofs.YtnfeacnbgbggfaaGreatDoor
open Go.Eng
open Nat renaming reduceAdd → zA, reduceLT → zB, reduceLeDiff → zC, reduceMul → zD, reduceEqDiff → zE, reduceSub → zF
variable [aG]
set_option maxHeartbeats 4000000
set_option maxRecDepth 100000
theorem I2 {α : Type} {p : α → Bool} {l : List α} (h : ∀ j < l.length, ∀ x, l[j]? = some x → p x = false) : false = l.any p := by
 refine (List.any_eq_false.2 fun x hx => ?_).symm
 obtain ⟨j, hj⟩ := List.mem_iff_getElem?.1 hx
 rw [h j (List.getElem?_eq_some_iff.1 hj).1 x hj]; simp
theorem DF {α : Type} {p : α → Bool} {l : List α} {i : Nat} {x : α} (h : l[i]? = some x) (hp : p x = true) : true = l.any p := (List.any_eq_true.2 ⟨x, List.mem_of_getElem? h, hp⟩).symm
theorem L5 {s : List dD} {i : Nat} {a b : dD} (ha : s[i]? = some a) (hb : s[i + 1]? = some b) (h : ke a.path b.path = false) : false = hZ s := by
 cases hi : hZ s with
 | false => rfl
 | true => rw [(l4 s).1 hi i a b ha hb] at h; cases h
theorem Qn {a b : ByteArray} (h : (Op.bytesLess b.toList a.toList || b.toList == a.toList) = false) : ke a b = true := by
 rw [ao] at h
 simp only [Bool.or_eq_false_iff,decide_eq_false_iff_not] at h
 cases h1 : ke a b with
 | true => rfl
 | false => exact absurd (I1 h1 h.1) h.2
theorem Qo {a b : ByteArray} (h : (Op.bytesLess b.toList a.toList || b.toList == a.toList) = true) : ke a b = false := by
 cases h1 : ke a b with
 | false => rfl
 | true =>
  rw [ao] at h
  simp only [Bool.or_eq_true,decide_eq_true_eq] at h
  rcases h with h | h
  ·have h2 := IZ h1; unfold ke at h2; rw [h] at h2; cases h2
  ·subst h; rw [DC] at h1; cases h1
theorem zW (q : Rq) (r : Rl) (hq : qS q) (hv : r.aC.ok = true) : ∃ r_, (fun w => w = bl (ek q r)) r_ ∧ aP Tryz.prog 91 [al q, ag r] r_ := by
 refine dI tt_ok [] 18 [.tmp 4] (fn := Tryz.f91) Tryz.func91 rfl Tryz.call91 ⟨rfl, rfl, by simp⟩ fun K hK => ?_
 simp only [al,ag,ab]
 simp only [ao,go_sem,reduceIte,zA,zB,zC,zD,zE,zF,reduceCtorEq]
 refine bu tt_ok aD [⟨.n, 0, [], [], []⟩, ⟨.r, 0, [], [], []⟩, ⟨.n, 0, [], [], []⟩, ⟨.r, 0, [], [], []⟩, ⟨.n, 0, [], [], []⟩, ⟨.n, 0, [], [], []⟩, ⟨.n, 0, [], [], []⟩, ⟨.r, 0, [], [], []⟩, ⟨.n, 0, [], [], []⟩, ⟨.r, 0, [], [], []⟩, ⟨.n, 0, [], [], []⟩, ⟨.n, 0, [], [], []⟩, ⟨.n, 0, [], [], []⟩, ⟨.n, 0, [], [], []⟩] 0 (by kernel_rfl) ?_
 simp only [ao,go_sem,reduceIte,zA,zB,zC,zD,zE,zF,reduceCtorEq]
 refine aL (fun tq => ?_) (fun tq => ?_)
 ·simp only [ao,go_sem,reduceIte,zA,zB,zC,zD,zE,zF,reduceCtorEq]
  refine cG (by have h := mI r.aC hv; simp only [bh] at h; exact h) ?_
  rintro _ rfl
  simp only [ao,go_sem,reduceIte,zA,zB,zC,zD,zE,zF,reduceCtorEq]
  refine cG (by have h := C0 q.set r.aC.place hq.2; simp only [ak] at h; exact h) ?_
  rintro _ rfl
  simp only [ao,go_sem,reduceIte,zA,zB,zC,zD,zE,zF,reduceCtorEq]
  exact hK _ (congrArg bl (by unfold ek; simp_all))
 ·simp only [ao,go_sem,reduceIte,zA,zB,zC,zD,zE,zF,reduceCtorEq]
  exact hK _ (congrArg bl (by unfold ek; simp_all))
theorem zX (l : List Rq) (r : Rl) (hl : l.length ≤ 1048576) (hb : ∀ q ∈ l, qS q) (hv : r.aC.ok = true) : ∃ r_, (fun w => w = bl (l.any fun q => ek q r)) r_ ∧ aP Tryz.prog 50 [ah l, ag r] r_ := by
 refine dI tt_ok [] 18 [.tmp 4] (fn := Tryz.f50) Tryz.func50 rfl Tryz.call50 ⟨rfl, rfl, by simp⟩ fun K hK => ?_
 simp only [ag,ab]
 simp only [List.length_map,go_sem,reduceIte,zA,zB,zC,zD,zE,zF,reduceCtorEq]
 refine bA tt_ok [] [5] 1 [0,3] (fun vs => ((l.length : Int) - Go.Eng.intOf (vs.headD .undef)).toNat) (fun vs => ∃ i : Nat, vs = [num i] ∧ i ≤ l.length ∧ ∀ j < i, ∀ x, l[j]? = some x → ek x r = false) (by omega) (by simp only [List.length_map,go_sem,reduceIte,zA,zB,zC,zD,zE,zF,reduceCtorEq]) (⟨0, rfl, Nat.zero_le _, fun j hj => absurd hj (Nat.not_lt_zero j)⟩) fun vs hI Z1 bP => ?_
 obtain ⟨i, rfl, hi, aS⟩ := hI
 simp only [List.length_map,go_sem,reduceIte,zA,zB,zC,zD,zE,zF,reduceCtorEq]
 refine aL (fun gi => ?_) (fun gi => ?_)
 ·have aB : i < l.length := by simpa using gi
  have hw := ax i (by omega)
  obtain ⟨x, hx⟩ : ∃ x, l[i]? = some x := ⟨_, List.getElem?_eq_getElem aB⟩
  simp only [hw,List.getElem?_map,hx,al,List.length_map,go_sem,reduceIte,zA,zB,zC,zD,zE,zF,reduceCtorEq]
  refine bu tt_ok aD [⟨.n, 0, [], [], []⟩, ⟨.n, 0, [], [], []⟩, ⟨.r, 0, [], [], []⟩, ⟨.r, 0, [], [], []⟩, ⟨.r, 0, [], [], []⟩, ⟨.n, 0, [], [], []⟩] 0 (by kernel_rfl) ?_
  simp only [hw,List.getElem?_map,hx,al,List.length_map,go_sem,reduceIte,zA,zB,zC,zD,zE,zF,reduceCtorEq]
  refine cG (by have h := zW x r (hb x (List.mem_of_getElem? hx)) hv; simp only [al,ag,ab,ak,ah] at h; exact h) ?_
  rintro _ rfl
  simp only [hw,List.getElem?_map,hx,al,List.length_map,go_sem,reduceIte,zA,zB,zC,zD,zE,zF,reduceCtorEq]
  refine aL (fun gM => ?_) (fun gM => ?_)
  ·have aw : true = l.any fun q => ek q r := DF hx (by simpa using gM)
   simp only [hw,List.getElem?_map,hx,al,List.length_map,go_sem,reduceIte,zA,zB,zC,zD,zE,zF,reduceCtorEq]
   exact hK _ (congrArg bl aw)
  ·simp only [hw,List.getElem?_map,hx,al,List.length_map,go_sem,reduceIte,zA,zB,zC,zD,zE,zF,reduceCtorEq]
   refine bP _ (cA (by omega) (by simp only [hw,List.getElem?_map,hx,al,List.length_map,go_sem,reduceIte,zA,zB,zC,zD,zE,zF,reduceCtorEq]) ?_ ?_) <;> simp only [fa,lk,reduceIte,zE]
   ·refine ⟨i + 1, rfl, aB, fun j hj => ?_⟩
    rcases Nat.lt_or_ge j i with h | h
    ·exact aS j h
    ·obtain rfl : j = i := by omega
     intro y hy
     rw [hx] at hy; cases hy; simpa using gM
   ·simp only [Go.Eng.intOf,List.headD_cons]; omega
 ·have cB : ¬ i < l.length := by simpa using gi
  have aw : false = l.any fun q => ek q r := I2 fun j hj => aS j (by omega)
  simp only [List.length_map,go_sem,reduceIte,zA,zB,zC,zD,zE,zF,reduceCtorEq]
  exact hK _ (congrArg bl aw)
theorem L6 (q : Rq) (hq : qS q) (s : List dD) (hl : s.length ≤ 1048576) (hv : ∀ y ∈ s, y.aC.ok = true) : ∃ r_, (fun w => w = bl (s.any fun y => decide (y.path = q.path) && has q.set y.aC.place)) r_ ∧ aP Tryz.prog 54 [al q, aZ s] r_ := by
 refine dI tt_ok [] 31 [.tmp 4] (fn := Tryz.f54) Tryz.func54 rfl Tryz.call54 ⟨rfl, rfl, by simp⟩ fun K hK => ?_
 simp only [al]
 simp only [List.length_map,ao,go_sem,reduceIte,zA,zB,zC,zD,zE,zF,reduceCtorEq]
 refine bA tt_ok [] [5] 1 [1,2] (fun vs => ((s.length : Int) - Go.Eng.intOf (vs.headD .undef)).toNat) (fun vs => ∃ i : Nat, vs = [num i] ∧ i ≤ s.length ∧ ∀ j < i, ∀ x, s[j]? = some x → (decide (x.path = q.path) && has q.set x.aC.place) = false) (by omega) (by simp only [List.length_map,ao,go_sem,reduceIte,zA,zB,zC,zD,zE,zF,reduceCtorEq]) (⟨0, rfl, Nat.zero_le _, fun j hj => absurd hj (Nat.not_lt_zero j)⟩) fun vs hI Z1 bP => ?_
 obtain ⟨i, rfl, hi, aS⟩ := hI
 simp only [List.length_map,ao,go_sem,reduceIte,zA,zB,zC,zD,zE,zF,reduceCtorEq]
 refine aL (fun gi => ?_) (fun gi => ?_)
 ·have aB : i < s.length := by simpa using gi
  have hw := ax i (by omega)
  obtain ⟨x, hx⟩ : ∃ x, s[i]? = some x := ⟨_, List.getElem?_eq_getElem aB⟩
  simp only [hw,List.getElem?_map,hx,aI,List.length_map,ao,go_sem,reduceIte,zA,zB,zC,zD,zE,zF,reduceCtorEq]
  refine bu tt_ok aD [⟨.n, 0, [], [], []⟩, ⟨.n, 0, [], [], []⟩, ⟨.r, 0, [], [], []⟩, ⟨.n, 0, [], [], []⟩, ⟨.r, 0, [], [], []⟩, ⟨.n, 0, [], [], []⟩, ⟨.r, 0, [], [], []⟩, ⟨.n, 0, [], [], []⟩, ⟨.n, 0, [], [], []⟩, ⟨.n, 0, [], [], []⟩, ⟨.r, 0, [], [], []⟩, ⟨.n, 0, [], [], []⟩, ⟨.n, 0, [], [], []⟩, ⟨.r, 0, [], [], []⟩, ⟨.n, 0, [], [], []⟩, ⟨.r, 0, [], [], []⟩, ⟨.n, 0, [], [], []⟩, ⟨.n, 0, [], [], []⟩, ⟨.n, 0, [], [], []⟩] 0 (by kernel_rfl) ?_
  simp only [hw,List.getElem?_map,hx,aI,List.length_map,ao,go_sem,reduceIte,zA,zB,zC,zD,zE,zF,reduceCtorEq]
  refine aL (fun Hn => ?_) (fun Hn => ?_)
  ·simp only [hw,List.getElem?_map,hx,aI,List.length_map,ao,go_sem,reduceIte,zA,zB,zC,zD,zE,zF,reduceCtorEq]
   refine cG (by have h := mI x.aC (hv x (List.mem_of_getElem? hx)); simp only [bh] at h; exact h) ?_
   rintro _ rfl
   simp only [hw,List.getElem?_map,hx,aI,List.length_map,ao,go_sem,reduceIte,zA,zB,zC,zD,zE,zF,reduceCtorEq]
   refine cG (by have h := C0 q.set x.aC.place hq.2; simp only [ak] at h; exact h) ?_
   rintro _ rfl
   simp only [hw,List.getElem?_map,hx,aI,List.length_map,ao,go_sem,reduceIte,zA,zB,zC,zD,zE,zF,reduceCtorEq]
   refine aL (fun Xk => ?_) (fun Xk => ?_)
   ·have aw : true = s.any fun y => decide (y.path = q.path) && has q.set y.aC.place := DF hx (by simp_all)
    simp only [hw,List.getElem?_map,hx,aI,List.length_map,ao,go_sem,reduceIte,zA,zB,zC,zD,zE,zF,reduceCtorEq]
    exact hK _ (congrArg bl aw)
   ·simp only [hw,List.getElem?_map,hx,aI,List.length_map,ao,go_sem,reduceIte,zA,zB,zC,zD,zE,zF,reduceCtorEq]
    refine bP _ (cA (by omega) (by simp only [hw,List.getElem?_map,hx,aI,List.length_map,ao,go_sem,reduceIte,zA,zB,zC,zD,zE,zF,reduceCtorEq]) ?_ ?_) <;> simp only [fa,lk,reduceIte,zE]
    ·refine ⟨i + 1, rfl, aB, fun j hj => ?_⟩
     rcases Nat.lt_or_ge j i with h | h
     ·exact aS j h
     ·obtain rfl : j = i := by omega
      intro y hy
      rw [hx] at hy; cases hy; simp_all
    ·simp only [Go.Eng.intOf,List.headD_cons]; omega
  ·simp only [hw,List.getElem?_map,hx,aI,List.length_map,ao,go_sem,reduceIte,zA,zB,zC,zD,zE,zF,reduceCtorEq]
   refine bP _ (cA (by omega) (by simp only [hw,List.getElem?_map,hx,aI,List.length_map,ao,go_sem,reduceIte,zA,zB,zC,zD,zE,zF,reduceCtorEq]) ?_ ?_) <;> simp only [fa,lk,reduceIte,zE]
   ·refine ⟨i + 1, rfl, aB, fun j hj => ?_⟩
    rcases Nat.lt_or_ge j i with h | h
    ·exact aS j h
    ·obtain rfl : j = i := by omega
     intro y hy
     rw [hx] at hy; cases hy; simp_all
   ·simp only [Go.Eng.intOf,List.headD_cons]; omega
 ·have cB : ¬ i < s.length := by simpa using gi
  have aw : false = s.any fun y => decide (y.path = q.path) && has q.set y.aC.place := I2 fun j hj => aS j (by omega)
  simp only [List.length_map,ao,go_sem,reduceIte,zA,zB,zC,zD,zE,zF,reduceCtorEq]
  exact hK _ (congrArg bl aw)
theorem I3 (s : List dD) (hl : s.length ≤ 1048576) : ∃ r_, (fun w => w = bl (hZ s)) r_ ∧ aP Tryz.prog 53 [aZ s] r_ := by
 refine dI tt_ok [] 22 [.tmp 2] (fn := Tryz.f53) Tryz.func53 rfl Tryz.call53 ⟨rfl, rfl, by simp⟩ fun K hK => ?_
 simp only [List.length_map,aR,go_sem,reduceIte,zA,zB,zC,zD,zE,zF,reduceCtorEq]
 refine bA tt_ok [] [3] 0 [0] (fun vs => ((s.length : Int) + 1 - Go.Eng.intOf (vs.headD .undef)).toNat) (fun vs => ∃ i : Nat, vs = [num (i + 1 : Nat)] ∧ i ≤ s.length ∧ ∀ j < i, ∀ a b, s[j]? = some a → s[j + 1]? = some b → ke a.path b.path = true) (by omega) (by simp only [List.length_map,aR,go_sem,reduceIte,zA,zB,zC,zD,zE,zF,reduceCtorEq]) (⟨0, rfl, Nat.zero_le _, fun j hj => absurd hj (Nat.not_lt_zero j)⟩) fun vs hI Z1 bP => ?_
 obtain ⟨i, rfl, hi, aS⟩ := hI
 simp only [List.length_map,aR,go_sem,reduceIte,zA,zB,zC,zD,zE,zF,reduceCtorEq]
 refine aL (fun Bh => ?_) (fun Bh => ?_)
 ·have Xl : i + 1 < s.length := by have := of_decide_eq_true Bh; omega
  have aB : i < s.length := by omega
  have hw := ax (i + 1) (by omega)
  have dT : IntKind.i64.wrap (((i + 1 : Nat) : Int) - 1) = (i : Int) := jf _ i (by omega) (by omega)
  obtain ⟨x, hx⟩ : ∃ x, s[i]? = some x := ⟨_, List.getElem?_eq_getElem aB⟩
  obtain ⟨y, hy⟩ : ∃ y, s[i + 1]? = some y := ⟨_, List.getElem?_eq_getElem Xl⟩
  simp only [hw,dT,List.getElem?_map,hx,hy,aI,List.length_map,aR,go_sem,reduceIte,zA,zB,zC,zD,zE,zF,reduceCtorEq]
  refine bu tt_ok aD [⟨.n, 0, [], [], []⟩, ⟨.n, 0, [], [], []⟩, ⟨.r, 0, [], [], []⟩, ⟨.n, 0, [], [], []⟩, ⟨.r, 0, [], [], []⟩, ⟨.n, 0, [], [], []⟩, ⟨.n, 0, [], [], []⟩, ⟨.n, 0, [], [], []⟩, ⟨.r, 0, [], [], []⟩, ⟨.n, 0, [], [], []⟩, ⟨.r, 0, [], [], []⟩, ⟨.n, 0, [], [], []⟩] 0 (by kernel_rfl) ?_
  simp only [hw,dT,List.getElem?_map,hx,hy,aI,List.length_map,aR,go_sem,reduceIte,zA,zB,zC,zD,zE,zF,reduceCtorEq]
  refine aL (fun eW => ?_) (fun eW => ?_)
  ·have aw : false = hZ s := L5 hx hy (Qo (by simpa using eW))
   simp only [hw,dT,List.getElem?_map,hx,hy,aI,List.length_map,aR,go_sem,reduceIte,zA,zB,zC,zD,zE,zF,reduceCtorEq]
   exact hK _ (congrArg bl aw)
  ·simp only [hw,dT,List.getElem?_map,hx,hy,aI,List.length_map,aR,go_sem,reduceIte,zA,zB,zC,zD,zE,zF,reduceCtorEq]
   refine bP _ (cA (by omega) (by simp only [hw,dT,List.getElem?_map,hx,hy,aI,List.length_map,aR,go_sem,reduceIte,zA,zB,zC,zD,zE,zF,reduceCtorEq]) ?_ ?_) <;> simp only [fa,lk,reduceIte,zE]
   ·refine ⟨i + 1, rfl, by omega, fun j hj => ?_⟩
    rcases Nat.lt_or_ge j i with h | h
    ·exact aS j h
    ·obtain rfl : j = i := by omega
     intro a b ha hb
     rw [hx] at ha; rw [hy] at hb; cases ha; cases hb
     exact Qn (by simpa using eW)
   ·simp only [Go.Eng.intOf,List.headD_cons]; omega
 ·have cB : ¬ i + 1 < s.length := by have := of_decide_eq_false Bh; omega
  have aw : true = hZ s := ((l4 s).2 fun j a b ha hb => aS j (by have := (List.getElem?_eq_some_iff.1 hb).1; omega) a b ha hb).symm
  simp only [List.length_map,aR,go_sem,reduceIte,zA,zB,zC,zD,zE,zF,reduceCtorEq]
  exact hK _ (congrArg bl aw)
theorem Fs (s t : List dD) (hl : s.length ≤ 1048576) : ∃ r_, (fun w => w = bl (decide (s = t))) r_ ∧ aP Tryz.prog 12 [aZ s, aZ t] r_ := by
 refine dI tt_ok [] 26 [.tmp 4] (fn := Tryz.f12) Tryz.func12 rfl Tryz.call12 ⟨rfl, rfl, by simp⟩ fun K hK => ?_
 simp only [List.length_map,eH,go_sem,reduceIte,zA,zB,zC,zD,zE,zF,reduceCtorEq]
 refine aL (fun cE => ?_) (fun cE => ?_)
 ·have aw : false = decide (s = t) := by
   refine (decide_eq_false fun e => ?_).symm
   subst e; simp at cE
  simp only [List.length_map,eH,go_sem,reduceIte,zA,zB,zC,zD,zE,zF,reduceCtorEq]
  exact hK _ (congrArg bl aw)
 ·have gG : s.length = t.length := by have := cE; simp at this; omega
  simp only [List.length_map,eH,go_sem,reduceIte,zA,zB,zC,zD,zE,zF,reduceCtorEq]
  refine bA tt_ok [] [5] 0 [0,1,10] (fun vs => ((s.length : Int) - Go.Eng.intOf (vs.headD .undef)).toNat) (fun vs => ∃ i : Nat, vs = [num i] ∧ i ≤ s.length ∧ ∀ j < i, s[j]? = t[j]?) (by omega) (by simp only [List.length_map,eH,go_sem,reduceIte,zA,zB,zC,zD,zE,zF,reduceCtorEq]) (⟨0, rfl, Nat.zero_le _, fun j hj => absurd hj (Nat.not_lt_zero j)⟩) fun vs hI Z1 bP => ?_
  obtain ⟨i, rfl, hi, aS⟩ := hI
  simp only [List.length_map,eH,go_sem,reduceIte,zA,zB,zC,zD,zE,zF,reduceCtorEq]
  refine aL (fun cq => ?_) (fun cq => ?_)
  ·have aB : i < s.length := by simpa using cq
   have hw := ax i (by omega)
   obtain ⟨x, hx⟩ : ∃ x, s[i]? = some x := ⟨_, List.getElem?_eq_getElem aB⟩
   obtain ⟨y, hy⟩ : ∃ y, t[i]? = some y := ⟨_, List.getElem?_eq_getElem (by omega)⟩
   simp only [hw,List.getElem?_map,hx,hy,aI,List.length_map,eH,go_sem,reduceIte,zA,zB,zC,zD,zE,zF,reduceCtorEq]
   refine bu tt_ok aD [⟨.n, 0, [], [], []⟩, ⟨.n, 0, [], [], []⟩, ⟨.r, 0, [], [], []⟩, ⟨.r, 0, [], [], []⟩, ⟨.n, 0, [], [], []⟩, ⟨.n, 0, [], [], []⟩, ⟨.r, 0, [], [], []⟩, ⟨.r, 0, [], [], []⟩, ⟨.n, 0, [], [], []⟩] 0 (by kernel_rfl) ?_
   simp only [hw,List.getElem?_map,hx,hy,aI,List.length_map,eH,go_sem,reduceIte,zA,zB,zC,zD,zE,zF,reduceCtorEq]
   refine aL (fun fu => ?_) (fun fu => ?_)
   ·have aw : false = decide (s = t) := by
     refine (decide_eq_false fun e => ?_).symm
     subst e; rw [hx] at hy; cases hy; simp at fu
    simp only [hw,List.getElem?_map,hx,hy,aI,List.length_map,eH,go_sem,reduceIte,zA,zB,zC,zD,zE,zF,reduceCtorEq]
    exact hK _ (congrArg bl aw)
   ·simp only [hw,List.getElem?_map,hx,hy,aI,List.length_map,eH,go_sem,reduceIte,zA,zB,zC,zD,zE,zF,reduceCtorEq]
    refine bP _ (cA (by omega) (by simp only [hw,List.getElem?_map,hx,hy,aI,List.length_map,eH,go_sem,reduceIte,zA,zB,zC,zD,zE,zF,reduceCtorEq]) ?_ ?_) <;> simp only [fa,lk,reduceIte,zE]
    ·refine ⟨i + 1, rfl, aB, fun j hj => ?_⟩
     rcases Nat.lt_or_ge j i with h | h
     ·exact aS j h
     ·obtain rfl : j = i := by omega
      rw [hx, hy]
      have := fu
      simp_all
    ·simp only [Go.Eng.intOf,List.headD_cons]; omega
  ·have cB : ¬ i < s.length := by simpa using cq
   have aw : true = decide (s = t) := (decide_eq_true (gk gG fun j hj => aS j (by omega))).symm
   simp only [List.length_map,eH,go_sem,reduceIte,zA,zB,zC,zD,zE,zF,reduceCtorEq]
   exact hK _ (congrArg bl aw)
end Go.Proofs.YtnfeacnbgbggfaaGreatDoor
end

section
namespace Go.Proofs.YtnfeacnbgbggfaaGreatDoor
open Go.Eng
open Nat renaming reduceAdd → zA, reduceLT → zB, reduceLeDiff → zC, reduceMul → zD, reduceEqDiff → zE, reduceSub → zF
variable [aG]
set_option maxHeartbeats 4000000
set_option maxRecDepth 100000
def DG (l : List Rl) (B : List Bool) (r : Rl) : Nat → Bool
 | 0 => false
 | k + 1 => DG l B r k || (match l[k]?, B[k]? with | some y, some b => b && y.reqs.any fun q => ek q r | _, _ => false)
theorem I4 {l : List Rl} {B : List Bool} {k : Nat} {y : Rl} {b : Bool} (hy : l[k]? = some y) (hb : B[k]? = some b) (r : Rl) : DG l B r (k + 1) = (DG l B r k || (b && y.reqs.any fun q => ek q r)) := by simp only [DG,hy,hb]
theorem xn {l : List Rl} {B : List Bool} {r : Rl} : ∀ {n : Nat}, DG l B r n = true ↔ ∃ k < n, ∃ y, l[k]? = some y ∧ B[k]? = some true ∧ (y.reqs.any fun q => ek q r) = true
 | 0 => by simp [DG]
 | n + 1 => by
  simp only [DG,Bool.or_eq_true,xn (n := n)]
  constructor
  ·rintro (⟨k, hk, h⟩ | h)
   ·exact ⟨k, by omega, h⟩
   ·split at h
    ·rename_i y b hy hb
     rw [Bool.and_eq_true] at h
     refine ⟨n, by omega, y, hy, ?_, h.2⟩
     rw [hb, h.1]
    ·cases h
  ·rintro ⟨k, hk, y, hy, hb, h⟩
   rcases Nat.lt_or_ge k n with jA | jA
   ·exact .inl ⟨k, jA, y, hy, hb, h⟩
   ·obtain rfl : k = n := by omega
    right
    simp only [hy,hb,h,Bool.and_self]
def xp (B : List Bool) : Nat := (B.filter fun b => !b).length
theorem DH : ∀ {B : List Bool} {i : Nat}, B[i]? = some false → xp (B.set i true) < xp B
 | [], i, h => by simp at h
 | b :: B, 0, h => by simp at h; subst h; simp [xp]
 | b :: B, i + 1, h => by
  have := DH (B := B) (i := i) (by simpa using h)
  unfold xp at this ⊢
  rw [List.set_cons_succ, List.filter_cons, List.filter_cons]
  split <;> simp <;> omega
def I5 (l : List Rl) (roots : List Rq) (B : List Bool) : Prop := B.length = l.length ∧ ∀ (k : Nat) (r : Rl), l[k]? = some r → B[k]? = some true → oY l roots r
def JS (l : List Rl) (roots : List Rq) (B : List Bool) (n : Nat) : Prop := ∀ j < n, ∀ r, l[j]? = some r → ((roots.any fun q => ek q r) || DG l B r l.length) = true → B[j]? = some true
theorem I5.step {l : List Rl} {roots : List Rq} {B : List Bool} (h : I5 l roots B) {i : Nat} {x : Rl} (hx : l[i]? = some x) (hr : ((roots.any fun q => ek q x) || DG l B x l.length) = true) : I5 l roots (B.set i true) := by
 refine ⟨by rw [List.length_set]; exact h.1, fun k r hk hb => ?_⟩
 by_cases e : i = k
 ·subst e
  rw [hx] at hk; cases hk
  rcases Bool.or_eq_true _ _ ▸ hr with h1 | h1
  ·obtain ⟨q, hq, hh⟩ := List.any_eq_true.1 h1
   exact .root q x hq (List.mem_of_getElem? hx) hh
  ·obtain ⟨k, -, y, hy, si, h2⟩ := xn.1 h1
   obtain ⟨q, hq, hh⟩ := List.any_eq_true.1 h2
   exact .step y q x (h.2 k y hy si) hq (List.mem_of_getElem? hx) hh
 ·rw [List.getElem?_set_ne e] at hb
  exact h.2 k r hk hb
theorem I5.fin {l : List Rl} {roots : List Rq} {B : List Bool} (h : I5 l roots B) (hc : JS l roots B l.length) {k : Nat} {r : Rl} (hk : l[k]? = some r) : B[k]? = some true ↔ oY l roots r := by
 refine ⟨h.2 k r hk, fun hr => ?_⟩
 have key : ∀ r, oY l roots r → ∀ k : Nat, l[k]? = some r → B[k]? = some true := by
  intro r hr
  induction hr with
  | root q r hq hr hh => exact fun k hk => hc k (List.getElem?_eq_some_iff.1 hk).1 r hk (by rw [List.any_eq_true.2 ⟨q, hq, hh⟩]; rfl)
  | step a q r ha hq hr hh ih =>
   intro k hk
   obtain ⟨j, hj⟩ := List.mem_iff_getElem?.1 ha.mem
   refine hc k (List.getElem?_eq_some_iff.1 hk).1 r hk ?_
   rw [xn.2 ⟨j, (List.getElem?_eq_some_iff.1 hj).1, a, hj, ih j hj, List.any_eq_true.2 ⟨q, hq, hh⟩⟩, Bool.or_true]
 exact key r hr k hk
def mU : List Rl → List Bool → List dD
 | r :: l, b :: B => if b = true then r.key :: mU l B else mU l B
 | _, _ => []
theorem DI : ∀ {l : List Rl} {B : List Bool} {p : Rl → Bool}, B.length = l.length → (∀ (k : Nat) (r : Rl), l[k]? = some r → (B[k]? = some true ↔ p r = true)) → mU l B = (l.filter p).map Rl.key
 | [], B, p, h, _ => by cases B with | nil => rfl | cons b B => cases h
 | r :: l, [], p, h, _ => by cases h
 | r :: l, b :: B, p, h, hp => by
  have h0 := hp 0 r rfl
  have ih := DI (l := l) (B := B) (p := p) (by simpa using h) fun k r hk => by simpa using hp (k + 1) r (by simpa using hk)
  simp only [mU,List.filter_cons]
  simp only [List.getElem?_cons_zero,Option.some.injEq] at h0
  cases b with
  | true => rw [if_pos rfl, if_pos (h0.1 rfl), List.map_cons, ih]
  | false => rw [if_neg (by simp), if_neg (fun e => by cases h0.2 e), ih]
theorem vC : ∀ {l : List Rl} {B : List Bool} {i : Nat} {r : Rl} {b : Bool}, l[i]? = some r → B[i]? = some b → mU (l.take (i + 1)) (B.take (i + 1)) = mU (l.take i) (B.take i) ++ (if b = true then [r.key] else [])
 | [], B, i, r, b, h, _ => by simp at h
 | a :: l, [], i, r, b, _, h => by simp at h
 | a :: l, c :: B, 0, r, b, h, h2 => by simp at h h2; subst h; subst h2; cases c <;> simp [mU]
 | a :: l, c :: B, i + 1, r, b, h, h2 => by
  have ih := vC (l := l) (B := B) (i := i) (by simpa using h) (by simpa using h2)
  rw [List.take_succ_cons, List.take_succ_cons, List.take_succ_cons, List.take_succ_cons]
  simp only [mU]
  rw [ih]
  cases c <;> simp
theorem zY : ∀ (l : List Rl) (B : List Bool), (mU l B).length ≤ l.length
 | [], B => by simp [mU]
 | r :: l, [] => by simp [mU]
 | r :: l, b :: B => by
  have := zY l B
  simp only [mU]
  split <;> simp <;> omega
theorem L7 (k : Nat) (hk : k ≤ 1048576) : nc tt 88 (num (k : Int)) (num (k : Int)) = some (1, (List.replicate k false).map bl, k) := by
 unfold nc
 simp only [dz,Se,XL]
 rw [if_pos (by refine ⟨by omega, by omega, by omega, by omega, by decide, ?_⟩; simp [Value.oneCell']), List.map_replicate]
 simp only [Int.toNat_natCast]
 rfl
theorem vD (l : List Rl) (I : List V) (hb : tY l) (roots : List Rq) (hr : roots.length ≤ 1048576) (E7 : ∀ q ∈ roots, qS q) : ∃ r_, (fun w => w = aZ ((bX (aq l) roots).map Rl.key)) r_ ∧ aP Tryz.prog 14 [bm l I, ah roots] r_ := by
 refine dI tt_ok [] 102 [.tmp 4] (fn := Tryz.f14) Tryz.func14 rfl Tryz.call14 ⟨rfl, rfl, by simp⟩ fun K hK => ?_
 simp only [bm,aY]
 have w6 := hb.1
 simp only [List.length_map,go_sem,reduceIte,zA,zB,zC,zD,zE,zF,reduceCtorEq]
 refine cF (by have h := im l I hb; simp only [bm,aY] at h; exact h) ?_
 rintro _ rfl
 simp only [List.length_map,go_sem,reduceIte,zA,zB,zC,zD,zE,zF,reduceCtorEq]
 refine aL (fun cq => ?_) (fun cq => ?_)
 ·have c6 : dK l ≠ 0 := by simpa using cq
  have fk : bX (aq l) roots = [] := by unfold aq bX; rw [if_neg c6]; rfl
  simp only [List.length_map,go_sem,reduceIte,zA,zB,zC,zD,zE,zF,reduceCtorEq]
  first
   | (refine hK _ ?_; rw [fk]; rfl)
   | (refine hK _ ?_; rw [← fk]; rfl)
 ·have jF : dK l = 0 := by simpa using cq
  have hgd : aq l = l := if_pos jF
  have fQ := L7 l.length w6
  simp only [fQ,List.length_replicate,List.length_map,go_sem,reduceIte,zA,zB,zC,zD,zE,zF,reduceCtorEq]
  refine ct tt_ok [] (fun a : Bool × List Bool => [(1, .slice (roots.map al)), (2, .ptr 0 0), (5, .ms 1 0 0 l.length), (6, bl a.1)]) (fun a : Bool × List Bool => [.box [.slice (l.map ag), .slice I], .rows 0 1 (a.2.map bl)]) (fun a => 2 * xp a.2 + a.1.toNat) (fun a => I5 l roots a.2 ∧ (a.1 = false → JS l roots a.2 l.length)) ((true, List.replicate l.length false)) 2 (ba (by omega) (by simp only [fQ,List.length_replicate,List.length_map,Int.cast_ofNat_Int,go_sem,reduceIte,zA,zB,zC,zD,zE,zF,reduceCtorEq] <;> rfl)) (⟨⟨List.length_replicate, fun k r _ h => by rw [List.getElem?_replicate] at h; split at h <;> cases h⟩, fun h => by cases h⟩) ?_
  rintro ⟨c, B⟩ ⟨hS, hC⟩
  try dsimp only at hS hC
  try dsimp only
  intro Z1 bP
  simp only [fQ,List.length_replicate,List.length_map,go_sem,reduceIte,zA,zB,zC,zD,zE,zF,reduceCtorEq]
  refine aL (fun nI => ?_) (fun nI => ?_)
  ·have Qe : c = true := nI
   simp only [fQ,List.length_replicate,List.length_map,go_sem,reduceIte,zA,zB,zC,zD,zE,zF,reduceCtorEq]
   refine ct tt_ok [] (fun b : Nat × Bool × List Bool => [(1, .slice (roots.map al)), (2, .ptr 0 0), (5, .ms 1 0 0 l.length), (6, bl b.2.1), (7, num b.1)]) (fun b : Nat × Bool × List Bool => [.box [.slice (l.map ag), .slice I], .rows 0 1 (b.2.2.map bl)]) (fun b => l.length - b.1) (fun b => b.1 ≤ l.length ∧ I5 l roots b.2.2 ∧ (b.2.1 = false → b.2.2 = B ∧ JS l roots B b.1) ∧ (b.2.1 = true → xp b.2.2 < xp B)) ((0, false, B)) 2 (ba (by omega) (by simp only [fQ,List.length_replicate,List.length_map,Int.cast_ofNat_Int,go_sem,reduceIte,zA,zB,zC,zD,zE,zF,reduceCtorEq] <;> rfl)) (⟨Nat.zero_le _, hS, fun _ => ⟨rfl, fun j hj => absurd hj (Nat.not_lt_zero j)⟩, fun h => by cases h⟩) ?_
   rintro ⟨i, c2, B2⟩ ⟨hi, Jq, Ra, ei⟩
   try dsimp only at hi Jq Ra ei
   try dsimp only
   intro Z2 mP
   simp only [fQ,List.length_replicate,List.length_map,go_sem,reduceIte,zA,zB,zC,zD,zE,zF,reduceCtorEq]
   refine aL (fun iQ => ?_) (fun iQ => ?_)
   ·have aB : i < l.length := by simpa using iQ
    have hw := ax i (by omega)
    obtain ⟨x, hx⟩ : ∃ x, l[i]? = some x := ⟨_, List.getElem?_eq_getElem aB⟩
    have rI := List.mem_of_getElem? hx
    have bM : x.aC.ok = true := IW (IX jF rI)
    have n9 : (i : Int) < (l.length : Int) := by omega
    simp only [fQ,List.length_replicate,hw,List.getElem?_map,hx,ag,ab,n9,List.length_map,go_sem,reduceIte,zA,zB,zC,zD,zE,zF,reduceCtorEq]
    refine cF (by have h := zX roots x hr E7 bM; simp only [ag,ab,ah] at h; exact h) ?_
    rintro _ rfl
    simp only [fQ,List.length_replicate,hw,List.getElem?_map,hx,ag,ab,n9,List.length_map,go_sem,reduceIte,zA,zB,zC,zD,zE,zF,reduceCtorEq]
    refine bA tt_ok [] [9,8] 2 [1,2,4,5,6,7,14,19,20,21,22,23,24,27,28,29,30,31,32,33] (fun vs => ((l.length : Int) - Go.Eng.intOf (vs.headD .undef)).toNat) (fun vs => ∃ k : Nat, vs = [num k, bl ((roots.any fun q => ek q x) || DG l B2 x k)] ∧ k ≤ l.length) (by omega) (by simp only [fQ,List.length_replicate,hw,List.getElem?_map,hx,ag,ab,n9,List.length_map,go_sem,reduceIte,zA,zB,zC,zD,zE,zF,reduceCtorEq]) (⟨0, by simp only [DG,Bool.or_false]; rfl, Nat.zero_le _⟩) fun vs hI Z3 w4 => ?_
    obtain ⟨k, rfl, hk⟩ := hI
    simp only [fQ,List.length_replicate,hw,List.getElem?_map,hx,ag,ab,n9,List.length_map,go_sem,reduceIte,zA,zB,zC,zD,zE,zF,reduceCtorEq]
    refine aL (fun jy => ?_) (fun jy => ?_)
    ·have cM : k < l.length := by simpa using jy
     have zO := ax k (by omega)
     obtain ⟨y, hy⟩ : ∃ y, l[k]? = some y := ⟨_, List.getElem?_eq_getElem cM⟩
     obtain ⟨bk, dX⟩ : ∃ b, B2[k]? = some b := ⟨_, List.getElem?_eq_getElem (by rw [Jq.1]; exact cM)⟩
     have WQ := hb.2 y (List.mem_of_getElem? hy)
     have Xm := I4 hy dX x
     have bR : (k : Int) < (l.length : Int) := by omega
     simp only [fQ,List.length_replicate,hw,List.getElem?_map,hx,ag,ab,n9,zO,hy,dX,bR,List.length_map,go_sem,reduceIte,zA,zB,zC,zD,zE,zF,reduceCtorEq]
     refine bu tt_ok aD [⟨.n, 0, [], [], []⟩, ⟨.n, 0, [], [], []⟩, ⟨.n, 0, [], [], []⟩, ⟨.n, 0, [], [], []⟩, ⟨.r, 0, [], [], []⟩, ⟨.r, 0, [], [], []⟩, ⟨.n, 0, [], [], []⟩, ⟨.n, 0, [], [], []⟩, ⟨.r, 0, [], [], []⟩, ⟨.n, 0, [], [], []⟩, ⟨.r, 0, [], [], []⟩, ⟨.n, 0, [], [], []⟩, ⟨.r, 0, [], [], []⟩, ⟨.n, 0, [], [], []⟩, ⟨.r, 0, [], [], []⟩, ⟨.n, 0, [], [], []⟩, ⟨.r, 0, [], [], []⟩, ⟨.r, 0, [], [], []⟩, ⟨.n, 0, [], [], []⟩, ⟨.n, 0, [], [], []⟩, ⟨.n, 0, [], [], []⟩, ⟨.n, 0, [], [], []⟩] 0 (by kernel_rfl) ?_
     simp only [fQ,List.length_replicate,hw,List.getElem?_map,hx,ag,ab,n9,zO,hy,dX,bR,List.length_map,go_sem,reduceIte,zA,zB,zC,zD,zE,zF,reduceCtorEq]
     refine aL (fun xq => ?_) (fun xq => ?_)
     ·have T3 : true = ((roots.any fun q => ek q x) || DG l B2 x (k + 1)) := by rw [Xm, ← Bool.or_assoc, xq, Bool.true_or]
      simp only [fQ,List.length_replicate,hw,List.getElem?_map,hx,ag,ab,n9,zO,hy,dX,bR,List.length_map,go_sem,reduceIte,zA,zB,zC,zD,zE,zF,reduceCtorEq]
      refine w4 _ (cA (by omega) (by simp only [fQ,List.length_replicate,hw,List.getElem?_map,hx,ag,ab,n9,zO,hy,dX,bR,List.length_map,go_sem,reduceIte,zA,zB,zC,zD,zE,zF,reduceCtorEq]) ?_ ?_) <;> simp only [fa,lk,reduceIte,zE]
      ·exact ⟨k + 1, by rw [← T3] <;> rfl, cM⟩
      ·simp only [Go.Eng.intOf,List.headD_cons]; omega
     ·simp only [fQ,List.length_replicate,hw,List.getElem?_map,hx,ag,ab,n9,zO,hy,dX,bR,List.length_map,go_sem,reduceIte,zA,zB,zC,zD,zE,zF,reduceCtorEq]
      refine aL (fun Cd => ?_) (fun Cd => ?_)
      ·have T3 : (y.reqs.any fun q => ek q x) = ((roots.any fun q => ek q x) || DG l B2 x (k + 1)) := by rw [Xm, ← Bool.or_assoc, xq, Cd, Bool.false_or, Bool.true_and]
       simp only [fQ,List.length_replicate,hw,List.getElem?_map,hx,ag,ab,n9,zO,hy,dX,bR,List.length_map,go_sem,reduceIte,zA,zB,zC,zD,zE,zF,reduceCtorEq]
       refine cG (by have h := zX y.reqs x WQ.2.1 WQ.2.2 bM; simp only [ag,ab,ah] at h; exact h) ?_
       rintro _ rfl
       simp only [fQ,List.length_replicate,hw,List.getElem?_map,hx,ag,ab,n9,zO,hy,dX,bR,List.length_map,go_sem,reduceIte,zA,zB,zC,zD,zE,zF,reduceCtorEq]
       refine w4 _ (cA (by omega) (by simp only [fQ,List.length_replicate,hw,List.getElem?_map,hx,ag,ab,n9,zO,hy,dX,bR,List.length_map,go_sem,reduceIte,zA,zB,zC,zD,zE,zF,reduceCtorEq]) ?_ ?_) <;> simp only [fa,lk,reduceIte,zE]
       ·exact ⟨k + 1, by rw [← T3] <;> rfl, cM⟩
       ·simp only [Go.Eng.intOf,List.headD_cons]; omega
      ·have T3 : false = ((roots.any fun q => ek q x) || DG l B2 x (k + 1)) := by rw [Xm, ← Bool.or_assoc, xq, Cd]; rfl
       simp only [fQ,List.length_replicate,hw,List.getElem?_map,hx,ag,ab,n9,zO,hy,dX,bR,List.length_map,go_sem,reduceIte,zA,zB,zC,zD,zE,zF,reduceCtorEq]
       refine w4 _ (cA (by omega) (by simp only [fQ,List.length_replicate,hw,List.getElem?_map,hx,ag,ab,n9,zO,hy,dX,bR,List.length_map,go_sem,reduceIte,zA,zB,zC,zD,zE,zF,reduceCtorEq]) ?_ ?_) <;> simp only [fa,lk,reduceIte,zE]
       ·exact ⟨k + 1, by rw [← T3] <;> rfl, cM⟩
       ·simp only [Go.Eng.intOf,List.headD_cons]; omega
    ·have RU : k = l.length := by have := of_decide_eq_false jy; omega
     subst RU
     obtain ⟨bi, Ft⟩ : ∃ b, B2[i]? = some b := ⟨_, List.getElem?_eq_getElem (by rw [Jq.1]; exact aB)⟩
     simp only [fQ,List.length_replicate,hw,List.getElem?_map,hx,ag,ab,n9,Ft,List.length_map,go_sem,reduceIte,zA,zB,zC,zD,zE,zF,reduceCtorEq]
     refine aL (fun xr => ?_) (fun xr => ?_)
     ·simp only [fQ,List.length_replicate,hw,List.getElem?_map,hx,ag,ab,n9,Ft,List.length_map,go_sem,reduceIte,zA,zB,zC,zD,zE,zF,reduceCtorEq]
      refine aL (fun Ce => ?_) (fun Ce => ?_)
      ·have yF : bi = false := by simpa using Ce
       subst yF
       let nk : Nat × Bool × List Bool := (i + 1, true, B2.set i true)
       have Ve := DH Ft
       have hB : nk.1 ≤ l.length ∧ I5 l roots nk.2.2 ∧ (nk.2.1 = false → nk.2.2 = B ∧ JS l roots B nk.1) ∧ (nk.2.1 = true → xp nk.2.2 < xp B) := by
        refine ⟨aB, Jq.step hx xr, fun h => (by cases h), fun _ => ?_⟩
        show xp (B2.set i true) < xp B
        cases uD : c2 with
        | true => have := ei uD; omega
        | false => obtain ⟨rfl, -⟩ := Ra uD; exact Ve
       simp only [fQ,List.length_replicate,hw,List.getElem?_map,hx,ag,ab,n9,Ft,List.length_map,go_sem,reduceIte,zA,zB,zC,zD,zE,zF,reduceCtorEq]
       refine mP _ ⟨nk, ?_, ?_, ba (by omega) (by (simp [nk, je, lk, aW, bo, ai, aA, List.map_set, setRow, cb, V.cells]))⟩
       ·exact hB
       ·dsimp only [nk]; omega
      ·have FH : bi = true := by simpa using Ce
       subst FH
       let nk : Nat × Bool × List Bool := (i + 1, c2, B2)
       have hB : nk.1 ≤ l.length ∧ I5 l roots nk.2.2 ∧ (nk.2.1 = false → nk.2.2 = B ∧ JS l roots B nk.1) ∧ (nk.2.1 = true → xp nk.2.2 < xp B) := by
        refine ⟨aB, Jq, fun h => ?_, ei⟩
        obtain ⟨rfl, h2⟩ := Ra h
        refine ⟨rfl, fun j hj r re hh => ?_⟩
        rcases Nat.lt_or_ge j i with h3 | h3
        ·exact h2 j h3 r re hh
        ·obtain rfl : j = i := by have h4 : j < i + 1 := hj; omega
         exact Ft
       simp only [fQ,List.length_replicate,hw,List.getElem?_map,hx,ag,ab,n9,Ft,List.length_map,go_sem,reduceIte,zA,zB,zC,zD,zE,zF,reduceCtorEq]
       refine mP _ ⟨nk, ?_, ?_, ba (by omega) (by (simp [nk, je, lk, aW, bo, ai, aA, List.map_set, setRow, cb, V.cells]))⟩
       ·exact hB
       ·dsimp only [nk]; omega
     ·let nk : Nat × Bool × List Bool := (i + 1, c2, B2)
      have hB : nk.1 ≤ l.length ∧ I5 l roots nk.2.2 ∧ (nk.2.1 = false → nk.2.2 = B ∧ JS l roots B nk.1) ∧ (nk.2.1 = true → xp nk.2.2 < xp B) := by
       refine ⟨aB, Jq, fun h => ?_, ei⟩
       obtain ⟨rfl, h2⟩ := Ra h
       refine ⟨rfl, fun j hj r re hh => ?_⟩
       rcases Nat.lt_or_ge j i with h3 | h3
       ·exact h2 j h3 r re hh
       ·obtain rfl : j = i := by have h4 : j < i + 1 := hj; omega
        rw [hx] at re; cases re; rw [hh] at xr; cases xr
      simp only [fQ,List.length_replicate,hw,List.getElem?_map,hx,ag,ab,n9,Ft,List.length_map,go_sem,reduceIte,zA,zB,zC,zD,zE,zF,reduceCtorEq]
      refine mP _ ⟨nk, ?_, ?_, ba (by omega) (by (simp [nk, je, lk, aW, bo, ai, aA, List.map_set, setRow, cb, V.cells]))⟩
      ·exact hB
      ·dsimp only [nk]; omega
   ·have cB : i = l.length := by have := of_decide_eq_false iQ; omega
    subst cB
    let Qp : Bool × List Bool := (c2, B2)
    have hA : I5 l roots Qp.2 ∧ (Qp.1 = false → JS l roots Qp.2 l.length) := ⟨Jq, fun h => by obtain ⟨rfl, h2⟩ := Ra h; exact h2⟩
    have hmA : 2 * xp Qp.2 + Qp.1.toNat < 2 * xp B + c.toNat := by
     rw [Qe]
     show 2 * xp B2 + c2.toNat < 2 * xp B + 1
     cases uD : c2 with
     | true => have := ei uD; simp; omega
     | false => obtain ⟨rfl, -⟩ := Ra uD; simp
    simp only [fQ,List.length_replicate,List.length_map,go_sem,reduceIte,zA,zB,zC,zD,zE,zF,reduceCtorEq]
    refine bP _ ⟨Qp, ?_, ?_, ba (by omega) (by (simp [Qp, je, lk, aW, bo, ai, aA]))⟩
    ·exact hA
    ·exact hmA
  ·have jD := hC nI
   simp only [fQ,List.length_replicate,List.length_map,go_sem,reduceIte,zA,zB,zC,zD,zE,zF,reduceCtorEq]
   refine ct tt_ok [] (fun a : Nat × List dD => [(2, .ptr 0 0), (5, .ms 1 0 0 l.length), (10, .ms 2 a.2.length 0 a.2.length), (11, num a.1)]) (fun a : Nat × List dD => [.box [.slice (l.map ag), .slice I], .rows 0 1 (B.map bl), .rows a.2.length 4 (a.2.map aI)]) (fun a => l.length - a.1) (fun a => a.1 ≤ l.length ∧ a.2 = mU (l.take a.1) (B.take a.1)) ((0, [])) 3 (ba (by omega) (by simp only [fQ,List.length_replicate,List.length_map,List.map_nil,List.length_nil,Int.cast_ofNat_Int,go_sem,reduceIte,zA,zB,zC,zD,zE,zF,reduceCtorEq] <;> rfl)) (⟨Nat.zero_le _, by simp [mU]⟩) ?_
   rintro ⟨i, R⟩ ⟨hi, hR⟩
   try dsimp only at hi hR
   try dsimp only
   intro Z4 TD
   simp only [fQ,List.length_replicate,List.length_map,go_sem,reduceIte,zA,zB,zC,zD,zE,zF,reduceCtorEq]
   refine aL (fun Cf => ?_) (fun Cf => ?_)
   ·have aB : i < l.length := by simpa using Cf
    have hw := ax i (by omega)
    obtain ⟨x, hx⟩ : ∃ x, l[i]? = some x := ⟨_, List.getElem?_eq_getElem aB⟩
    obtain ⟨bi, Ft⟩ : ∃ b, B[i]? = some b := ⟨_, List.getElem?_eq_getElem (by rw [hS.1]; exact aB)⟩
    have gG := vC hx Ft
    have n9 : (i : Int) < (l.length : Int) := by omega
    have E8 : R.length ≤ i := by rw [hR]; exact Nat.le_trans (zY _ _) (by rw [List.length_take]; omega)
    have dE : R.length + 1 ≤ 34359738368 := by omega
    have fp : ∀ (a : ByteArray) (b c d : Int), ca [V.agg [str a, num b, num c, num d]] 0 4 = true := fun _ _ _ _ => rfl
    simp only [fQ,List.length_replicate,fp,hw,List.getElem?_map,hx,Ft,n9,ag,ab,dE,List.length_append,List.length_cons,List.length_nil,Nat.zero_add,List.length_map,go_sem,reduceIte,zA,zB,zC,zD,zE,zF,reduceCtorEq]
    refine aL (fun Qq => ?_) (fun Qq => ?_)
    ·have FH : bi = true := Qq
     let nv : Nat × List dD := (i + 1, R ++ [x.key])
     have ql : nv.2 = mU (l.take (i + 1)) (B.take (i + 1)) := by rw [gG, ← hR, if_pos FH]
     simp only [fQ,List.length_replicate,fp,hw,List.getElem?_map,hx,Ft,n9,ag,ab,dE,List.length_append,List.length_cons,List.length_nil,Nat.zero_add,List.length_map,go_sem,reduceIte,zA,zB,zC,zD,zE,zF,reduceCtorEq]
     refine bu tt_ok aD [⟨.n, 0, [], [], []⟩, ⟨.n, 0, [], [], []⟩, ⟨.r, 0, [], [1], []⟩, ⟨.n, 0, [], [], []⟩, ⟨.r, 0, [], [1,2,3], []⟩, ⟨.n, 0, [], [1,2,3,4], []⟩, ⟨.r, 0, [], [1,2,3,4,5], []⟩, ⟨.n, 0, [], [], []⟩, ⟨.r, 0, [], [7], []⟩, ⟨.n, 0, [], [], []⟩, ⟨.r, 0, [], [7,8,9], []⟩, ⟨.n, 0, [], [7,8,9,10], []⟩, ⟨.r, 0, [], [7,8,9,10,11], []⟩, ⟨.n, 0, [], [1,2,3,4,5,6,7,8,9,10,11,12], []⟩, ⟨.n, 0, [], [1,2,3,4,5,6,7,8,9,10,11,12,13], []⟩, ⟨.w, 0, [], [0,1,2,3,4,5,6,7,8,9,10,11,12,13,14], []⟩, ⟨.n, 0, [], [0,1,2,3,4,5,6,7,8,9,10,11,12,13,14,15], []⟩] 1 (by kernel_rfl) ?_
     simp only [fQ,List.length_replicate,fp,hw,List.getElem?_map,hx,Ft,n9,ag,ab,dE,List.length_append,List.length_cons,List.length_nil,Nat.zero_add,List.length_map,go_sem,reduceIte,zA,zB,zC,zD,zE,zF,reduceCtorEq]
     refine TD _ ⟨nv, ?_, ?_, ba (by omega) (by (simp [nv, je, lk, aW, bo, ai, aA, List.map_append, aI, Rl.key]))⟩
     ·exact ⟨aB, ql⟩
     ·dsimp only [nv]; omega
    ·have yF : bi = false := Qq
     let nv : Nat × List dD := (i + 1, R)
     have ql : nv.2 = mU (l.take (i + 1)) (B.take (i + 1)) := by rw [gG, ← hR, yF]; simp [nv]
     simp only [fQ,List.length_replicate,fp,hw,List.getElem?_map,hx,Ft,n9,ag,ab,dE,List.length_append,List.length_cons,List.length_nil,Nat.zero_add,List.length_map,go_sem,reduceIte,zA,zB,zC,zD,zE,zF,reduceCtorEq]
     refine TD _ ⟨nv, ?_, ?_, ba (by omega) (by (simp [nv, je, lk, aW, bo, ai, aA, List.map_append, aI, Rl.key]))⟩
     ·exact ⟨aB, ql⟩
     ·dsimp only [nv]; omega
   ·have Xn : List.take R.length (R.map aI) = R.map aI := List.take_of_length_le (by simp)
    have cB : i = l.length := by have := of_decide_eq_false Cf; omega
    have fk : R = (bX (aq l) roots).map Rl.key := by
     rw [hR, cB, List.take_length, List.take_of_length_le (by rw [hS.1]; exact Nat.le_refl _), hgd]
     exact DI hS.1 fun k r hk => by rw [hS.fin jD hk, @decide_eq_true_iff _ (Classical.propDecidable _)]
    simp only [fQ,List.length_replicate,Xn,List.length_map,go_sem,reduceIte,zA,zB,zC,zD,zE,zF,reduceCtorEq]
    first
     | (refine hK _ ?_; rw [fk]; rfl)
     | (refine hK _ ?_; rw [← fk]; rfl)
end Go.Proofs.YtnfeacnbgbggfaaGreatDoor
end

section
namespace Go.Proofs.YtnfeacnbgbggfaaGreatDoor
open Go.Eng
variable [aG]
set_option maxHeartbeats 4000000
set_option maxRecDepth 100000
end Go.Proofs.YtnfeacnbgbggfaaGreatDoor
end

section
namespace Go.Proofs.YtnfeacnbgbggfaaGreatDoor
open Go.Eng
variable [aG]
set_option maxHeartbeats 4000000
set_option maxRecDepth 100000
theorem DJ {g : List Rl} (h : ∀ r ∈ g, r.reqs.length ≤ 16) (hl : g.length ≤ 256) : (g.flatMap Rl.reqs).length ≤ 4096 := by
 have h1 : (g.flatMap Rl.reqs).length ≤ 16 * g.length := by
  induction g with
  | nil => simp
  | cons a t ih =>
   have h2 := ih (fun r hr => h r (by simp [hr])) (by simp at hl; omega)
   have h3 := h a (by simp)
   rw [List.flatMap_cons, List.length_append, List.length_cons]; omega
 omega
end Go.Proofs.YtnfeacnbgbggfaaGreatDoor
end

section
namespace Go.Proofs.YtnfeacnbgbggfaaGreatDoor
open Go.Eng
open Nat renaming reduceAdd → zA, reduceLT → zB, reduceLeDiff → zC, reduceMul → zD, reduceEqDiff → zE, reduceSub → zF
variable [aG]
set_option maxHeartbeats 4000000
set_option maxRecDepth 100000
theorem Nb : ∀ {m : List Rl} {b : Option Rl}, (∀ r ∈ m, gr r = 0) → m.Pairwise (fun a b => a.path.data.toList < b.path.data.toList) → (∀ p, b = some p → ∀ r ∈ m, p.path.data.toList < r.path.data.toList) → c8 b m = 0
 | [], b, _, _, _ => by unfold c8; rfl
 | r :: t, b, h, hp, hb => by
  rw [eI, if_neg (by simp [h r (by simp)])]
  obtain ⟨h1, h2⟩ := List.pairwise_cons.1 hp
  have ih : c8 (some r) t = 0 := Nb (fun x hx => h x (by simp [hx])) h2 fun p e x hx => by cases e; exact h1 x hx
  cases b with
  | none => exact ih
  | some p =>
   have aB := hb p rfl r (by simp)
   have hl : ke p.path r.path = true := by rw [nH]; exact decide_eq_true aB
   dsimp only
   rw [if_neg (fun e => by have : p.path = r.path := congrArg dD.path e; rw [this] at aB; exact List.lt_irrefl _ aB), if_neg (by rw [Rl.tP (DA hl) (by decide)]; omega)]
   exact ih
theorem I6 {l : List Rl} {s : List dD} {m : List Rl} (h : gv l s = some m) (hi : hZ s = true) (hl : m.length ≤ 256) : aq m = m := by
 refine if_pos ?_
 unfold dK
 rw [if_neg (by omega)]
 exact Nb (fun r hr => rP ((ik h).2 r hr)) (nY h hi) fun p e => by cases e
theorem L8 {l : List Rl} {s : List dD} {m : List Rl} (h : gv l s = some m) (hi : hZ s = true) (q : Rq) : (s.any fun y => decide (y.path = q.path) && has q.set y.aC.place) = !brk m q := by
 have hu := tM (nY h hi)
 obtain ⟨hk, hg⟩ := ik h
 rw [← hk, List.any_map]
 unfold brk
 cases hb : Dr m q.path with
 | none =>
  have hn : ∀ r ∈ m, r.path ≠ q.path := fun r hr e => by rw [← e, PZ hu hr] at hb; cases hb
  rw [Bool.not_true]
  refine List.any_eq_false.2 fun r hr => ?_
  simp [Rl.key, hn r hr]
 | some r =>
  obtain ⟨hr, hp⟩ := tN hb
  rw [Bool.not_not]
  have Ab : r.aC.place = r.aC.pl := (if_pos (l0 (hg r hr))).symm
  cases hh : has q.set r.aC.pl with
  | true => exact List.any_eq_true.2 ⟨r, hr, by simp [Rl.key, hp, Ab, hh]⟩
  | false =>
   refine List.any_eq_false.2 fun x hx => ?_
   by_cases e : x.path = q.path
   ·have := hu x hx r hr (e.trans hp.symm)
    subst this
    simp [Rl.key, Ab, hh]
   ·simp [Rl.key, e]
theorem DK {roots : List Rq} {m : List Rl} : ((m.any fun r => r.reqs.any (brk m)) = true ∨ roots.any (brk m) = true) ↔ ∃ q ∈ roots ++ m.flatMap Rl.reqs, brk m q = true := by
 simp only [List.any_eq_true,List.mem_append,List.mem_flatMap]
 constructor
 ·rintro (⟨r, hr, q, hq, h⟩ | ⟨q, hq, h⟩)
  ·exact ⟨q, .inr ⟨r, hr, hq⟩, h⟩
  ·exact ⟨q, .inl hq, h⟩
 ·rintro ⟨q, hq | ⟨r, hr, hq⟩, h⟩
  ·exact .inr ⟨q, hq, h⟩
  ·exact .inl ⟨r, hr, q, hq, h⟩
theorem Fu {m : List Rl} {i : Nat} {x : Rl} (h : m[i]? = some x) (roots : List Rq) : roots ++ (m.take (i + 1)).flatMap Rl.reqs = (roots ++ (m.take i).flatMap Rl.reqs) ++ x.reqs := by
 rw [List.take_add_one, h, List.flatMap_append, List.append_assoc]; simp
theorem Yp {l : List Rl} {roots : List Rq} {s : List dD} (h : dK l ≠ 0) : bJ l roots s = 1 := by unfold bJ; rw [if_pos h]
theorem sv2 {l : List Rl} {roots : List Rq} {s : List dD} (h : dK l = 0) (hi : hZ s = false) : bJ l roots s = 1 := by unfold bJ; rw [if_neg (by simp [h]), if_neg (by simp [hi])]
theorem sv3 {l : List Rl} {roots : List Rq} {s : List dD} (h : dK l = 0) (hi : hZ s = true) (hm : gv l s = none) : bJ l roots s = 6 := by unfold bJ; rw [if_neg (by simp [h]), if_pos hi, hm]
theorem sv4 {l : List Rl} {roots : List Rq} {s : List dD} {m : List Rl} (h : dK l = 0) (hi : hZ s = true) (hm : gv l s = some m) (hb : ∃ q ∈ roots ++ m.flatMap Rl.reqs, brk m q = true) : bJ l roots s = 17 := by
 unfold bJ; rw [if_neg (by simp [h]), if_pos hi, hm]; exact if_pos (DK.2 hb)
theorem sv5 {l : List Rl} {roots : List Rq} {s : List dD} {m : List Rl} (h : dK l = 0) (hi : hZ s = true) (hm : gv l s = some m) (hb : ∀ q ∈ roots ++ m.flatMap Rl.reqs, brk m q = false) : bJ l roots s = if (bX m roots).length < m.length then 8 else 0 := by
 unfold bJ; rw [if_neg (by simp [h]), if_pos hi, hm]; exact if_neg fun e => by obtain ⟨q, hq, h1⟩ := DK.1 e; rw [hb q hq] at h1; cases h1
theorem tU (m : List Rl) (roots : List Rq) : (bX m roots).length ≤ m.length := List.length_filter_le _ _
theorem Cg (hG : aG.g = some 0) (l : List Rl) (I : List V) (hb : tY l) (roots : List Rq) (hr : roots.length ≤ 1048576) (E7 : ∀ q ∈ roots, qS q) (s : List dD) (hs : s.length ≤ 256) : ∃ r_, (fun w => w = num (bJ l roots s)) r_ ∧ aP Tryz.prog 16 [bm l I, ah roots, aZ s] r_ := by
 refine dI tt_ok [] 87 [.tmp 6] (fn := Tryz.f16) Tryz.func16 rfl Tryz.call16 ⟨rfl, rfl, by simp⟩ fun K hK => ?_
 simp only [bm,aY]
 have w6 := hb.1
 have xv := bN roots
 have jq : roots.length ≤ 34359738368 := by omega
 simp only [List.length_map,go_sem,reduceIte,zA,zB,zC,zD,zE,zF,reduceCtorEq]
 refine cF (by have h := im l I hb; simp only [bm,aY] at h; exact h) ?_
 rintro _ rfl
 simp only [List.length_map,go_sem,reduceIte,zA,zB,zC,zD,zE,zF,reduceCtorEq]
 refine aL (fun kZ => ?_) (fun kZ => ?_)
 ·have aw : 1 = bJ l roots s := (Yp (by simpa using kZ)).symm
  simp only [List.length_map,go_sem,reduceIte,zA,zB,zC,zD,zE,zF,reduceCtorEq]
  exact hK _ (congrArg num aw)
 ·have jF : dK l = 0 := by simpa using kZ
  simp only [List.length_map,go_sem,reduceIte,zA,zB,zC,zD,zE,zF,reduceCtorEq]
  refine cF (by have h := I3 s (by omega); simp only [aZ] at h; exact h) ?_
  rintro _ rfl
  simp only [List.length_map,go_sem,reduceIte,zA,zB,zC,zD,zE,zF,reduceCtorEq]
  refine aL (fun eW => ?_) (fun eW => ?_)
  ·have aw : 1 = bJ l roots s := by
    by_cases jF : dK l = 0
    ·exact (sv2 jF (by simp_all)).symm
    ·exact (Yp jF).symm
   simp only [List.length_map,go_sem,reduceIte,zA,zB,zC,zD,zE,zF,reduceCtorEq]
   exact hK _ (congrArg num aw)
  ·have fF : hZ s = true := by simpa using eW
   simp only [List.length_map,go_sem,reduceIte,zA,zB,zC,zD,zE,zF,reduceCtorEq]
   refine ct tt_ok [] (fun a : Nat × List Rl => [(1, .slice (roots.map al)), (2, .slice (s.map aI)), (3, .ptr 0 0), (7, .ms 1 a.2.length 0 a.2.length), (8, num a.1)]) (fun a : Nat × List Rl => [.box [.slice (l.map ag), .slice I], .rows a.2.length 9 (a.2.map ag)]) (fun a => s.length - a.1) (fun a => a.1 ≤ s.length ∧ gv l (s.take a.1) = some a.2) ((0, [])) 2 (ba (by omega) (by simp only [List.length_map,List.map_nil,List.length_nil,Int.cast_ofNat_Int,go_sem,reduceIte,zA,zB,zC,zD,zE,zF,reduceCtorEq] <;> rfl)) (⟨Nat.zero_le _, by unfold gv; rfl⟩) ?_
   rintro ⟨i, R⟩ ⟨hi, hR⟩
   try dsimp only at hi hR
   try dsimp only
   intro Z1 bP
   simp only [List.length_map,go_sem,reduceIte,zA,zB,zC,zD,zE,zF,reduceCtorEq]
   refine aL (fun gq => ?_) (fun gq => ?_)
   ·have aB : i < s.length := by simpa using gq
    have hw := ax i (by omega)
    obtain ⟨x, hx⟩ : ∃ x, s[i]? = some x := ⟨_, List.getElem?_eq_getElem aB⟩
    have E8 : R.length = i := by rw [l5 hR, List.length_take]; omega
    have dE : R.length + 1 ≤ 34359738368 := by omega
    rcases hf : rp l x with _ | r
    ·simp only [hw,List.getElem?_map,hx,aI,dE,List.length_append,List.length_cons,List.length_nil,Nat.zero_add,List.length_map,go_sem,reduceIte,zA,zB,zC,zD,zE,zF,reduceCtorEq]
     refine bu tt_ok aD [⟨.r, 0, [0], [], []⟩, ⟨.n, 0, [], [], []⟩, ⟨.n, 0, [], [], []⟩, ⟨.r, 0, [0], [], []⟩, ⟨.n, 0, [], [], []⟩, ⟨.r, 0, [0], [], []⟩, ⟨.n, 0, [], [], []⟩, ⟨.n, 0, [], [], []⟩, ⟨.r, 0, [0], [], []⟩, ⟨.n, 0, [], [], []⟩, ⟨.r, 0, [0], [], []⟩, ⟨.n, 0, [], [], []⟩, ⟨.n, 0, [], [], []⟩, ⟨.n, 0, [], [], []⟩, ⟨.n, 0, [], [], []⟩, ⟨.a, 0, [], [], []⟩, ⟨.s, 0, [], [], []⟩, ⟨.n, 0, [], [], []⟩] 1 (by kernel_rfl) ?_
     simp only [hw,List.getElem?_map,hx,aI,dE,List.length_append,List.length_cons,List.length_nil,Nat.zero_add,List.length_map,go_sem,reduceIte,zA,zB,zC,zD,zE,zF,reduceCtorEq]
     refine cG (by have h := zT l I hb x.path x.aC; rw [show (⟨x.path, x.aC⟩ : dD) = x from rfl, hf] at h; simp only [bm,aY,bh,Option.getD_some,Option.getD_none,Option.isSome_some,Option.isSome_none,nS,ag,ab,ah] at h; exact h) ?_
     rintro _ rfl
     have aw : 6 = bJ l roots s := (sv3 jF fF (vq hx hf)).symm
     simp only [hw,List.getElem?_map,hx,aI,dE,List.length_append,List.length_cons,List.length_nil,Nat.zero_add,List.length_map,go_sem,reduceIte,zA,zB,zC,zD,zE,zF,reduceCtorEq]
     exact hK _ (congrArg num aw)
    ·simp only [hw,List.getElem?_map,hx,aI,dE,List.length_append,List.length_cons,List.length_nil,Nat.zero_add,List.length_map,go_sem,reduceIte,zA,zB,zC,zD,zE,zF,reduceCtorEq]
     refine bu tt_ok aD [⟨.r, 0, [0], [], []⟩, ⟨.n, 0, [], [], []⟩, ⟨.n, 0, [], [], []⟩, ⟨.r, 0, [0], [], []⟩, ⟨.n, 0, [], [], []⟩, ⟨.r, 0, [0], [], []⟩, ⟨.n, 0, [], [], []⟩, ⟨.n, 0, [], [], []⟩, ⟨.r, 0, [0], [], []⟩, ⟨.n, 0, [], [], []⟩, ⟨.r, 0, [0], [], []⟩, ⟨.n, 0, [], [], []⟩, ⟨.n, 0, [], [], []⟩, ⟨.n, 0, [], [], []⟩, ⟨.n, 0, [], [], []⟩, ⟨.a, 0, [], [], []⟩, ⟨.s, 0, [], [], []⟩, ⟨.n, 0, [], [], []⟩] 1 (by kernel_rfl) ?_
     simp only [hw,List.getElem?_map,hx,aI,dE,List.length_append,List.length_cons,List.length_nil,Nat.zero_add,List.length_map,go_sem,reduceIte,zA,zB,zC,zD,zE,zF,reduceCtorEq]
     refine cG (by have h := zT l I hb x.path x.aC; rw [show (⟨x.path, x.aC⟩ : dD) = x from rfl, hf] at h; simp only [bm,aY,bh,Option.getD_some,Option.getD_none,Option.isSome_some,Option.isSome_none,nS,ag,ab,ah] at h; exact h) ?_
     rintro _ rfl
     have fp : ca [V.agg [str r.path, num r.aC.mj, num r.aC.mn, num r.aC.pt, V.slice (r.reqs.map al), str r.ar, str r.gg, str r.ce, bl r.yk]] 0 9 = true := rfl
     let nv : Nat × List Rl := (i + 1, R ++ [r])
     have ql : gv l (s.take nv.1) = some nv.2 := vp hR hx hf
     simp only [hw,List.getElem?_map,hx,aI,dE,List.length_append,List.length_cons,List.length_nil,Nat.zero_add,fp,List.length_map,go_sem,reduceIte,zA,zB,zC,zD,zE,zF,reduceCtorEq]
     refine bP _ ⟨nv, ?_, ?_, ba (by omega) (by (simp [nv, je, lk, aW, bo, ai, aA, List.map_append, ag, ab, ah]))⟩
     ·exact ⟨aB, ql⟩
     ·dsimp only [nv]; omega
   ·have cB : i = s.length := by have := of_decide_eq_false gq; omega
    have C7 : gv l s = some R := by rw [cB, List.take_length] at hR; exact hR
    obtain ⟨m, hmR⟩ : ∃ m, m = R := ⟨_, rfl⟩
    subst hmR
    have Z8 : m.length = s.length := l5 C7
    obtain ⟨fQ, LJ⟩ := ik C7
    have hgm := I6 C7 fF (by omega)
    have UJ : tY m := ⟨by omega, fun r re => hb.2 r (tI (LJ r re))⟩
    have W7 : ∀ y ∈ s, y.aC.ok = true := fun y hy => by rw [← fQ] at hy; obtain ⟨r, re, rfl⟩ := List.mem_map.1 hy; exact l0 (LJ r re)
    simp only [xv,jq,List.length_nil,Nat.zero_add,List.length_map,go_sem,reduceIte,zA,zB,zC,zD,zE,zF,reduceCtorEq]
    refine ct tt_ok [] (fun i : Nat => [(1, .slice (roots.map al)), (2, .slice (s.map aI)), (3, .ptr 0 0), (7, .ms 1 m.length 0 m.length), (11, .ms 2 (i + 1) 0 (roots ++ (m.take i).flatMap Rl.reqs).length), (12, num i)]) (fun i : Nat => [.box [.slice (l.map ag), .slice I], .rows m.length 9 (m.map ag), .rows (i + 1) 2 ((roots ++ (m.take i).flatMap Rl.reqs).map al)]) (fun i => m.length - i) (fun i => i ≤ m.length) (0) 3 (ba (by omega) (by simp only [xv,jq,List.length_nil,Nat.zero_add,List.length_map,List.take_zero,List.flatMap_nil,List.append_nil,Int.cast_ofNat_Int,go_sem,reduceIte,zA,zB,zC,zD,zE,zF,reduceCtorEq] <;> rfl)) (Nat.zero_le _) ?_
    intro i hi
    intro Z2 mP
    simp only [xv,jq,List.length_nil,Nat.zero_add,List.length_map,go_sem,reduceIte,zA,zB,zC,zD,zE,zF,reduceCtorEq]
    refine aL (fun Qr => ?_) (fun Qr => ?_)
    ·have aB : i < m.length := by simpa using Qr
     have hw := ax i (by omega)
     obtain ⟨x, hx⟩ : ∃ x, m[i]? = some x := ⟨_, List.getElem?_eq_getElem aB⟩
     have hak := Fu hx roots
     have hxf := bN x.reqs
     have n9 : (i : Int) < (m.length : Int) := by omega
     have Fx := gu (LJ x (List.mem_of_getElem? hx))
     have hal : ((m.take i).flatMap Rl.reqs).length ≤ 4096 := DJ (fun r hr => gu (LJ r (List.mem_of_mem_take hr))) (by rw [List.length_take]; omega)
     have dE : (roots ++ (m.take i).flatMap Rl.reqs).length + x.reqs.length ≤ 34359738368 := by rw [List.length_append]; omega
     simp only [xv,jq,List.length_nil,Nat.zero_add,hw,List.getElem?_map,hx,ag,ab,hxf,n9,dE,List.length_map,go_sem,reduceIte,zA,zB,zC,zD,zE,zF,reduceCtorEq]
     refine mP _ ⟨i + 1, ?_, ?_, ba (by omega) (by (simp only [hak,List.length_append,List.length_map,List.map_append,hw,go_sem,reduceIte,zA,zB,zC,zD,zE,zF,reduceCtorEq]))⟩
     ·exact aB
     ·omega
    ·have K9 : i = m.length := by have := of_decide_eq_false Qr; omega
     subst K9
     rw [List.take_length]
     obtain ⟨A, hA⟩ : ∃ A, A = roots ++ m.flatMap Rl.reqs := ⟨_, rfl⟩
     rw [← hA]
     have hAl : A.length ≤ 1052672 := by rw [hA, List.length_append]; have := DJ (fun r hr => gu (LJ r hr)) (show m.length ≤ 256 by omega); omega
     have FR : ∀ q ∈ A, qS q := fun q hq => by rw [hA] at hq; rcases List.mem_append.1 hq with h | h; exact E7 q h; obtain ⟨r, re, Fz⟩ := List.mem_flatMap.1 h; exact (UJ.2 r re).2.2 q Fz
     simp only [xv,jq,List.length_nil,Nat.zero_add,List.length_map,go_sem,reduceIte,zA,zB,zC,zD,zE,zF,reduceCtorEq]
     refine bA tt_ok [] [13] 3 [1,2,7,11,21,26,45,56] (fun vs => ((A.length : Int) - Go.Eng.intOf (vs.headD .undef)).toNat) (fun vs => ∃ i : Nat, vs = [num i] ∧ i ≤ A.length ∧ ∀ j < i, ∀ q, A[j]? = some q → brk m q = false) (by omega) (by simp only [xv,jq,List.length_nil,Nat.zero_add,List.length_map,go_sem,reduceIte,zA,zB,zC,zD,zE,zF,reduceCtorEq]) (⟨0, rfl, Nat.zero_le _, fun j hj => absurd hj (Nat.not_lt_zero j)⟩) fun vs hI Z3 w4 => ?_
     obtain ⟨i, rfl, hi, aS⟩ := hI
     simp only [xv,jq,List.length_nil,Nat.zero_add,List.length_map,go_sem,reduceIte,zA,zB,zC,zD,zE,zF,reduceCtorEq]
     refine aL (fun Ce => ?_) (fun Ce => ?_)
     ·have aB : i < A.length := by simpa using Ce
      have hw := ax i (by omega)
      obtain ⟨q, hq⟩ : ∃ q, A[i]? = some q := ⟨_, List.getElem?_eq_getElem aB⟩
      have I7 : (i : Int) < (A.length : Int) := by omega
      simp only [xv,jq,List.length_nil,Nat.zero_add,hw,List.getElem?_map,hq,al,I7,List.length_map,go_sem,reduceIte,zA,zB,zC,zD,zE,zF,reduceCtorEq]
      refine cF (by have h := L6 q (FR q (List.mem_of_getElem? hq)) s (by omega) W7; rw [L8 C7 fF q] at h; simp only [al,aZ] at h; exact h) ?_
      rintro _ rfl
      simp only [xv,jq,List.length_nil,Nat.zero_add,hw,List.getElem?_map,hq,al,I7,List.length_map,go_sem,reduceIte,zA,zB,zC,zD,zE,zF,reduceCtorEq]
      refine aL (fun Cf => ?_) (fun Cf => ?_)
      ·have aw : 17 = bJ l roots s := (sv4 jF fF C7 ⟨q, by rw [← hA]; exact List.mem_of_getElem? hq, by simpa using Cf⟩).symm
       simp only [xv,jq,List.length_nil,Nat.zero_add,hw,List.getElem?_map,hq,al,I7,List.length_map,go_sem,reduceIte,zA,zB,zC,zD,zE,zF,reduceCtorEq]
       exact hK _ (congrArg num aw)
      ·simp only [xv,jq,List.length_nil,Nat.zero_add,hw,List.getElem?_map,hq,al,I7,List.length_map,go_sem,reduceIte,zA,zB,zC,zD,zE,zF,reduceCtorEq]
       refine w4 _ (cA (by omega) (by simp only [xv,jq,List.length_nil,Nat.zero_add,hw,List.getElem?_map,hq,al,I7,List.length_map,go_sem,reduceIte,zA,zB,zC,zD,zE,zF,reduceCtorEq]) ?_ ?_) <;> simp only [fa,lk,reduceIte,zE]
       ·refine ⟨i + 1, rfl, aB, fun j hj => ?_⟩
        rcases Nat.lt_or_ge j i with h | h
        ·exact aS j h
        ·obtain rfl : j = i := by omega
         intro q2 Fz
         rw [hq] at Fz; cases Fz
         simpa using Cf
       ·simp only [Go.Eng.intOf,List.headD_cons]; omega
     ·have aaw : ¬ i < A.length := by have := of_decide_eq_false Ce; omega
      have QK : ∀ q ∈ roots ++ m.flatMap Rl.reqs, brk m q = false := fun q hq => by rw [← hA] at hq; obtain ⟨j, hj⟩ := List.mem_iff_getElem?.1 hq; exact aS j (by have := (List.getElem?_eq_some_iff.1 hj).1; omega) q hj
      have Yq := sv5 (roots := roots) jF fF C7 QK
      have aax := tU m roots
      have UQ : List.take m.length (m.map ag) = m.map ag := List.take_of_length_le (by simp)
      simp only [xv,jq,List.length_nil,Nat.zero_add,UQ,Nat.le_refl,aZ,List.length_map,go_sem,reduceIte,zA,zB,zC,zD,zE,zF,reduceCtorEq]
      refine cF (by have h := vD m [] UJ roots hr E7; rw [hgm] at h; simp only [bm,aY,ah] at h; exact h) ?_
      rintro _ rfl
      try rw [RF]
      simp only [xv,jq,List.length_nil,Nat.zero_add,UQ,Nat.le_refl,aZ,List.length_map,go_sem,reduceIte,zA,zB,zC,zD,zE,zF,reduceCtorEq]
      refine aL (fun Qs => ?_) (fun Qs => ?_)
      ·have aw : 8 = bJ l roots s := by rw [Yq, if_pos (by have h6 := Qs; simp at h6; omega)]
       simp only [xv,jq,List.length_nil,Nat.zero_add,UQ,Nat.le_refl,aZ,List.length_map,go_sem,reduceIte,zA,zB,zC,zD,zE,zF,reduceCtorEq]
       exact hK _ (congrArg num aw)
      ·have aw : 0 = bJ l roots s := by rw [Yq, if_neg (by have h6 := Qs; simp at h6; omega)]
       simp only [xv,jq,List.length_nil,Nat.zero_add,UQ,Nat.le_refl,aZ,List.length_map,go_sem,reduceIte,zA,zB,zC,zD,zE,zF,reduceCtorEq]
       exact hK _ (congrArg num aw)
end Go.Proofs.YtnfeacnbgbggfaaGreatDoor
end

section
namespace Go.Proofs.YtnfeacnbgbggfaaGreatDoor
open Go.Eng
open Nat renaming reduceAdd → zA, reduceLT → zB, reduceLeDiff → zC, reduceMul → zD, reduceEqDiff → zE, reduceSub → zF
variable [aG]
set_option maxHeartbeats 4000000
set_option maxRecDepth 100000
theorem Ch (hG : aG.g = some 0) (Xo : aP Tryz.prog 9 [] (bl true)) (l : List Rl) (I : List V) (hb : tY l) (roots : List Rq) (hr : roots.length ≤ 1048576) (E7 : ∀ q ∈ roots, qS q) (s : List dD) (hs : s.length ≤ 1048576) : ∃ r_, (fun w => w = bl (true)) r_ ∧ aP Tryz.prog 3 [bm l I, ah roots, aZ s] r_ := by
 refine dI tt_ok [] 41 [.tmp 6] (fn := Tryz.f3) Tryz.func3 rfl Tryz.call3 ⟨rfl, rfl, by simp⟩ fun K hK => ?_
 simp only [bm,aY]
 have w6 := hb.1
 obtain ⟨RE, Q6⟩ : ∃ x, x = (bX (aq l) roots).map Rl.key := ⟨_, rfl⟩
 have Xp : RE.length ≤ 1048576 := by rw [Q6, List.length_map]; have := tU (aq l) roots; have := eY l; omega
 simp only [List.length_map,go_sem,reduceIte,zA,zB,zC,zD,zE,zF,reduceCtorEq]
 refine cF (⟨_, rfl, Xo⟩) ?_
 rintro _ rfl
 simp only [List.length_map,go_sem,reduceIte,zA,zB,zC,zD,zE,zF,reduceCtorEq]
 refine cF (by have h := Lu l 30 hb; simp only [aY] at h; exact h) ?_
 rintro _ rfl
 simp only [List.length_map,go_sem,reduceIte,zA,zB,zC,zD,zE,zF,reduceCtorEq]
 refine aL (fun T4 => ?_) (fun T4 => ?_)
 ·simp only [List.length_map,go_sem,reduceIte,zA,zB,zC,zD,zE,zF,reduceCtorEq]
  exact hK _ (by first | rfl | (refine congrArg bl ?_; simp))
 ·simp only [List.length_map,go_sem,reduceIte,zA,zB,zC,zD,zE,zF,reduceCtorEq]
  refine cF (by have h := Dp roots (by omega); simp only [ah] at h; exact h) ?_
  rintro _ rfl
  simp only [List.length_map,go_sem,reduceIte,zA,zB,zC,zD,zE,zF,reduceCtorEq]
  refine aL (fun T5 => ?_) (fun T5 => ?_)
  ·simp only [List.length_map,go_sem,reduceIte,zA,zB,zC,zD,zE,zF,reduceCtorEq]
   exact hK _ (by first | rfl | (refine congrArg bl ?_; simp))
  ·simp only [List.length_map,go_sem,reduceIte,zA,zB,zC,zD,zE,zF,reduceCtorEq]
   refine aL (fun wP => ?_) (fun wP => ?_)
   ·simp only [List.length_map,go_sem,reduceIte,zA,zB,zC,zD,zE,zF,reduceCtorEq]
    exact hK _ (by first | rfl | (refine congrArg bl ?_; simp))
   ·have Xq : s.length ≤ 256 := by have := of_decide_eq_false wP; omega
    simp only [List.length_map,go_sem,reduceIte,zA,zB,zC,zD,zE,zF,reduceCtorEq]
    refine bu tt_ok aD [⟨.r, 0, [], [], []⟩, ⟨.n, 0, [], [], []⟩, ⟨.n, 0, [], [], []⟩, ⟨.r, 0, [], [], []⟩, ⟨.n, 0, [], [], []⟩, ⟨.n, 0, [], [], []⟩, ⟨.n, 0, [], [], []⟩, ⟨.n, 0, [], [], []⟩, ⟨.r, 0, [], [], []⟩, ⟨.n, 0, [], [], []⟩, ⟨.n, 0, [], [], []⟩, ⟨.n, 0, [], [], []⟩, ⟨.r, 0, [], [], []⟩, ⟨.n, 0, [], [], []⟩, ⟨.n, 0, [], [], []⟩, ⟨.n, 0, [], [], []⟩, ⟨.n, 0, [], [], []⟩, ⟨.n, 0, [], [], []⟩, ⟨.n, 0, [], [], []⟩] 0 (by kernel_rfl) ?_
    simp only [List.length_map,go_sem,reduceIte,zA,zB,zC,zD,zE,zF,reduceCtorEq]
    refine cG (by have h := zx hG l I hb roots hr E7; rw [← Q6] at h; simp only [bm,aY,ah,aZ] at h; exact ⟨_, rfl, h⟩) ?_
    rintro _ rfl
    simp only [List.length_map,go_sem,reduceIte,zA,zB,zC,zD,zE,zF,reduceCtorEq]
    refine cG (by have h := vD l I hb roots hr E7; rw [← Q6] at h; simp only [bm,aY,ah,aZ] at h; exact h) ?_
    rintro _ rfl
    simp only [List.length_map,go_sem,reduceIte,zA,zB,zC,zD,zE,zF,reduceCtorEq]
    refine cG (by have h := Fs RE RE Xp; rw [decide_eq_true rfl] at h; simp only [aZ] at h; exact h) ?_
    rintro _ rfl
    simp only [List.length_map,go_sem,reduceIte,zA,zB,zC,zD,zE,zF,reduceCtorEq]
    refine cG (⟨_, rfl, by have h := qj hG l I hb roots hr E7 s hs; simp only [bm,aY,ah,aZ] at h; exact h⟩) ?_
    rintro _ rfl
    simp only [List.length_map,go_sem,reduceIte,zA,zB,zC,zD,zE,zF,reduceCtorEq]
    refine cG (by have h := Cg hG l I hb roots hr E7 s Xq; simp only [bm,aY,ah,aZ] at h; exact h) ?_
    rintro _ rfl
    simp only [List.length_map,go_sem,reduceIte,zA,zB,zC,zD,zE,zF,reduceCtorEq]
    exact hK _ (by first | rfl | (refine congrArg bl ?_; simp))
end Go.Proofs.YtnfeacnbgbggfaaGreatDoor
end

section
namespace Go.Proofs.YtnfeacnbgbggfaaGreatDoor.lawIndexReaches
open Go.Eng
set_option maxRecDepth 100000
open Go.ChangeShapes Go.WideShapes Go.ChangeAt Go.RowKit
theorem contract (H : Type) (enc : TypeId × Value → H) (W : World) (args : Array Value) (ds gs : List (DataW H)) (before : List MemPlace) (base : Nat)
  (bM : ∀ (j : Nat) t v, Tryz.f3.params[j]? = some t → args[j]? = some v → Value.okWide Tryz.prog W .any base t v)
  (hW : DataW.Whole enc Tryz.prog Tryz.f3.params.toList Rows.indexReachesSpec.vars false W args.toList ds gs before) (hb : Rows.uptoBulkAll (ds ++ gs) ≤ 1048576) (hS : W.ShapedOpen Tryz.prog) :
  Calls Tryz.prog 3 args W fun e W' => ∃ v, e = .returned v ∧ Rows.indexReachesSpec.post enc Tryz.prog Tryz.f3 false true false false W args v W' := by
 have Yr := hW
 have aB := hW.lt
 obtain ⟨p, q, G8, hV, rfl, UF, ko⟩ := hW
 have hA : DataW.TrodAll enc Tryz.prog W 0 (fun _ => true) true Tryz.f3.params.toList args.toList ds p := G8
 rw [Tryz.params3] at hA
 obtain ⟨v0, SI, d0, ds0, p0, q0, jd, rfl, rfl, h0, r0⟩ := trodAll_cons hA
 obtain ⟨v1, vs1, d1, ds1, p1, q1, rfl, rfl, rfl, h1, r1⟩ := trodAll_cons r0
 obtain ⟨v2, vs2, d2, ds2, p2, q2, rfl, rfl, rfl, h2, r2⟩ := trodAll_cons r1
 obtain ⟨rfl, rfl, rfl⟩ := trodAll_nil r2
 obtain rfl : args = #[v0, v1, v2] := by cases args; simp_all
 obtain ⟨rfl, rfl⟩ := trodVars_none hV
 rw [Tryz.params3] at bM
 obtain ⟨a1, l1, c1, rfl⟩ := okWide_slice Tryz.underlying26 (bM 1 26 v1 rfl rfl)
 obtain ⟨a2, l2, c2, rfl⟩ := okWide_slice Tryz.underlying27 (bM 2 27 v2 rfl rfl)
 clear bM
 clear G8 hA r0 r1 r2 jd hV
 simp only [List.append_nil] at Yr aB
 simp only [Ev,List.append_nil,Rows.uptoBulkAll] at hb
 have WD := h0
 have FI := h1
 have Q0 := h2
 obtain ⟨f0, h0⟩ := h0
 obtain ⟨f1, h1⟩ := h1
 obtain ⟨f2, h2⟩ := h2
 have main : Calls Tryz.prog 3 #[v0, .slice a1 l1 c1, .slice a2 l2 c2] W fun e W' => e = .returned (.bool true) ∧ Below W.heap.size W W' := by
  obtain ⟨n, hn⟩ := Fe hS
  have go : ∀ (G : aG) (hG : G.g = some 0) (hg : @Gl G W.cell?), Calls Tryz.prog 3 #[v0, .slice a1 l1 c1, .slice a2 l2 c2] W fun e W' => e = .returned (.bool true) ∧ Below W.heap.size W W' := fun G hG hg => by
   have Xo : aP Tryz.prog 9 [] (bl true) := by obtain ⟨r, rfl, h⟩ := IA hG; exact h
   obtain ⟨x0, I0, jF, b0⟩ := Tc (F := W.cell?) (hg := hg) rfl h0
   obtain ⟨x1, r5, b1⟩ := HC (F := W.cell?) (hg := hg) rfl h1
   obtain ⟨x2, xt, b2⟩ := KO (F := W.cell?) (hg := hg) rfl h2
   obtain ⟨rr, uE, hc⟩ : ∃ r_, r_ = bl true ∧ aP Tryz.prog 3 [bm x0 I0, ah x1, aZ x2] r_ := by
    obtain ⟨r_, h1, h2⟩ := Ch hG Xo x0 I0 (Ps (by omega)) x1 (HE (by omega)).1 (HE (by omega)).2 x2 (Pt (by omega))
    exact ⟨r_, h1, h2⟩
   subst uE
   refine (hc.2 W.cell? hg W #[v0, .slice a1 l1 c1, .slice a2 l2 c2] (fun _ _ h => h) ?_).mono fun o W' h => ?_
   ·exact .cons (LL (by simp [bm]) jF) (.cons (IC r5) (.cons (IC xt) (.nil _)))
   ·obtain ⟨F', x, rfl, -, -, -, ⟨JD, hx⟩, yM⟩ := h
    obtain rfl := b9 hx
    exact ⟨rfl, yM⟩
  exact go (Yl n) rfl (@Gl.mk (Yl n) _ (fun g hg => by cases hg; exact hn) (fun g cs j x h => by cases h))
 refine main.mono fun e W' ⟨he, yM⟩ => ?_
 subst he
 have I8 : laidOutB Tryz.prog = true := by kernel_rfl
 refine ⟨_, rfl, Ff (pa := p0 ++ (p1 ++ (p2 ++ []))) (pv := []) Yr (fun _ _ _ => trodAll_cons_mk (shut_bool Tryz.underlying4 _) trodAll_mk0) (fun sp tW => ?_) (fun _ _ => rfl) (by simp)
  yM (ok_one (by kernel_rfl) rfl (okWide_bool_mk Tryz.underlying4 _))⟩
 ·refine trodAll_cons_mk (WideElems.Trod_stays I8 (by kernel_rfl) (of_decide_eq_true (by kernel_rfl)) WD (fun x hx => yM.same (aB x (by simp [hx]))) (fun x hx => tW x (by simp [hx])))
   (trodAll_cons_mk (WideElems.Trod_stays I8 (by kernel_rfl) (of_decide_eq_true (by kernel_rfl)) FI (fun x hx => yM.same (aB x (by simp [hx]))) (fun x hx => tW x (by simp [hx])))
   (trodAll_cons_mk (WideElems.Trod_stays I8 (by kernel_rfl) (of_decide_eq_true (by kernel_rfl)) Q0 (fun x hx => yM.same (aB x (by simp [hx]))) (fun x hx => tW x (by simp [hx])))
   trodAll_mk0))
end Go.Proofs.YtnfeacnbgbggfaaGreatDoor.lawIndexReaches
end

section
namespace Go.Proofs.YtnfeacnbgbggfaaGreatDoor
open Go.ChangeShapes Go.WideShapes Go.ChangeAt Go.RowKit
theorem own : ownKnob Tryz.prog.godebug = none := by kernel_rfl
def wIx : Value := .agg #[.slice none 0 0, .slice none 0 0]
def dIx (H : Type) : DataW H := .agg [.nil, .nil]
def Nc (cs : Array Value) : Obj → Obj
 | .cells _ t frozen => .cells cs t frozen
 | o => o
def Xr : List Nat := [128,191,160,191,128,159,144,191,128,143,0,0,0,0,0,0,0,0,0,0,0,0,0,0,0,0,0,0,0,0,0,0]
noncomputable def qp (os : Os) : World :=
 { World.holding Tryz.prog os ⟨#[], #[], []⟩ with heap := ((World.holding Tryz.prog os ⟨#[], #[], []⟩).heap.modify 1 (Nc ⟨Pinned.utf8FirstZ.map fun n => Value.int .u8 (Int.ofNat n)⟩)).modify 2 (Nc ⟨Xr.map fun n => Value.int .u8 (Int.ofNat n)⟩) }
end Go.Proofs.YtnfeacnbgbggfaaGreatDoor
end
