/-
  CONTRACTS: Canonical, by the reference.
  PLAIN: keywords, segments and versions of paths, as the reference of layer 3 finds them.
  CONTRACTS: names, by the reference.
  CONTRACTS: versions of paths, by the reference.
  CONTRACTS: paths, by the reference.
  CONTRACTS: lines, comparing, by the reference.
  CONTRACTS: the checks, by the reference.
  CONTRACTS: Find, by the reference.
  CONTRACTS: Versions, Available, equal lists.
  CONTRACTS: Paths, by the reference.
  CONTRACTS: slices.Sort at strings, in place, by the kit's contract; the paths of a right index.
  CONTRACTS: Paths.
  THE LAW IndexLooks.
  THE LAW IndexLooks, A: what it does at every argument of the bound, in every world of the shape.
  CLOSING, B: a world for the witness.
-/
import Derived.Test.YtnfeacnbgbggfaaGreatDoorZ6
import Derived.Test.YtnfeacnbgbggfaaGreatDoorCards
import Derived.Test.YtnfeacnbgbggfaaGreatDoorTie
import Derived.Lib.LaidTab
set_option linter.all false
section
namespace Go.Proofs.YtnfeacnbgbggfaaGreatDoor
open Go.Eng
open Nat renaming reduceAdd → zA, reduceLT → zB, reduceLeDiff → zC, reduceMul → zD, reduceEqDiff → zE, reduceSub → zF
variable [aH]
set_option maxHeartbeats 4000000
set_option maxRecDepth 100000
theorem Eg {L : List bB} {x : bB} {k : Nat} (ha : fY L) (hd : ∀ y ∈ L.drop k, x.lo ≤ y.lo) (ht : ∀ y ∈ L.take k, y.lo ≤ x.lo) : fY (L.take k ++ x :: L.drop k) := by
  have h := ha
  rw [← List.take_append_drop k L] at h
  obtain ⟨h1, h2, h3⟩ := List.pairwise_append.1 h
  refine List.pairwise_append.2 ⟨h1, List.pairwise_cons.2 ⟨hd, h2⟩, fun a ha b hb => ?_⟩
  rcases List.mem_cons.1 hb with rfl | hb
  · exact ht a ha
  · exact h3 a ha b hb
theorem As {L : List bB} {k : Nat} {z : bB} {c : Int} (ha : fY L) (hk : 0 < k) (hz : L[k - 1]? = some z) (hc : z.lo ≤ c) : ∀ y ∈ L.take k, y.lo ≤ c := by
  intro y hy
  have e : L.take k = L.take (k - 1) ++ [z] := by
    have := List.take_add_one (l := L) (i := k - 1)
    rw [Nat.sub_add_cancel hk, hz] at this
    exact this
  rw [e] at hy
  have h : fY (L.take k) := List.Pairwise.sublist (List.take_sublist _ _) ha
  rw [e] at h
  obtain ⟨-, -, h3⟩ := List.pairwise_append.1 h
  rcases List.mem_append.1 hy with hy | hy
  · have := h3 y hy z (List.mem_singleton.2 rfl); omega
  · rw [List.mem_singleton.1 hy]; exact hc
theorem FU {L : List bB} {k : Nat} {z : bB} (hk : 0 < k) (hz : L[k - 1]? = some z) : L.drop (k - 1) = z :: L.drop k := by
  have aD := (List.getElem?_eq_some_iff.1 hz).1
  rw [List.drop_eq_getElem_cons aD, (List.getElem?_eq_some_iff.1 hz).2, Nat.sub_add_cancel hk]
theorem iy (L : List bB) (k : Nat) : bY (L.map aj) k 2 = true := by
  unfold bY
  rw [List.getElem?_map]
  cases L[k]? <;> rfl
theorem Au {L m : List bB} {x : bB} (k : Nat) (h : L.Perm m) : (L.take k ++ x :: L.drop k).Perm (m ++ [x]) := by
  refine List.perm_middle.trans ?_
  rw [List.take_append_drop]
  exact ((List.Perm.cons x h).trans (List.perm_append_comm (l₁ := [x]) (l₂ := m)))
theorem FV (o : List bB) (x : bB) : (dm o x).length ≤ o.length + 1 := by
  unfold dm
  split
  · split
    · simp only [List.length_append,List.length_dropLast,List.length_singleton]; omega
    · simp only [List.length_append,List.length_singleton]; omega
  · simp only [List.length_singleton]; omega
theorem vY (l : List bB) : (merge l).length ≤ l.length := by
  have key : ∀ (l o : List bB), (l.foldl dm o).length ≤ o.length + l.length := by
    intro l
    induction l with
    | nil => intro o; exact Nat.le_refl _
    | cons x l ih =>
      intro o
      rw [List.foldl_cons, List.length_cons]
      have := ih (dm o x); have := FV o x; omega
  have := key l []
  simpa [merge] using this
theorem I9 {R : List bB} {y : bB} (h : R.getLast? = some y) (z : bB) : R.set (R.length - 1) z = R.dropLast ++ [z] := by
  obtain ⟨D, rfl⟩ := List.getLast?_eq_some_iff.1 h
  rw [List.length_append, List.length_singleton, Nat.add_sub_cancel, List.set_append_right _ _ (Nat.le_refl _), Nat.sub_self, List.set_cons_zero, List.dropLast_concat]
theorem CJ {mem : List aw} {b v e l : Nat} {rs D6 : List V} (h : mem[b]? = some (.rows v e rs)) (hl : l = rs.length) (hr : rs = D6) : dO mem (.ms b v 0 l) = some (.slice D6) := by
  subst hl; subst hr
  simp [dO, bu, h]
theorem qz (s : List bB) (hl : s.length ≤ 1048576) : ∃ r_, (fun w => w = ak (canon s)) r_ ∧ aO Tryz.prog 88 [ak s] r_ := by
  refine ef tt_ok [4] 113 [.tmp 2] (fn := Tryz.f88) Tryz.func88 rfl Tryz.call88 ⟨rfl, rfl, by simp⟩ fun K hK => ?_
  simp only [ak]
  simp only [List.length_map,go_sem,reduceIte,zA,zB,zC,zD,zE,zF,reduceCtorEq]
  refine rM (v' := .slice []) 3 (by decide) rfl rfl ?_
  refine cO tt_ok [4] (fun a : Nat × List bB => [(0, .slice (s.map aj)), (3, .slice (a.2.map aj)), (4, num a.1)]) (fun a : Nat × List bB => []) (fun a => s.length - a.1) (fun a => a.1 ≤ s.length ∧ a.2.Perm (clip (s.take a.1)) ∧ fY a.2) ((0, [])) 0 (bm (by omega) (by simp only [List.length_map,List.map_nil,Int.cast_ofNat_Int,go_sem,reduceIte,zA,zB,zC,zD,zE,zF,reduceCtorEq] <;> rfl)) (⟨Nat.zero_le _, List.Perm.refl _, List.Pairwise.nil⟩) ?_
  rintro ⟨i, L⟩ ⟨hi, hp, hA⟩
  try dsimp only at hi hp hA
  try dsimp only
  intro Z1 bW
  simp only [List.length_map,go_sem,reduceIte,zA,zB,zC,zD,zE,zF,reduceCtorEq]
  refine aM (fun cX => ?_) (fun cX => ?_)
  · skip
    have aD : i < s.length := by simpa using cX
    have hw := aB i (by omega)
    obtain ⟨x, hx⟩ : ∃ x, s[i]? = some x := ⟨_, List.getElem?_eq_getElem aD⟩
    have r9 : (if (0 : Int) < x.lo then x.lo else 0) = max x.lo 0 := by split <;> omega
    have rG : (if x.hi < (1000000 : Int) then x.hi else 1000000) = min x.hi 1000000 := by split <;> omega
    have Ck : L.length ≤ 1048576 := by rw [hp.length_eq]; have := gV (s.take i); rw [List.length_take] at this; omega
    simp only [hw,List.getElem?_map,hx,aj,r9,rG,List.length_map,go_sem,reduceIte,zA,zB,zC,zD,zE,zF,reduceCtorEq]
    refine bI tt_ok aK [⟨.n, 0, [], [], []⟩, ⟨.n, 0, [], [], []⟩, ⟨.r, 0, [0], [], []⟩, ⟨.n, 0, [], [], []⟩, ⟨.r, 0, [0], [], []⟩, ⟨.n, 0, [], [], []⟩, ⟨.n, 0, [], [], []⟩, ⟨.n, 0, [], [], []⟩, ⟨.r, 0, [0], [], []⟩, ⟨.n, 0, [], [], []⟩, ⟨.r, 0, [0], [], []⟩, ⟨.n, 0, [], [], []⟩, ⟨.n, 0, [], [], []⟩, ⟨.a, 0, [], [], []⟩, ⟨.s, 0, [], [], []⟩] 1 (by kernel_rfl) ?_
    simp only [hw,List.getElem?_map,hx,aj,r9,rG,List.length_map,go_sem,reduceIte,zA,zB,zC,zD,zE,zF,reduceCtorEq]
    refine aM (fun Av => ?_) (fun Av => ?_)
    · skip
      let nv : Nat × List bB := (i + 1, L)
      have oq : L.Perm (clip (s.take (i + 1))) := by rw [mI hx, DK (by have := of_decide_eq_true Av; omega)]; simpa using hp
      have C3 : fY nv.2 := hA
      simp only [hw,List.getElem?_map,hx,aj,r9,rG,List.length_map,go_sem,reduceIte,zA,zB,zC,zD,zE,zF,reduceCtorEq]
      refine rM (v' := .slice (nv.2.map aj)) 3 (by decide) rfl (by first | rfl | exact CJ rfl (by simp [uW]) (by simp [nv, aj])) ?_
      refine BL tt_ok ?_
      simp only [hw,List.getElem?_map,hx,aj,r9,rG,List.length_map,go_sem,reduceIte,zA,zB,zC,zD,zE,zF,reduceCtorEq]
      refine bW _ ⟨nv, ?_, ?_, bm (by omega) (by (simp [nv, lg, lk, bo, bF, ai, az]))⟩
      · exact ⟨aD, oq, C3⟩
      · dsimp only [nv]; omega
    · skip
      have ko : clip (s.take (i + 1)) = clip (s.take i) ++ [⟨max x.lo 0, min x.hi 1000000⟩] := by rw [mI hx, DJ (by have := of_decide_eq_false Av; omega)]; rfl
      simp only [hw,List.getElem?_map,hx,aj,r9,rG,List.length_map,go_sem,reduceIte,zA,zB,zC,zD,zE,zF,reduceCtorEq]
      refine bL tt_ok [4] [6] 1 [0,2,3,4,5,11,12,13,14,17,18,19,20,21,22,23,24,25,26,27,28,29,30,31,32,33,34,35,36] (fun vs => (Go.Eng.intOf (vs.headD .undef)).toNat) (fun vs => ∃ k : Nat, vs = [num k] ∧ k ≤ L.length ∧ ∀ y ∈ L.drop k, max x.lo 0 ≤ y.lo) (by omega) (by simp only [hw,List.getElem?_map,hx,aj,r9,rG,List.length_map,go_sem,reduceIte,zA,zB,zC,zD,zE,zF,reduceCtorEq]) (⟨L.length, rfl, Nat.le_refl _, fun y hy => by rw [List.drop_length] at hy; cases hy⟩) fun vs hI Z2 qk => ?_
      obtain ⟨k, rfl, hk, hd⟩ := hI
      simp only [hw,List.getElem?_map,hx,aj,r9,rG,List.length_map,go_sem,reduceIte,zA,zB,zC,zD,zE,zF,reduceCtorEq]
      refine bI tt_ok aK [⟨.n, 0, [], [], []⟩, ⟨.n, 0, [], [], []⟩, ⟨.n, 0, [], [], []⟩, ⟨.n, 0, [], [], []⟩, ⟨.n, 0, [], [], []⟩, ⟨.n, 0, [], [], []⟩, ⟨.r, 0, [], [], []⟩, ⟨.n, 0, [], [], []⟩, ⟨.r, 0, [], [], []⟩, ⟨.n, 0, [], [], []⟩, ⟨.r, 0, [], [], []⟩, ⟨.n, 0, [], [], []⟩, ⟨.n, 0, [], [], []⟩] 0 (by kernel_rfl) ?_
      simp only [hw,List.getElem?_map,hx,aj,r9,rG,List.length_map,go_sem,reduceIte,zA,zB,zC,zD,zE,zF,reduceCtorEq]
      refine aM (fun Eh => ?_) (fun Eh => ?_)
      · skip
        have XF : 0 < k := by have := of_decide_eq_true Eh; omega
        obtain ⟨z, hz⟩ : ∃ z, L[k - 1]? = some z := ⟨_, List.getElem?_eq_getElem (by omega)⟩
        have Rz : IntKind.i64.wrap ((k : Int) - 1) = ((k - 1 : Nat) : Int) := jV _ _ (by omega) (by omega)
        simp only [hw,List.getElem?_map,hx,aj,r9,rG,Rz,hz,List.length_map,go_sem,reduceIte,zA,zB,zC,zD,zE,zF,reduceCtorEq]
        refine aM (fun Mk => ?_) (fun Mk => ?_)
        · skip
          simp only [hw,List.getElem?_map,hx,aj,r9,rG,Rz,hz,List.length_map,go_sem,reduceIte,zA,zB,zC,zD,zE,zF,reduceCtorEq]
          refine qk _ (dD (by omega) (by simp only [hw,List.getElem?_map,hx,aj,r9,rG,Rz,hz,List.length_map,go_sem,reduceIte,zA,zB,zC,zD,zE,zF,reduceCtorEq]) ?_ ?_) <;> simp only [gQ,lk,reduceIte,zE]
          · refine ⟨k - 1, rfl, by omega, fun y hy => ?_⟩
            rw [FU XF hz] at hy
            rcases List.mem_cons.1 hy with rfl | hy
            · have := of_decide_eq_true Mk; omega
            · exact hd y hy
          · simp only [Go.Eng.intOf,List.headD_cons]; omega
        · skip
          have ht : ∀ y ∈ L.take k, y.lo ≤ max x.lo 0 := by
            by_cases JM : k = 0
            · subst JM; simp
            · first
              | exact As hA XF hz (by have := of_decide_eq_false Mk; omega)
              | (exfalso; have := of_decide_eq_false Eh; omega)
          have Ml : (k : Int) ≤ (L.length : Int) := by omega
          have fT := iy L k
          have XG : (List.drop k (List.map aj L)).take ((L.length : Int) - (k : Int)).toNat = (L.drop k).map aj := by rw [← List.map_drop, List.take_of_length_le]; rw [List.length_map, List.length_drop]; omega
          have c7 : ∀ mem : List aw, cutAt mem 2 (k : Int) none (.slice (L.map aj)) = some (.slice ((L.drop k).map aj)) := fun mem => by
            unfold cutAt
            simp only [Option.getD_none,List.length_map,Int.natCast_nonneg,Ml,Int.le_refl,Int.toNat_natCast,fT,and_self,if_true,XG]
          have tW := iy (L.drop k) 0
          have sf : List.take k (List.map aj L) = (L.take k).map aj := (List.map_take ..).symm
          have CK := iy (L.take k) 0
          have rF : 1 + (L.length - k) ≤ 34359738368 := by omega
          have Kp : List.take (L.length - k) (List.map aj (L.drop k)) = (L.drop k).map aj := List.take_of_length_le (by rw [List.length_map, List.length_drop]; exact Nat.le_refl _)
          let nv : Nat × List bB := (i + 1, L.take k ++ ⟨max x.lo 0, min x.hi 1000000⟩ :: L.drop k)
          have oq : nv.2.Perm (clip (s.take (i + 1))) := by rw [ko]; exact Au k hp
          have C3 : fY nv.2 := Eg hA hd ht
          have uW : min k L.length = k := Nat.min_eq_left hk
          have ur : k + (L.length - k + 1) ≤ 34359738368 := by omega
          simp only [hw,List.getElem?_map,hx,aj,r9,rG,Rz,hz,Ml,c7,Kp,Nat.min_self,tW,sf,CK,rF,uW,ur,List.length_drop,List.length_take,List.length_append,List.length_cons,List.length_nil,Nat.zero_add,Int.le_refl,Int.natCast_nonneg,Int.toNat_natCast,List.length_map,go_sem,reduceIte,zA,zB,zC,zD,zE,zF,reduceCtorEq]
          refine bI tt_ok aK [⟨.n, 0, [], [], []⟩, ⟨.n, 0, [], [], []⟩, ⟨.n, 0, [], [], []⟩, ⟨.n, 0, [], [0,1,2], []⟩, ⟨.r, 0, [], [], []⟩, ⟨.a, 0, [], [4], []⟩, ⟨.n, 0, [], [], []⟩, ⟨.n, 0, [], [], []⟩, ⟨.r, 0, [0], [6,7], []⟩, ⟨.w, 1, [], [4,5,6,7,8], []⟩, ⟨.w, 2, [], [0,1,2,3,4,5,6,7,8,9], []⟩, ⟨.n, 0, [], [0,1,2,3,4,5,6,7,8,9,10], []⟩] 3 (by kernel_rfl) ?_
          simp only [hw,List.getElem?_map,hx,aj,r9,rG,Rz,hz,Ml,c7,Kp,Nat.min_self,tW,sf,CK,rF,uW,ur,List.length_drop,List.length_take,List.length_append,List.length_cons,List.length_nil,Nat.zero_add,Int.le_refl,Int.natCast_nonneg,Int.toNat_natCast,List.length_map,go_sem,reduceIte,zA,zB,zC,zD,zE,zF,reduceCtorEq]
          refine rM (v' := .slice (nv.2.map aj)) 3 (by decide) rfl (by first | rfl | exact CJ rfl (by simp [uW]) (by simp [nv, aj])) ?_
          refine BL tt_ok ?_
          simp only [hw,List.getElem?_map,hx,aj,r9,rG,Rz,hz,Ml,c7,Kp,Nat.min_self,tW,sf,CK,rF,uW,ur,List.length_drop,List.length_take,List.length_append,List.length_cons,List.length_nil,Nat.zero_add,Int.le_refl,Int.natCast_nonneg,Int.toNat_natCast,List.length_map,go_sem,reduceIte,zA,zB,zC,zD,zE,zF,reduceCtorEq]
          refine bW _ ⟨nv, ?_, ?_, bm (by omega) (by (simp [nv, lg, lk, bo, bF, ai, az]))⟩
          · exact ⟨aD, oq, C3⟩
          · dsimp only [nv]; omega
      · skip
        have ht : ∀ y ∈ L.take k, y.lo ≤ max x.lo 0 := by
          by_cases JM : k = 0
          · subst JM; simp
          · first
            | exact As hA XF hz (by have := of_decide_eq_false Mk; omega)
            | (exfalso; have := of_decide_eq_false Eh; omega)
        have Ml : (k : Int) ≤ (L.length : Int) := by omega
        have fT := iy L k
        have XG : (List.drop k (List.map aj L)).take ((L.length : Int) - (k : Int)).toNat = (L.drop k).map aj := by rw [← List.map_drop, List.take_of_length_le]; rw [List.length_map, List.length_drop]; omega
        have c7 : ∀ mem : List aw, cutAt mem 2 (k : Int) none (.slice (L.map aj)) = some (.slice ((L.drop k).map aj)) := fun mem => by
          unfold cutAt
          simp only [Option.getD_none,List.length_map,Int.natCast_nonneg,Ml,Int.le_refl,Int.toNat_natCast,fT,and_self,if_true,XG]
        have tW := iy (L.drop k) 0
        have sf : List.take k (List.map aj L) = (L.take k).map aj := (List.map_take ..).symm
        have CK := iy (L.take k) 0
        have rF : 1 + (L.length - k) ≤ 34359738368 := by omega
        have Kp : List.take (L.length - k) (List.map aj (L.drop k)) = (L.drop k).map aj := List.take_of_length_le (by rw [List.length_map, List.length_drop]; exact Nat.le_refl _)
        let nv : Nat × List bB := (i + 1, L.take k ++ ⟨max x.lo 0, min x.hi 1000000⟩ :: L.drop k)
        have oq : nv.2.Perm (clip (s.take (i + 1))) := by rw [ko]; exact Au k hp
        have C3 : fY nv.2 := Eg hA hd ht
        have uW : min k L.length = k := Nat.min_eq_left hk
        have ur : k + (L.length - k + 1) ≤ 34359738368 := by omega
        simp only [hw,List.getElem?_map,hx,aj,r9,rG,Ml,c7,Kp,Nat.min_self,tW,sf,CK,rF,uW,ur,List.length_drop,List.length_take,List.length_append,List.length_cons,List.length_nil,Nat.zero_add,Int.le_refl,Int.natCast_nonneg,Int.toNat_natCast,List.length_map,go_sem,reduceIte,zA,zB,zC,zD,zE,zF,reduceCtorEq]
        refine bI tt_ok aK [⟨.n, 0, [], [], []⟩, ⟨.n, 0, [], [], []⟩, ⟨.n, 0, [], [], []⟩, ⟨.n, 0, [], [0,1,2], []⟩, ⟨.r, 0, [], [], []⟩, ⟨.a, 0, [], [4], []⟩, ⟨.n, 0, [], [], []⟩, ⟨.n, 0, [], [], []⟩, ⟨.r, 0, [0], [6,7], []⟩, ⟨.w, 1, [], [4,5,6,7,8], []⟩, ⟨.w, 2, [], [0,1,2,3,4,5,6,7,8,9], []⟩, ⟨.n, 0, [], [0,1,2,3,4,5,6,7,8,9,10], []⟩] 3 (by kernel_rfl) ?_
        simp only [hw,List.getElem?_map,hx,aj,r9,rG,Ml,c7,Kp,Nat.min_self,tW,sf,CK,rF,uW,ur,List.length_drop,List.length_take,List.length_append,List.length_cons,List.length_nil,Nat.zero_add,Int.le_refl,Int.natCast_nonneg,Int.toNat_natCast,List.length_map,go_sem,reduceIte,zA,zB,zC,zD,zE,zF,reduceCtorEq]
        refine rM (v' := .slice (nv.2.map aj)) 3 (by decide) rfl (by first | rfl | exact CJ rfl (by simp [uW]) (by simp [nv, aj])) ?_
        refine BL tt_ok ?_
        simp only [hw,List.getElem?_map,hx,aj,r9,rG,Ml,c7,Kp,Nat.min_self,tW,sf,CK,rF,uW,ur,List.length_drop,List.length_take,List.length_append,List.length_cons,List.length_nil,Nat.zero_add,Int.le_refl,Int.natCast_nonneg,Int.toNat_natCast,List.length_map,go_sem,reduceIte,zA,zB,zC,zD,zE,zF,reduceCtorEq]
        refine bW _ ⟨nv, ?_, ?_, bm (by omega) (by (simp [nv, lg, lk, bo, bF, ai, az]))⟩
        · exact ⟨aD, oq, C3⟩
        · dsimp only [nv]; omega
  · skip
    have c5 : ¬ i < s.length := by simpa using cX
    have DP : L.Perm (clip s) := by rw [show i = s.length by omega, List.take_length] at hp; exact hp
    have Ck : L.length ≤ 1048576 := by rw [DP.length_eq]; have := gV s; omega
    simp only [List.length_map,go_sem,reduceIte,zA,zB,zC,zD,zE,zF,reduceCtorEq]
    refine cO tt_ok [4] (fun a : Nat × List bB => [(3, .slice (L.map aj)), (7, .ms 0 a.2.length 0 a.2.length), (8, num a.1)]) (fun a : Nat × List bB => [.rows (a.2.length) 2 (a.2.map aj)]) (fun a => L.length - a.1) (fun a => a.1 ≤ L.length ∧ a.2 = merge (L.take a.1)) ((0, [])) 1 (bm (by omega) (by simp only [List.length_map,List.map_nil,List.length_nil,Int.cast_ofNat_Int,go_sem,reduceIte,zA,zB,zC,zD,zE,zF,reduceCtorEq] <;> rfl)) (⟨Nat.zero_le _, rfl⟩) ?_
    rintro ⟨i, R⟩ ⟨hi, hR⟩
    try dsimp only at hi hR
    try dsimp only
    intro Z3 FF
    simp only [List.length_map,go_sem,reduceIte,zA,zB,zC,zD,zE,zF,reduceCtorEq]
    refine aM (fun xJ => ?_) (fun xJ => ?_)
    · skip
      have aD : i < L.length := by simpa using xJ
      have hw := aB i (by omega)
      obtain ⟨x, hx⟩ : ∃ x, L[i]? = some x := ⟨_, List.getElem?_eq_getElem aD⟩
      have IS : R.length ≤ i := by rw [hR]; have := vY (L.take i); rw [List.length_take] at this; omega
      have er : R.length + 1 ≤ 34359738368 := by omega
      simp only [hw,List.getElem?_map,hx,aj,er,List.length_append,List.length_cons,List.length_nil,Nat.zero_add,List.length_map,go_sem,reduceIte,zA,zB,zC,zD,zE,zF,reduceCtorEq]
      refine bI tt_ok aK [⟨.n, 0, [], [], []⟩, ⟨.n, 0, [], [], []⟩, ⟨.n, 0, [], [], []⟩, ⟨.n, 0, [], [], []⟩, ⟨.n, 0, [], [], []⟩, ⟨.r, 0, [], [], []⟩, ⟨.n, 0, [], [], []⟩, ⟨.r, 0, [], [], []⟩, ⟨.n, 0, [], [], []⟩, ⟨.n, 0, [], [], []⟩, ⟨.n, 0, [], [], []⟩, ⟨.r, 0, [], [], []⟩, ⟨.n, 0, [], [], []⟩, ⟨.r, 0, [], [], []⟩, ⟨.n, 0, [], [], []⟩, ⟨.n, 0, [], [], []⟩] 0 (by kernel_rfl) ?_
      simp only [hw,List.getElem?_map,hx,aj,er,List.length_append,List.length_cons,List.length_nil,Nat.zero_add,List.length_map,go_sem,reduceIte,zA,zB,zC,zD,zE,zF,reduceCtorEq]
      refine aM (fun xK => ?_) (fun xK => ?_)
      · skip
        have iG : 0 < R.length := by have := of_decide_eq_true xK; omega
        obtain ⟨y, hy⟩ : ∃ y, R[R.length - 1]? = some y := ⟨_, List.getElem?_eq_getElem (by omega)⟩
        have nB : R.getLast? = some y := by rw [List.getLast?_eq_getElem?]; exact hy
        have Lj : IntKind.i64.wrap ((R.length : Int) - 1) = ((R.length - 1 : Nat) : Int) := jV _ _ (by omega) (by omega)
        have DL : ((R.length - 1 : Nat) : Int) < (R.length : Int) := by omega
        simp only [hw,List.getElem?_map,hx,aj,er,List.length_append,List.length_cons,List.length_nil,Nat.zero_add,Lj,hy,DL,List.length_map,go_sem,reduceIte,zA,zB,zC,zD,zE,zF,reduceCtorEq]
        refine aM (fun Mm => ?_) (fun Mm => ?_)
        · skip
          have hle : x.lo ≤ y.hi := by simpa using Mm
          have Uc : (if y.hi < x.hi then x.hi else y.hi) = max y.hi x.hi := by split <;> omega
          let nv : Nat × List bB := (i + 1, R.set (R.length - 1) ⟨y.lo, max y.hi x.hi⟩)
          have uX : R.set (R.length - 1) ⟨y.lo, max y.hi x.hi⟩ = merge (L.take (i + 1)) := by
            rw [iU hx, ← hR]; unfold dm; rw [nB]; dsimp only; rw [if_pos hle]; exact I9 nB _
          simp only [hw,List.getElem?_map,hx,aj,er,List.length_append,List.length_cons,List.length_nil,Nat.zero_add,Lj,hy,DL,Uc,List.length_map,go_sem,reduceIte,zA,zB,zC,zD,zE,zF,reduceCtorEq]
          refine bI tt_ok aK [⟨.n, 0, [], [], []⟩, ⟨.n, 0, [], [], []⟩, ⟨.n, 0, [], [1], []⟩, ⟨.n, 0, [], [], []⟩, ⟨.n, 0, [], [], []⟩, ⟨.n, 0, [], [4], []⟩, ⟨.r, 0, [], [3,4,5], []⟩, ⟨.n, 0, [], [3,4,5,6], []⟩, ⟨.r, 0, [], [3,4,5,6,7], []⟩, ⟨.n, 0, [], [], []⟩, ⟨.n, 0, [], [], []⟩, ⟨.r, 0, [], [9,10], []⟩, ⟨.n, 0, [], [9,10,11], []⟩, ⟨.r, 0, [], [9,10,11,12], []⟩, ⟨.n, 0, [], [3,4,5,6,7,8,9,10,11,12,13], []⟩, ⟨.r, 0, [], [0,1,2,3,4,5,6,7,8,9,10,11,12,13,14], []⟩, ⟨.n, 0, [], [0,1,2,3,4,5,6,7,8,9,10,11,12,13,14,15], []⟩, ⟨.w, 0, [], [0,1,2,3,4,5,6,7,8,9,10,11,12,13,14,15,16], []⟩] 1 (by kernel_rfl) ?_
          simp only [hw,List.getElem?_map,hx,aj,er,List.length_append,List.length_cons,List.length_nil,Nat.zero_add,Lj,hy,DL,Uc,List.length_map,go_sem,reduceIte,zA,zB,zC,zD,zE,zF,reduceCtorEq]
          refine FF _ ⟨nv, ?_, ?_, bm (by omega) (by (simp [nv, lg, lk, bo, bF, ai, az, List.map_set, List.map_append, aj, setRow, cB, V.cells]))⟩
          · exact ⟨aD, uX⟩
          · dsimp only [nv]; omega
        · skip
          have AJ : dm R x = R ++ [x] := mJ fun z FI => by
            first
              | (rw [nB] at FI; cases FI; have := of_decide_eq_false Mm; omega)
              | (have h0 : R = [] := List.length_eq_zero_iff.1 (by have := of_decide_eq_false xK; omega)
                 rw [h0] at FI; cases FI)
          let nv : Nat × List bB := (i + 1, R ++ [x])
          have uX : nv.2 = merge (L.take (i + 1)) := by rw [iU hx, ← hR, AJ]
          simp only [hw,List.getElem?_map,hx,aj,er,List.length_append,List.length_cons,List.length_nil,Nat.zero_add,Lj,hy,DL,List.length_map,go_sem,reduceIte,zA,zB,zC,zD,zE,zF,reduceCtorEq]
          refine FF _ ⟨nv, ?_, ?_, bm (by omega) (by (simp [nv, lg, lk, bo, bF, ai, az, List.map_set, List.map_append, aj, setRow, cB, V.cells]))⟩
          · exact ⟨aD, uX⟩
          · dsimp only [nv]; omega
      · skip
        have AJ : dm R x = R ++ [x] := mJ fun z FI => by
          first
            | (rw [nB] at FI; cases FI; have := of_decide_eq_false Mm; omega)
            | (have h0 : R = [] := List.length_eq_zero_iff.1 (by have := of_decide_eq_false xK; omega)
               rw [h0] at FI; cases FI)
        let nv : Nat × List bB := (i + 1, R ++ [x])
        have uX : nv.2 = merge (L.take (i + 1)) := by rw [iU hx, ← hR, AJ]
        simp only [hw,List.getElem?_map,hx,aj,er,List.length_append,List.length_cons,List.length_nil,Nat.zero_add,List.length_map,go_sem,reduceIte,zA,zB,zC,zD,zE,zF,reduceCtorEq]
        refine FF _ ⟨nv, ?_, ?_, bm (by omega) (by (simp [nv, lg, lk, bo, bF, ai, az, List.map_set, List.map_append, aj, setRow, cB, V.cells]))⟩
        · exact ⟨aD, uX⟩
        · dsimp only [nv]; omega
    · skip
      have TQ : ¬ i < L.length := by simpa using xJ
      have gw : R = canon s := by rw [hR, show i = L.length by omega, List.take_length]; exact zo DP hA
      simp only [List.length_map,go_sem,reduceIte,zA,zB,zC,zD,zE,zF,reduceCtorEq]
      refine hK _ ?_
      simp [jO, jN, lL, yv, dO, bu, ak, ← gw, List.take_of_length_le]
end Go.Proofs.YtnfeacnbgbggfaaGreatDoor
end

section
namespace Go.Proofs.YtnfeacnbgbggfaaGreatDoor
open Go.Eng
def Ud : List (List UInt8) := [[97,110,100], [97,110,121], [97,115], [98,111,111,108], [100,101,112,114,101,99,97,116,101,100], [101,108,115,101], [101,120,112,111,114,116], [102,97,108,115,101], [102,110], [102,111,108,100], [102,114,111,109], [105,102], [105,109,112,111,114,116], [105,110], [105,110,116], [108,101,110,103,116,104], [108,101,116], [108,105,115,116], [109,97,116,99,104], [109,111,100,117,108,101], [110,111,110,101], [110,111,116], [111,114], [116,101,120,116], [116,104,101,110], [116,114,117,101], [116,121,112,101], [117,115,101]]
def QI : List ByteArray := Ud.map fun l => ⟨l.toArray⟩
theorem Mn : Ud.all (fun k => Lib.contains nA.data.toList (32 :: k ++ [32])) = true := by kernel_rfl
def tw (l : List UInt8) : List UInt8 := l.takeWhile (· != 32)
theorem Ue : (List.range 200).all (fun i => !((nA.data.toList.drop i).head? == some 32) || ((nA.data.toList.drop (i + 1)).isEmpty || Ud.contains (tw (nA.data.toList.drop (i + 1))))) = true := by kernel_rfl
theorem QJ {k r : List UInt8} (h : ∀ b ∈ k, b ≠ 32) : tw (k ++ 32 :: r) = k := by
 induction k with
 | nil => rfl
 | cons b k ih =>
  have hb : (b != 32) = true := by simpa using h b (List.mem_cons_self ..)
  show List.takeWhile _ (b :: (k ++ 32 :: r)) = _
  rw [List.takeWhile_cons, hb]
  simp only [if_true]
  exact congrArg (b :: ·) (ih fun c hc => h c (List.mem_cons_of_mem _ hc))
theorem Mo : Nat.ble nA.data.toList.length 200 = true := by kernel_rfl
theorem Mp (s : ByteArray) (h : gr kK s = true) : U0 s = QI.any fun k => decide (k = s) := by
 have dW : ∀ b ∈ bn s, b ≠ 32 := fun b hb e => by
  have h1 := List.all_eq_true.1 h b hb
  rw [e] at h1; revert h1; decide
 have hd : (⟨#[32]⟩ ++ s ++ ⟨#[32]⟩ : ByteArray).data.toList = 32 :: bn s ++ [32] := by
  rw [ByteArray.data_append, ByteArray.data_append]
  simp [bn]
 have hm : s ∈ QI ↔ bn s ∈ Ud := by
  unfold QI
  rw [List.mem_map]
  refine ⟨fun ⟨l, hl, e⟩ => by rw [← e]; simpa [bn] using hl, fun h => ⟨_, h, ?_⟩⟩
  obtain ⟨⟨l⟩⟩ := s; rfl
 have OD : (QI.any fun k => decide (k = s)) = true ↔ bn s ∈ Ud := by
  rw [List.any_eq_true, ← hm]
  exact ⟨fun ⟨k, hk, e⟩ => by rw [← of_decide_eq_true e]; exact hk, fun h => ⟨s, h, by simp⟩⟩
 rw [Bool.eq_iff_iff, OD]
 unfold U0
 rw [hd]
 constructor
 ·intro hc
  unfold Lib.contains at hc
  rw [decide_eq_true_eq] at hc
  rcases Lib.index_spec nA.data.toList (32 :: bn s ++ [32]) with ⟨h1, _⟩ | ⟨i, h1, h2, h3, _⟩
  ·omega
  unfold Lib.occAt at h3
  rw [List.isPrefixOf_iff_prefix] at h3
  obtain ⟨r, hr⟩ := h3
  have hi : i < 200 := by
   have hl := congrArg List.length hr
   have := Nat.le_of_ble_eq_true Mo
   simp only [List.length_append,List.length_cons,List.length_drop] at hl; omega
  have h4 := List.all_eq_true.1 Ue i (List.mem_range.2 hi)
  have e1 : nA.data.toList.drop (i + 1) = bn s ++ 32 :: r := by
   have : nA.data.toList.drop (i + 1) = (nA.data.toList.drop i).drop 1 := by rw [List.drop_drop]
   rw [this, ← hr]; simp
  rw [← hr, e1, QJ dW] at h4
  simpa using h4
 ·intro hc
  exact List.all_eq_true.1 Mn _ hc
theorem mf (s : ByteArray) : jZ s = (decide (1 ≤ s.size) && decide (s.size ≤ 32) && uS (cD s 0) && gr kK s && !(QI.any fun k => decide (k = s))) := by
 unfold jZ
 cases h : gr kK s with
 | false => simp
 | true => rw [Mp s h]
def fa (o : List ByteArray) (c : UInt8) : List ByteArray := if c = 47 then o ++ [⟨#[]⟩] else o.set (o.length - 1) ((o[o.length - 1]?).getD ⟨#[]⟩ ++ ⟨#[c]⟩)
def fb (l : List UInt8) : List ByteArray := l.foldl fa [⟨#[]⟩]
def pE (cur : List UInt8) : List (List UInt8) → List (List UInt8)
 | [] => [cur]
 | h :: t => (cur ++ h) :: t
def FW (l : List UInt8) : ByteArray := ⟨l.toArray⟩
theorem uY (r : List UInt8) : Lib.split (47 :: r) [47] = [] :: Lib.split r [47] := by
 have c6 : Lib.index (47 :: r) [47] = 0 := by rw [Lib.index]; simp [List.isPrefixOf]
 unfold Lib.split
 rw [Lib.count_cons_eq, Nat.add_comm, Lib.splitK, c6]
 simp
theorem uZ (b : UInt8) (r : List UInt8) (h : b ≠ 47) : Lib.split (b :: r) [47] = pE [b] (Lib.split r [47]) := by
 have hp : ([47] : List UInt8).isPrefixOf (b :: r) = false := by simp [List.isPrefixOf, Ne.symm h]
 have c6 : Lib.index (b :: r) [47] = if Lib.index r [47] == -1 then -1 else Lib.index r [47] + 1 := by rw [Lib.index, hp]; simp
 unfold Lib.split
 rw [Lib.count_cons_ne b 47 r h]
 cases hk : Lib.count r [47] with
 | zero => rfl
 | succ k =>
  rw [Lib.splitK, Lib.splitK, c6]
  by_cases hm : Lib.index r [47] = -1
  ·rw [hm]; rfl
  ·have c5 := Lib.index_ge r [47]
   obtain ⟨j, hj⟩ : ∃ j : Nat, Lib.index r [47] = j := ⟨(Lib.index r [47]).toNat, by omega⟩
   have h1 : ((j : Int) == -1) = false := by rw [beq_eq_false_iff_ne]; omega
   have h2 : ((j : Int) + 1 == -1) = false := by rw [beq_eq_false_iff_ne]; omega
   have h3 : ((j : Int) + 1).toNat = j + 1 := by omega
   rw [hj, h1]
   simp only [Bool.false_eq_true,if_false,h2,h3,Int.toNat_natCast,pE,List.length_cons,List.length_nil,Nat.add_zero]
   rw [show j + 1 + (0 + 1) = (j + (0 + 1)) + 1 by omega, List.drop_succ_cons]
   rfl
theorem Mq (a b : List UInt8) : FW a ++ FW b = FW (a ++ b) := by
 apply ByteArray.ext
 rw [ByteArray.data_append]
 simp [FW]
theorem xL : ∀ (l : List UInt8) (pre : List ByteArray) (cur : List UInt8), l.foldl fa (pre ++ [FW cur]) = pre ++ (pE cur (Lib.split l [47])).map FW
 | [], pre, cur => by
  have : Lib.split [] [47] = [[]] := rfl
  rw [this]; simp [pE]
 | b :: r, pre, cur => by
  rw [List.foldl_cons]
  by_cases h : b = 47
  ·subst h
   have hs : fa (pre ++ [FW cur]) 47 = (pre ++ [FW cur]) ++ [FW []] := by simp [fa, FW]
   rw [hs, xL r, uY]
   have : pE [] (Lib.split r [47]) = Lib.split r [47] := by
    cases hq : Lib.split r [47] with
    | nil => exfalso; unfold Lib.split at hq; cases hk : Lib.count r [47] <;> rw [hk] at hq <;> rw [Lib.splitK] at hq <;> first | cases hq | (split at hq <;> cases hq)
    | cons a t => rfl
   rw [this]
   simp [pE]
  ·have hs : fa (pre ++ [FW cur]) b = pre ++ [FW (cur ++ [b])] := by
    unfold fa
    rw [if_neg h, List.length_append, List.length_singleton, Nat.add_sub_cancel]
    rw [List.getElem?_append_right (Nat.le_refl _), Nat.sub_self]
    simp only [List.getElem?_cons_zero,Option.getD_some]
    rw [List.set_append_right _ _ (Nat.le_refl _), Nat.sub_self, List.set_cons_zero]
    exact congrArg (fun z => pre ++ [z]) (Mq cur [b])
   rw [hs, xL r, uZ b r h]
   cases hq : Lib.split r [47] with
   | nil => simp [pE]
   | cons a t => simp [pE]
theorem FX (s : ByteArray) : FW s.data.toList = s := by obtain ⟨⟨l⟩⟩ := s; rfl
theorem mg (s : ByteArray) : fb (bn s) = pieces s := by
 have h := xL (bn s) [] []
 have h2 : pE [] (Lib.split (bn s) [47]) = Lib.split (bn s) [47] := by
  cases hq : Lib.split (bn s) [47] with
  | nil => exfalso; unfold Lib.split at hq; cases hk : Lib.count (bn s) [47] <;> rw [hk] at hq <;> rw [Lib.splitK] at hq <;> first | cases hq | (split at hq <;> cases hq)
  | cons a t => rfl
 rw [h2, List.nil_append] at h
 have h3 := Lib.splitB_data ⟨#[47]⟩ 0 (Lib.countB s ⟨#[47]⟩) s
 have h4 : (pieces s).map (fun x => x.data.toList) = Lib.split (bn s) [47] := h3
 rw [show fb (bn s) = _ from h, ← h4, List.map_map]
 conv => rhs; rw [← List.map_id (pieces s)]
 exact List.map_congr_left fun x _ => FX x
theorem pF (l : List UInt8) (c : UInt8) : fb (l ++ [c]) = fa (fb l) c := by unfold fb; rw [List.foldl_append]; rfl
theorem qA (s : ByteArray) : lW s = (decide (1 ≤ s.size) && decide (cD s 0 = 118)) := by
 obtain ⟨⟨l⟩⟩ := s
 cases l with
 | nil => rfl
 | cons b l =>
  have hb : cD ⟨⟨b :: l⟩⟩ 0 = (b.toNat : Int) := rfl
  have hs : (⟨⟨b :: l⟩⟩ : ByteArray).size = l.length + 1 := rfl
  rw [hb, hs]
  show ((118 : UInt8) == b && ([] : List UInt8).isPrefixOf l) = _
  simp only [List.isPrefixOf_nil_left,Bool.and_true]
  rw [Bool.eq_iff_iff]
  simp only [beq_iff_eq,Bool.and_eq_true,decide_eq_true_eq]
  constructor
  ·rintro rfl; exact ⟨by omega, rfl⟩
  ·rintro ⟨-, h⟩
   apply UInt8.toNat_inj.1
   have : b.toNat = 118 := by omega
   rw [this]; rfl
theorem oe {s : ByteArray} (h : lW s = true) (k : Nat) : (gv s)[k]? = s[k + 1]? := by
 have hd : (gv s).data.toList = s.data.toList.drop 1 := by
  show Lib.trimPrefix s.data.toList [118] = _
  unfold Lib.trimPrefix
  rw [if_pos (show Lib.hasPrefix s.data.toList [118] = true from h)]; rfl
 have g : ∀ (t : ByteArray) (j : Nat), t[j]? = t.data.toList[j]? := fun t j => by
  obtain ⟨⟨l⟩⟩ := t
  by_cases hj : j < l.length
  ·rw [getElem?_pos (⟨⟨l⟩⟩ : ByteArray) j (by exact hj)]
   show some _ = l[j]?
   rw [List.getElem?_eq_getElem hj]; rfl
  ·rw [getElem?_neg (⟨⟨l⟩⟩ : ByteArray) j (by exact hj)]
   show none = l[j]?
   rw [List.getElem?_eq_none (by omega)]
 rw [g, g, hd, List.getElem?_drop, Nat.add_comm]
theorem mh {s : ByteArray} (h : lW s = true) : (gv s).size = s.size - 1 := by
 have hd : (gv s).data.toList = s.data.toList.drop 1 := by
  show Lib.trimPrefix s.data.toList [118] = _
  unfold Lib.trimPrefix
  rw [if_pos (show Lib.hasPrefix s.data.toList [118] = true from h)]; rfl
 rw [Lib.size_eq, hd, List.length_drop, ← Lib.size_eq]
theorem FY {s : ByteArray} (h : lW s = true) (k : Nat) : cD (gv s) k = cD s (k + 1) := by unfold cD; rw [oe h]
def rR (s : ByteArray) : Bool := !(decide (s.size < 2) || decide (4 < s.size) || !decide (cD s 0 = 118) || (decide (cD s 1 = 48) && decide (2 < s.size)))
theorem jb (s : ByteArray) : cf s = (rR s && gr eD (gv s)) := by
 unfold cf rR
 cases hv : lW s with
 | false =>
  rw [qA] at hv
  by_cases h1 : s.size < 2 <;> simp_all <;> (intros; omega)
 | true =>
  have h1 := mh hv
  have h2 := FY hv 0
  rw [qA] at hv
  simp only [Bool.and_eq_true,decide_eq_true_eq] at hv
  unfold lX
  rw [h1, h2]
  cases gr eD (gv s)
  ·simp
  ·rw [Bool.eq_iff_iff]
   simp [hv.2]
   omega
end Go.Proofs.YtnfeacnbgbggfaaGreatDoor
end

section
namespace Go.Proofs.YtnfeacnbgbggfaaGreatDoor
open Go.Eng
open Nat renaming reduceAdd → zA, reduceLT → zB, reduceLeDiff → zC, reduceMul → zD, reduceEqDiff → zE, reduceSub → zF
variable [aH]
set_option maxHeartbeats 4000000
set_option maxRecDepth 100000
theorem xM  : ∃ r_, (fun w => w = .slice (QI.map str)) r_ ∧ aO Tryz.prog 192 [] r_ := by
 refine ef tt_ok [] 2 [.tmp 0] (fn := Tryz.f192) Tryz.func192 rfl Tryz.call192 ⟨rfl, rfl, by simp⟩ fun K hK => ?_
 simp only [go_sem,reduceIte,zA,zB,zC,zD,zE,zF,reduceCtorEq]
 exact hK _ rfl
theorem CL (l : List ByteArray) (s : ByteArray) (hl : l.length ≤ 1048576) : ∃ r_, (fun w => w = bl (l.any fun k => decide (k = s))) r_ ∧ aO Tryz.prog 191 [.slice (l.map str), str s] r_ := by
 refine ef tt_ok [] 18 [.tmp 4] (fn := Tryz.f191) Tryz.func191 rfl Tryz.call191 ⟨rfl, rfl, by simp⟩ fun K hK => ?_
 simp only [List.length_map,go_sem,reduceIte,zA,zB,zC,zD,zE,zF,reduceCtorEq]
 refine bL tt_ok [] [5] 0 [0,1] (fun vs => ((l.length : Int) - Go.Eng.intOf (vs.headD .undef)).toNat) (fun vs => ∃ i : Nat, vs = [num i] ∧ i ≤ l.length ∧ ∀ j < i, ∀ x, l[j]? = some x → decide (x = s) = false) (by omega) (by simp only [List.length_map,go_sem,reduceIte,zA,zB,zC,zD,zE,zF,reduceCtorEq]) (⟨0, rfl, Nat.zero_le _, fun j hj => absurd hj (Nat.not_lt_zero j)⟩) fun vs hI Z1 bW => ?_
 obtain ⟨i, rfl, hi, bh⟩ := hI
 simp only [List.length_map,go_sem,reduceIte,zA,zB,zC,zD,zE,zF,reduceCtorEq]
 refine aM (fun jG => ?_) (fun jG => ?_)
 ·have aD : i < l.length := by simpa using jG
  have hw := aB i (by omega)
  obtain ⟨x, hx⟩ : ∃ x, l[i]? = some x := ⟨_, List.getElem?_eq_getElem aD⟩
  simp only [hw,List.getElem?_map,hx,List.length_map,go_sem,reduceIte,zA,zB,zC,zD,zE,zF,reduceCtorEq]
  refine aM (fun jf => ?_) (fun jf => ?_)
  ·have ay : true = l.any fun k => decide (k = s) := (B7 hx (by simpa [au] using jf)).symm
   simp only [hw,List.getElem?_map,hx,List.length_map,go_sem,reduceIte,zA,zB,zC,zD,zE,zF,reduceCtorEq]
   exact hK _ (congrArg bl ay)
  ·simp only [hw,List.getElem?_map,hx,List.length_map,go_sem,reduceIte,zA,zB,zC,zD,zE,zF,reduceCtorEq]
   refine bW _ (dD (by omega) (by simp only [hw,List.getElem?_map,hx,List.length_map,go_sem,reduceIte,zA,zB,zC,zD,zE,zF,reduceCtorEq]) ?_ ?_) <;> simp only [gQ,lk,reduceIte,zE]
   ·refine ⟨i + 1, rfl, aD, fun j hj => ?_⟩
    rcases Nat.lt_or_ge j i with h | h
    ·exact bh j h
    ·obtain rfl : j = i := by omega
     intro y hy
     rw [hx] at hy; cases hy; simpa [au] using jf
   ·simp only [Go.Eng.intOf,List.headD_cons]; omega
 ·have c5 : ¬ i < l.length := by simpa using jG
  have ay : false = l.any fun k => decide (k = s) := (any_none fun j hj => bh j (by omega)).symm
  simp only [List.length_map,go_sem,reduceIte,zA,zB,zC,zD,zE,zF,reduceCtorEq]
  exact hK _ (congrArg bl ay)
theorem CM (s : ByteArray) : ∃ r_, (fun w => w = bl (jZ s)) r_ ∧ aO Tryz.prog 180 [str s] r_ := by
 refine ef tt_ok [] 26 [.tmp 2] (fn := Tryz.f180) Tryz.func180 rfl Tryz.call180 ⟨rfl, rfl, by simp⟩ fun K hK => ?_
 have fu : Tryz.prog.underlying 9 = some .string := by kernel_rfl
 have sl : ∀ (a : ByteArray) (ty : TypeId), cH Tryz.prog (Builtin.len_ #[9] ty) [.sc (.string a)] = some (num a.size) := fun a ty => ck (P := Tryz.prog) (tt := tt) (T := 9) a fu ty
 simp only [sl,go_sem,reduceIte,zA,zB,zC,zD,zE,zF,reduceCtorEq]
 refine aM (fun rl => ?_) (fun rl => ?_)
 ·simp only [sl,go_sem,reduceIte,zA,zB,zC,zD,zE,zF,reduceCtorEq]
  refine aM (fun vG => ?_) (fun vG => ?_)
  ·obtain ⟨v0, lY⟩ := bT (s := s) (i := 0) (by have := of_decide_eq_true rl; omega)
   have aZ := cM (P := Tryz.prog) s fu .i64 (0 : Int) (by omega) (c := v0) (show s[((0 : Nat) : Int).toNat]? = some v0 from lY)
   have W1 : cD s 0 = v0.toNat := dc lY
   simp only [aZ,sl,go_sem,reduceIte,zA,zB,zC,zD,zE,zF,reduceCtorEq]
   refine cF (qj _) ?_
   rintro _ rfl
   simp only [aZ,sl,go_sem,reduceIte,zA,zB,zC,zD,zE,zF,reduceCtorEq]
   refine aM (fun CN => ?_) (fun CN => ?_)
   ·simp only [aZ,sl,go_sem,reduceIte,zA,zB,zC,zD,zE,zF,reduceCtorEq]
    refine cF (HM s (by have := of_decide_eq_true vG; omega)) ?_
    rintro _ rfl
    simp only [aZ,sl,go_sem,reduceIte,zA,zB,zC,zD,zE,zF,reduceCtorEq]
    refine aM (fun CO => ?_) (fun CO => ?_)
    ·simp only [aZ,sl,go_sem,reduceIte,zA,zB,zC,zD,zE,zF,reduceCtorEq]
     refine cF (xM) ?_
     rintro _ rfl
     simp only [aZ,sl,go_sem,reduceIte,zA,zB,zC,zD,zE,zF,reduceCtorEq]
     refine cF (CL QI s (by decide)) ?_
     rintro _ rfl
     simp only [aZ,sl,go_sem,reduceIte,zA,zB,zC,zD,zE,zF,reduceCtorEq]
     exact hK _ (congrArg bl (by rw [mf]; simp_all <;> (intros; omega)))
    ·simp only [aZ,sl,go_sem,reduceIte,zA,zB,zC,zD,zE,zF,reduceCtorEq]
     exact hK _ (congrArg bl (by rw [mf]; simp_all <;> (intros; omega)))
   ·simp only [aZ,sl,go_sem,reduceIte,zA,zB,zC,zD,zE,zF,reduceCtorEq]
    exact hK _ (congrArg bl (by rw [mf]; simp_all <;> (intros; omega)))
  ·simp only [sl,go_sem,reduceIte,zA,zB,zC,zD,zE,zF,reduceCtorEq]
   exact hK _ (congrArg bl (by rw [mf]; simp_all <;> (intros; omega)))
 ·simp only [sl,go_sem,reduceIte,zA,zB,zC,zD,zE,zF,reduceCtorEq]
  exact hK _ (congrArg bl (by rw [mf]; simp_all <;> (intros; omega)))
theorem Aw (s : ByteArray) (hs : s.size ≤ 1048576) : ∃ r_, (fun w => w = bl (na s)) r_ ∧ aO Tryz.prog 155 [str s] r_ := by
 refine ef tt_ok [] 24 [.tmp 2] (fn := Tryz.f155) Tryz.func155 rfl Tryz.call155 ⟨rfl, rfl, by simp⟩ fun K hK => ?_
 have fu : Tryz.prog.underlying 9 = some .string := by kernel_rfl
 have sl : ∀ (a : ByteArray) (ty : TypeId), cH Tryz.prog (Builtin.len_ #[9] ty) [.sc (.string a)] = some (num a.size) := fun a ty => ck (P := Tryz.prog) (tt := tt) (T := 9) a fu ty
 simp only [sl,go_sem,reduceIte,zA,zB,zC,zD,zE,zF,reduceCtorEq]
 refine bL tt_ok [] [3] 0 [0] (fun vs => ((s.size : Int) - Go.Eng.intOf (vs.headD .undef)).toNat) (fun vs => ∃ i : Nat, vs = [num i] ∧ i ≤ s.size ∧ ∀ j < i, ∀ b, s[j]? = some b → tp b.toNat = true) (by omega) (by simp only [sl,go_sem,reduceIte,zA,zB,zC,zD,zE,zF,reduceCtorEq]) (⟨0, rfl, Nat.zero_le _, fun j hj => absurd hj (Nat.not_lt_zero j)⟩) fun vs hI Z1 bW => ?_
 obtain ⟨i, rfl, hi, dW⟩ := hI
 simp only [sl,go_sem,reduceIte,zA,zB,zC,zD,zE,zF,reduceCtorEq]
 refine aM (fun HN => ?_) (fun HN => ?_)
 ·have aD : i < s.size := by simpa using HN
  have hw := aB i (by omega)
  obtain ⟨c, kL⟩ := bT (s := s) (i := i) aD
  have c6 := cM (P := Tryz.prog) s fu .i64 (i : Int) (by omega) (c := c) (show s[((i : Nat) : Int).toNat]? = some c from kL)
  simp only [hw,c6,sl,go_sem,reduceIte,zA,zB,zC,zD,zE,zF,reduceCtorEq]
  refine cF (qj _) ?_
  rintro _ rfl
  simp only [hw,c6,sl,go_sem,reduceIte,zA,zB,zC,zD,zE,zF,reduceCtorEq]
  refine aM (fun Uf => ?_) (fun Uf => ?_)
  ·simp only [hw,c6,sl,go_sem,reduceIte,zA,zB,zC,zD,zE,zF,reduceCtorEq]
   refine cF (mH _) ?_
   rintro _ rfl
   simp only [hw,c6,sl,go_sem,reduceIte,zA,zB,zC,zD,zE,zF,reduceCtorEq]
   refine aM (fun gx => ?_) (fun gx => ?_)
   ·have ay : false = na s := by unfold na; rw [iP (p := tp) kL (by unfold tp; simp_all), Bool.and_false]
    simp only [hw,c6,sl,go_sem,reduceIte,zA,zB,zC,zD,zE,zF,reduceCtorEq]
    exact hK _ (congrArg bl ay)
   ·simp only [hw,c6,sl,go_sem,reduceIte,zA,zB,zC,zD,zE,zF,reduceCtorEq]
    refine bW _ (dD (by omega) (by simp only [hw,c6,sl,go_sem,reduceIte,zA,zB,zC,zD,zE,zF,reduceCtorEq]) ?_ ?_) <;> simp only [gQ,lk,reduceIte,zE]
    ·refine ⟨i + 1, rfl, aD, fun j hj b hb => ?_⟩
     rcases Nat.lt_or_ge j i with h | h
     ·exact dW j h b hb
     ·obtain rfl : j = i := by omega
      rw [kL] at hb; cases hb; unfold tp; simp_all
    ·simp only [Go.Eng.intOf,List.headD_cons]; omega
  ·simp only [hw,c6,sl,go_sem,reduceIte,zA,zB,zC,zD,zE,zF,reduceCtorEq]
   refine bW _ (dD (by omega) (by simp only [hw,c6,sl,go_sem,reduceIte,zA,zB,zC,zD,zE,zF,reduceCtorEq]) ?_ ?_) <;> simp only [gQ,lk,reduceIte,zE]
   ·refine ⟨i + 1, rfl, aD, fun j hj b hb => ?_⟩
    rcases Nat.lt_or_ge j i with h | h
    ·exact dW j h b hb
    ·obtain rfl : j = i := by omega
     rw [kL] at hb; cases hb; unfold tp; simp_all
   ·simp only [Go.Eng.intOf,List.headD_cons]; omega
 ·have c5 : ¬ i < s.size := by simpa using HN
  have bh : gr tp s = true := jY fun j hj b hb => dW j (by omega) b hb
  have ay : jZ s = na s := by unfold na; rw [bh, Bool.and_true]
  simp only [sl,go_sem,reduceIte,zA,zB,zC,zD,zE,zF,reduceCtorEq]
  refine cF (CM s) ?_
  rintro _ rfl
  simp only [sl,go_sem,reduceIte,zA,zB,zC,zD,zE,zF,reduceCtorEq]
  exact hK _ (congrArg bl ay)
end Go.Proofs.YtnfeacnbgbggfaaGreatDoor
end

section
namespace Go.Proofs.YtnfeacnbgbggfaaGreatDoor
open Go.Eng
open Nat renaming reduceAdd → zA, reduceLT → zB, reduceLeDiff → zC, reduceMul → zD, reduceEqDiff → zE, reduceSub → zF
variable [aH]
set_option maxHeartbeats 4000000
set_option maxRecDepth 100000
theorem Ax (t : ByteArray) : ∀ k, (∀ j < k, eD (cD t j) = true) → 0 ≤ dE t k ∧ dE t k < 10 ^ k
 | 0, _ => ⟨Int.le_refl _, by simp [dE]⟩
 | k + 1, h => by
  obtain ⟨h1, h2⟩ := Ax t k fun j hj => h j (by omega)
  have h3 := h k (by omega)
  unfold eD at h3
  simp only [Bool.and_eq_true,decide_eq_true_eq] at h3
  rw [dE, Int.pow_succ]
  omega
theorem vZ {t : ByteArray} {k : Nat} (hk : k ≤ 3) (h : ∀ j < k, eD (cD t j) = true) : 0 ≤ dE t k ∧ dE t k < 1000 := by
 obtain ⟨h1, h2⟩ := Ax t k h
 refine ⟨h1, Int.lt_of_lt_of_le h2 ?_⟩
 have : k = 0 ∨ k = 1 ∨ k = 2 ∨ k = 3 := by omega
 rcases this with rfl | rfl | rfl | rfl <;> decide
theorem CP {s : ByteArray} (h : rR s = true) : lW s = true ∧ 2 ≤ s.size ∧ s.size ≤ 4 := by
 unfold rR at h
 rw [qA]
 by_cases h1 : s.size < 2 <;> by_cases h2 : 4 < s.size <;> simp_all <;> omega
theorem Ja {o : List ByteArray} {z : ByteArray} {c : UInt8} (h : o[o.length - 1]? = some z) (hc : c ≠ 47) : fa o c = o.set (o.length - 1) (z ++ ⟨#[c]⟩) := by
 unfold fa; rw [if_neg hc, h]; rfl
theorem v7 {s : ByteArray} {i : Nat} {c : UInt8} (h : s[i]? = some c) : (bn s).take (i + 1) = (bn s).take i ++ [c] := by
 unfold bn; rw [List.take_add_one, jX h]; rfl
theorem RA {o : List ByteArray} {i : Nat} (h : ∀ x ∈ o, x.size ≤ i) {z : ByteArray} {j : Nat} (hz : o[j]? = some z) : z.size ≤ i := h z (List.mem_of_getElem? hz)
theorem Ay (s : ByteArray) : ∃ r_, (fun w => w = num (if cf s = true then je s else -1)) r_ ∧ aO Tryz.prog 156 [str s] r_ := by
 refine ef tt_ok [] 48 [.tmp 2] (fn := Tryz.f156) Tryz.func156 rfl Tryz.call156 ⟨rfl, rfl, by simp⟩ fun K hK => ?_
 have fu : Tryz.prog.underlying 9 = some .string := by kernel_rfl
 have sl : ∀ (a : ByteArray) (ty : TypeId), cH Tryz.prog (Builtin.len_ #[9] ty) [.sc (.string a)] = some (num a.size) := fun a ty => ck (P := Tryz.prog) (tt := tt) (T := 9) a fu ty
 have DH : Tryz.prog.underlying 5 = some (.int .u8) := by kernel_rfl
 have DI : Tryz.prog.underlying 3 = some (.int .i64) := by kernel_rfl
 have cv := fun (k : IntKind) (n : Int) => ek (P := Tryz.prog) (src := 5) (dst := 3) DH DI k n
 simp only [sl,cv,go_sem,reduceIte,zA,zB,zC,zD,zE,zF,reduceCtorEq]
 refine aM (fun rl => ?_) (fun rl => ?_)
 ·have dW : cf s = false := by rw [jb]; unfold rR; simp_all <;> (intros; omega)
  have ay : -1 = if cf s = true then je s else -1 := by rw [dW]; rfl
  simp only [sl,cv,go_sem,reduceIte,zA,zB,zC,zD,zE,zF,reduceCtorEq]
  exact hK _ (congrArg num ay)
 ·simp only [sl,cv,go_sem,reduceIte,zA,zB,zC,zD,zE,zF,reduceCtorEq]
  refine aM (fun vG => ?_) (fun vG => ?_)
  ·have dW : cf s = false := by rw [jb]; unfold rR; simp_all <;> (intros; omega)
   have ay : -1 = if cf s = true then je s else -1 := by rw [dW]; rfl
   simp only [sl,cv,go_sem,reduceIte,zA,zB,zC,zD,zE,zF,reduceCtorEq]
   exact hK _ (congrArg num ay)
  ·have fR : 2 ≤ s.size := by simp_all <;> omega
   obtain ⟨v0, lY⟩ := bT (s := s) (i := 0) (by omega)
   have aZ := cM (P := Tryz.prog) s fu .i64 (0 : Int) (by omega) (c := v0) (show s[((0 : Nat) : Int).toNat]? = some v0 from lY)
   have W1 : cD s 0 = v0.toNat := dc lY
   simp only [aZ,sl,cv,go_sem,reduceIte,zA,zB,zC,zD,zE,zF,reduceCtorEq]
   refine aM (fun CN => ?_) (fun CN => ?_)
   ·have dW : cf s = false := by rw [jb]; unfold rR; simp_all <;> (intros; omega)
    have ay : -1 = if cf s = true then je s else -1 := by rw [dW]; rfl
    simp only [aZ,sl,cv,go_sem,reduceIte,zA,zB,zC,zD,zE,zF,reduceCtorEq]
    exact hK _ (congrArg num ay)
   ·obtain ⟨v1, NI⟩ := bT (s := s) (i := 1) (by omega)
    have e9 := cM (P := Tryz.prog) s fu .i64 (1 : Int) (by omega) (c := v1) (show s[((1 : Nat) : Int).toNat]? = some v1 from NI)
    have rF : cD s 1 = v1.toNat := dc NI
    simp only [aZ,e9,sl,cv,go_sem,reduceIte,zA,zB,zC,zD,zE,zF,reduceCtorEq]
    refine aM (fun CO => ?_) (fun CO => ?_)
    ·simp only [aZ,e9,sl,cv,go_sem,reduceIte,zA,zB,zC,zD,zE,zF,reduceCtorEq]
     refine aM (fun Jb => ?_) (fun Jb => ?_)
     ·have dW : cf s = false := by rw [jb]; unfold rR; simp_all <;> (intros; omega)
      have ay : -1 = if cf s = true then je s else -1 := by rw [dW]; rfl
      simp only [aZ,e9,sl,cv,go_sem,reduceIte,zA,zB,zC,zD,zE,zF,reduceCtorEq]
      exact hK _ (congrArg num ay)
     ·have Ug : rR s = true := by unfold rR; simp_all <;> (intros; omega)
      obtain ⟨hv, fR, hs4⟩ := CP Ug
      obtain ⟨t, ht⟩ : ∃ t, t = gv s := ⟨_, rfl⟩
      have XH : t.size = s.size - 1 := by rw [ht]; exact mh hv
      have AN : cf s = gr eD t := by rw [jb, Ug, ht]; rfl
      simp only [aZ,e9,sl,cv,go_sem,reduceIte,zA,zB,zC,zD,zE,zF,reduceCtorEq]
      refine bL tt_ok [] [4,3] 0 [0,27] (fun vs => ((s.size : Int) - Go.Eng.intOf (vs.headD .undef)).toNat) (fun vs => ∃ i : Nat, vs = [num i, num (dE t (i - 1))] ∧ 1 ≤ i ∧ i ≤ s.size ∧ ∀ j < i - 1, eD (cD t j) = true) (by omega) (by simp only [aZ,e9,sl,cv,go_sem,reduceIte,zA,zB,zC,zD,zE,zF,reduceCtorEq]) (⟨1, rfl, Nat.le_refl _, by omega, fun j hj => absurd hj (Nat.not_lt_zero j)⟩) fun vs hI Z1 bW => ?_
      obtain ⟨i, rfl, nr, hi, dW⟩ := hI
      simp only [aZ,e9,sl,cv,go_sem,reduceIte,zA,zB,zC,zD,zE,zF,reduceCtorEq]
      refine aM (fun CQ => ?_) (fun CQ => ?_)
      ·have aD : i < s.size := by simpa using CQ
       have hw := aB i (by omega)
       obtain ⟨c, kL⟩ := bT (s := s) (i := i) aD
       have c6 := cM (P := Tryz.prog) s fu .i64 (i : Int) (by omega) (c := c) (show s[((i : Nat) : Int).toNat]? = some c from kL)
       have Uh : t[i - 1]? = some c := by rw [ht, oe hv, Nat.sub_add_cancel nr]; exact kL
       have Nu : cD t (i - 1) = c.toNat := dc Uh
       simp only [aZ,e9,hw,c6,sl,cv,go_sem,reduceIte,zA,zB,zC,zD,zE,zF,reduceCtorEq]
       refine cF (mH _) ?_
       rintro _ rfl
       simp only [aZ,e9,hw,c6,sl,cv,go_sem,reduceIte,zA,zB,zC,zD,zE,zF,reduceCtorEq]
       refine aM (fun mc => ?_) (fun mc => ?_)
       ·have Si : eD (c.toNat : Int) = false := by simpa using mc
        have BO : cf s = false := by rw [AN]; exact iP Uh Si
        have ay : -1 = if cf s = true then je s else -1 := by rw [BO]; rfl
        simp only [aZ,e9,hw,c6,sl,cv,go_sem,reduceIte,zA,zB,zC,zD,zE,zF,reduceCtorEq]
        exact hK _ (congrArg num ay)
       ·have Lg : eD (c.toNat : Int) = true := by simpa using mc
        have Jc := Lg
        unfold eD at Jc
        simp only [Bool.and_eq_true,decide_eq_true_eq] at Jc
        obtain ⟨R9, Oh⟩ := vZ (t := t) (k := i - 1) (by omega) dW
        have hu : IntKind.u8.wrap ((c.toNat : Int) - 48) = (c.toNat : Int) - 48 := by have h := c.toNat_lt; simp only [IntKind.wrap,IntKind.bits,IntKind.signed]; simp; omega
        have tz : IntKind.i64.wrap ((c.toNat : Int) - 48) = (c.toNat : Int) - 48 := IntWalk.i64_in _ (by omega)
        have tA : IntKind.i64.wrap (10 * dE t (i - 1)) = 10 * dE t (i - 1) := IntWalk.i64_in _ (by omega)
        have Cd : IntKind.i64.wrap (10 * dE t (i - 1) + ((c.toNat : Int) - 48)) = dE t i := by
         conv => rhs; rw [show i = i - 1 + 1 by omega, dE, Nu]
         exact IntWalk.i64_in _ (by omega)
        simp only [aZ,e9,hw,c6,hu,tz,tA,Cd,sl,cv,go_sem,reduceIte,zA,zB,zC,zD,zE,zF,reduceCtorEq]
        refine bW _ (dD (by omega) (by simp only [aZ,e9,hw,c6,hu,tz,tA,Cd,sl,cv,go_sem,reduceIte,zA,zB,zC,zD,zE,zF,reduceCtorEq]) ?_ ?_) <;> simp only [gQ,lk,reduceIte,zE]
        ·refine ⟨i + 1, by rw [Nat.add_sub_cancel], by omega, aD, fun j hj => ?_⟩
         rw [Nat.add_sub_cancel] at hj
         rcases Nat.lt_or_ge j (i - 1) with h | h
         ·exact dW j h
         ·obtain rfl : j = i - 1 := by omega
          rw [Nu]; simpa using mc
        ·simp only [Go.Eng.intOf,List.headD_cons]; omega
      ·have c5 : i = s.size := Nat.le_antisymm hi (Nat.le_of_not_lt (by simpa using CQ))
       have zN : gr eD t = true := jY fun j hj b hb => by have h := dW j (by omega); rwa [dc hb] at h
       have ay : dE t (i - 1) = if cf s = true then je s else -1 := by
        rw [AN, zN, if_pos rfl]
        unfold je
        rw [← ht, XH, c5]
       simp only [aZ,e9,sl,cv,go_sem,reduceIte,zA,zB,zC,zD,zE,zF,reduceCtorEq]
       exact hK _ (congrArg num ay)
    ·have Ug : rR s = true := by unfold rR; simp_all <;> (intros; omega)
     obtain ⟨hv, fR, hs4⟩ := CP Ug
     obtain ⟨t, ht⟩ : ∃ t, t = gv s := ⟨_, rfl⟩
     have XH : t.size = s.size - 1 := by rw [ht]; exact mh hv
     have AN : cf s = gr eD t := by rw [jb, Ug, ht]; rfl
     simp only [aZ,e9,sl,cv,go_sem,reduceIte,zA,zB,zC,zD,zE,zF,reduceCtorEq]
     refine bL tt_ok [] [4,3] 0 [0,27] (fun vs => ((s.size : Int) - Go.Eng.intOf (vs.headD .undef)).toNat) (fun vs => ∃ i : Nat, vs = [num i, num (dE t (i - 1))] ∧ 1 ≤ i ∧ i ≤ s.size ∧ ∀ j < i - 1, eD (cD t j) = true) (by omega) (by simp only [aZ,e9,sl,cv,go_sem,reduceIte,zA,zB,zC,zD,zE,zF,reduceCtorEq]) (⟨1, rfl, Nat.le_refl _, by omega, fun j hj => absurd hj (Nat.not_lt_zero j)⟩) fun vs hI Z2 qk => ?_
     obtain ⟨i, rfl, nr, hi, dW⟩ := hI
     simp only [aZ,e9,sl,cv,go_sem,reduceIte,zA,zB,zC,zD,zE,zF,reduceCtorEq]
     refine aM (fun CQ => ?_) (fun CQ => ?_)
     ·have aD : i < s.size := by simpa using CQ
      have hw := aB i (by omega)
      obtain ⟨c, kL⟩ := bT (s := s) (i := i) aD
      have c6 := cM (P := Tryz.prog) s fu .i64 (i : Int) (by omega) (c := c) (show s[((i : Nat) : Int).toNat]? = some c from kL)
      have Uh : t[i - 1]? = some c := by rw [ht, oe hv, Nat.sub_add_cancel nr]; exact kL
      have Nu : cD t (i - 1) = c.toNat := dc Uh
      simp only [aZ,e9,hw,c6,sl,cv,go_sem,reduceIte,zA,zB,zC,zD,zE,zF,reduceCtorEq]
      refine cF (mH _) ?_
      rintro _ rfl
      simp only [aZ,e9,hw,c6,sl,cv,go_sem,reduceIte,zA,zB,zC,zD,zE,zF,reduceCtorEq]
      refine aM (fun mc => ?_) (fun mc => ?_)
      ·have Si : eD (c.toNat : Int) = false := by simpa using mc
       have BO : cf s = false := by rw [AN]; exact iP Uh Si
       have ay : -1 = if cf s = true then je s else -1 := by rw [BO]; rfl
       simp only [aZ,e9,hw,c6,sl,cv,go_sem,reduceIte,zA,zB,zC,zD,zE,zF,reduceCtorEq]
       exact hK _ (congrArg num ay)
      ·have Lg : eD (c.toNat : Int) = true := by simpa using mc
       have Jc := Lg
       unfold eD at Jc
       simp only [Bool.and_eq_true,decide_eq_true_eq] at Jc
       obtain ⟨R9, Oh⟩ := vZ (t := t) (k := i - 1) (by omega) dW
       have hu : IntKind.u8.wrap ((c.toNat : Int) - 48) = (c.toNat : Int) - 48 := by have h := c.toNat_lt; simp only [IntKind.wrap,IntKind.bits,IntKind.signed]; simp; omega
       have tz : IntKind.i64.wrap ((c.toNat : Int) - 48) = (c.toNat : Int) - 48 := IntWalk.i64_in _ (by omega)
       have tA : IntKind.i64.wrap (10 * dE t (i - 1)) = 10 * dE t (i - 1) := IntWalk.i64_in _ (by omega)
       have Cd : IntKind.i64.wrap (10 * dE t (i - 1) + ((c.toNat : Int) - 48)) = dE t i := by
        conv => rhs; rw [show i = i - 1 + 1 by omega, dE, Nu]
        exact IntWalk.i64_in _ (by omega)
       simp only [aZ,e9,hw,c6,hu,tz,tA,Cd,sl,cv,go_sem,reduceIte,zA,zB,zC,zD,zE,zF,reduceCtorEq]
       refine qk _ (dD (by omega) (by simp only [aZ,e9,hw,c6,hu,tz,tA,Cd,sl,cv,go_sem,reduceIte,zA,zB,zC,zD,zE,zF,reduceCtorEq]) ?_ ?_) <;> simp only [gQ,lk,reduceIte,zE]
       ·refine ⟨i + 1, by rw [Nat.add_sub_cancel], by omega, aD, fun j hj => ?_⟩
        rw [Nat.add_sub_cancel] at hj
        rcases Nat.lt_or_ge j (i - 1) with h | h
        ·exact dW j h
        ·obtain rfl : j = i - 1 := by omega
         rw [Nu]; simpa using mc
       ·simp only [Go.Eng.intOf,List.headD_cons]; omega
     ·have c5 : i = s.size := Nat.le_antisymm hi (Nat.le_of_not_lt (by simpa using CQ))
      have zN : gr eD t = true := jY fun j hj b hb => by have h := dW j (by omega); rwa [dc hb] at h
      have ay : dE t (i - 1) = if cf s = true then je s else -1 := by
       rw [AN, zN, if_pos rfl]
       unfold je
       rw [← ht, XH, c5]
      simp only [aZ,e9,sl,cv,go_sem,reduceIte,zA,zB,zC,zD,zE,zF,reduceCtorEq]
      exact hK _ (congrArg num ay)
end Go.Proofs.YtnfeacnbgbggfaaGreatDoor
end

section
namespace Go.Proofs.YtnfeacnbgbggfaaGreatDoor
open Go.Eng
open Nat renaming reduceAdd → zA, reduceLT → zB, reduceLeDiff → zC, reduceMul → zD, reduceEqDiff → zE, reduceSub → zF
variable [aH]
set_option maxHeartbeats 4000000
set_option maxRecDepth 100000
theorem Mr (c : UInt8) : strOfNums [(c.toNat : Int)] = ⟨#[c]⟩ := po [c]
theorem F0 {s : ByteArray} {i : Nat} {c : UInt8} {xs : List ByteArray} {y : ByteArray} (hc : s[i]? = some c) (hx : fb ((bn s).take i) = xs ++ [y]) (h : (c.toNat : Int) = 47) : fb ((bn s).take (i + 1)) = (xs ++ [y]) ++ [⟨#[]⟩] := by
 have e : c = 47 := UInt8.toNat_inj.1 (by rw [show (47 : UInt8).toNat = 47 from rfl]; omega)
 rw [v7 hc, pF, hx, e]; rfl
theorem Jd {s : ByteArray} {i : Nat} {c : UInt8} {xs : List ByteArray} {y : ByteArray} (hc : s[i]? = some c) (hx : fb ((bn s).take i) = xs ++ [y]) (h : ¬ (c.toNat : Int) = 47) : fb ((bn s).take (i + 1)) = xs ++ [y ++ ⟨#[c]⟩] := by
 have e : c ≠ 47 := fun e => h (by rw [e]; rfl)
 rw [v7 hc, pF, hx, Ja (z := y) (by simp) e]
 simp
theorem Je {s : ByteArray} (h : bC s = true) : ∃ j : Nat, j < s.size ∧ s[j]? = some 47 := by
 unfold bC at h
 simp only [Bool.and_eq_true,decide_eq_true_eq] at h
 obtain ⟨⟨-, h2⟩, -⟩ := h
 rw [ed] at h2
 have hc : Lib.countB s ⟨#[47]⟩ = s.data.toList.count 47 := by
  unfold Lib.countB
  exact Lib.count_one 47 s.data.toList
 have hm : (47 : UInt8) ∈ s.data.toList := List.count_pos_iff.1 (by omega)
 obtain ⟨j, hj⟩ := List.mem_iff_getElem?.1 hm
 have qD : j < s.size := by have := (List.getElem?_eq_some_iff.1 hj).1; simpa using this
 obtain ⟨c, kL⟩ := bT qD
 have := jX kL
 rw [hj] at this; cases this
 exact ⟨j, qD, kL⟩
theorem CR (s : ByteArray) : 0 < (pieces s).length := by rw [ed]; omega
theorem CS {s z : ByteArray} (h : z ∈ pieces s) : z.size ≤ s.size := by
 have key : ∀ (l : List UInt8) (o : List ByteArray) (n : Nat), (∀ x ∈ o, x.size ≤ n) → ∀ x ∈ l.foldl fa o, x.size ≤ n + l.length := by
  intro l
  induction l with
  | nil => intro o n h x hx; simpa using h x hx
  | cons b l ih =>
   intro o n h x hx
   rw [List.foldl_cons] at hx
   have := ih (fa o b) (n + 1) (fun y hy => by
    unfold fa at hy
    split at hy
    ·rcases List.mem_append.1 hy with hy | hy
     ·exact Nat.le_succ_of_le (h y hy)
     ·rw [List.mem_singleton.1 hy]; exact Nat.zero_le _
    ·rcases List.mem_or_eq_of_mem_set hy with hy | hy
     ·exact Nat.le_succ_of_le (h y hy)
     ·rw [hy, ByteArray.size_append]
      have hs : (⟨#[b]⟩ : ByteArray).size = 1 := rfl
      have : ((o[o.length - 1]?).getD ⟨#[]⟩).size ≤ n := by
       cases hq : o[o.length - 1]? with
       | none => exact Nat.zero_le _
       | some q => exact h q (List.mem_of_getElem? hq)
      omega) x hx
   rw [List.length_cons]; omega
 rw [← mg] at h
 have := key (bn s) [⟨#[]⟩] 0 (fun x hx => by rw [List.mem_singleton.1 hx]; exact Nat.zero_le _) z h
 rw [Nat.zero_add] at this
 exact this
theorem xN {z : ByteArray} (h : cf z = true) : 0 ≤ je z := by
 rw [jb] at h
 simp only [Bool.and_eq_true] at h
 obtain ⟨-, -, h4⟩ := CP h.1
 exact (nV h.2 _ (Nat.le_refl _)).1
theorem Jf (s : ByteArray) (hs : s.size ≤ 1048576) : ∃ r_, (fun w => w = .slice ((pieces s).map str)) r_ ∧ aO Tryz.prog 154 [str s] r_ := by
 refine ef tt_ok [] 37 [.tmp 2] (fn := Tryz.f154) Tryz.func154 rfl Tryz.call154 ⟨rfl, rfl, by simp⟩ fun K hK => ?_
 have fu : Tryz.prog.underlying 9 = some .string := by kernel_rfl
 have sl : ∀ (a : ByteArray) (ty : TypeId), cH Tryz.prog (Builtin.len_ #[9] ty) [.sc (.string a)] = some (num a.size) := fun a ty => ck (P := Tryz.prog) (tt := tt) (T := 9) a fu ty
 have JS := fun (n : Int) => yb (P := Tryz.prog) (mem := []) (s := 159) (d := 9) (e := 5) (rows := [.sc (.int .u8 n)]) (ns := [n]) (by kernel_rfl) (by kernel_rfl) fu rfl
 have uh : ∀ c : Int, (strOfNums [c]).size = 1 := fun c => rfl
 simp only [sl,JS,go_sem,reduceIte,zA,zB,zC,zD,zE,zF,reduceCtorEq]
 refine cO tt_ok [] (fun a : Nat × Nat × List ByteArray × ByteArray => [(0, str s), (3, .ms 0 a.2.1 0 (a.2.1 + 1)), (4, num a.1)]) (fun a : Nat × Nat × List ByteArray × ByteArray => [.rows a.2.1 1 ((a.2.2.1 ++ [a.2.2.2]).map str)]) (fun a => s.size - a.1) (fun a => a.1 ≤ s.size ∧ a.2.2.1.length = a.2.1 ∧ a.2.1 ≤ a.1 ∧ a.2.2.2.size ≤ a.1 ∧ (∀ x ∈ a.2.2.1, x.size ≤ s.size) ∧ fb ((bn s).take a.1) = a.2.2.1 ++ [a.2.2.2]) ((0, 0, [], ⟨#[]⟩)) 1 (bm (by omega) (by simp only [sl,JS,List.map_cons,List.map_nil,List.nil_append,Int.cast_ofNat_Int,go_sem,reduceIte,zA,zB,zC,zD,zE,zF,reduceCtorEq] <;> rfl)) (⟨Nat.zero_le _, rfl, Nat.le_refl _, Nat.le_refl _, (fun x hx => by cases hx), rfl⟩) ?_
 rintro ⟨i, k, xs, y⟩ ⟨hi, ym, VZ, hyi, bh, Ms⟩
 try dsimp only at hi ym VZ hyi bh Ms
 try dsimp only
 intro Z1 bW
 simp only [sl,JS,go_sem,reduceIte,zA,zB,zC,zD,zE,zF,reduceCtorEq]
 refine aM (fun jG => ?_) (fun jG => ?_)
 ·have aD : i < s.size := by simpa using jG
  have hw := aB i (by omega)
  obtain ⟨c, kL⟩ := bT (s := s) (i := i) aD
  have c6 := cM (P := Tryz.prog) s fu .i64 (i : Int) (by omega) (c := c) (show s[((i : Nat) : Int).toNat]? = some c from kL)
  have ew : IntKind.i64.wrap (((k + 1 : Nat) : Int) - 1) = ((k : Nat) : Int) := jV _ k (by omega) (by omega)
  have fH : ((k : Nat) : Int) < ((k + 1 : Nat) : Int) := by omega
  have Vf : (xs ++ [y])[k]? = some y := by rw [List.getElem?_append_right (by omega), ym, Nat.sub_self]; rfl
  have er : k + 1 + 1 ≤ 34359738368 := by omega
  have DQ := fun a b => oM Tryz.prog 9 a b y (strOfNums [(c.toNat : Int)]) (by rw [uh, show IntKind.i64.max = 9223372036854775807 from rfl]; omega)
  simp only [hw,c6,ew,fH,er,ym,List.getElem?_map,Vf,DQ,List.length_map,List.length_append,List.length_cons,List.length_nil,Nat.zero_add,sl,JS,go_sem,reduceIte,zA,zB,zC,zD,zE,zF,reduceCtorEq]
  refine aM (fun gR => ?_) (fun gR => ?_)
  ·let nv : Nat × Nat × List ByteArray × ByteArray := (i + 1, k + 1, xs ++ [y], ⟨#[]⟩)
   have Jg : ∀ x ∈ nv.2.2.1, x.size ≤ s.size := fun x hx => by
    rcases List.mem_append.1 hx with h | h
    ·exact bh x h
    ·rw [List.mem_singleton.1 h]; omega
   have Jh : fb ((bn s).take nv.1) = nv.2.2.1 ++ [nv.2.2.2] := F0 kL Ms (by simpa using gR)
   simp only [hw,c6,ew,fH,er,ym,List.getElem?_map,Vf,DQ,List.length_map,List.length_append,List.length_cons,List.length_nil,Nat.zero_add,sl,JS,go_sem,reduceIte,zA,zB,zC,zD,zE,zF,reduceCtorEq]
   refine bW _ ⟨nv, ?_, ?_, bm (by omega) (by (simp [nv, lg, lk, bo, bF, ai, az, List.map_append]; first | done | (rw [List.set_append_right _ _ (by rw [List.length_map]; omega), List.length_map, ym, Nat.sub_self]; rfl)))⟩
   ·refine ⟨aD, ?_, ?_, ?_, ?_⟩
    ·dsimp only [nv]; first | exact ym | (rw [List.length_append, ym]; rfl)
    ·dsimp only [nv]; omega
    ·dsimp only [nv]; first | exact Nat.zero_le _ | (rw [ByteArray.size_append, uh]; omega)
    ·exact ⟨Jg, Jh⟩
   ·dsimp only [nv]; omega
  ·let nv : Nat × Nat × List ByteArray × ByteArray := (i + 1, k, xs, y ++ strOfNums [(c.toNat : Int)])
   have Jg : ∀ x ∈ nv.2.2.1, x.size ≤ s.size := bh
   have Jh : fb ((bn s).take nv.1) = nv.2.2.1 ++ [nv.2.2.2] := by show _ = xs ++ [y ++ strOfNums [(c.toNat : Int)]]; rw [Mr]; exact Jd kL Ms (by simpa using gR)
   simp only [hw,c6,ew,fH,er,ym,List.getElem?_map,Vf,DQ,List.length_map,List.length_append,List.length_cons,List.length_nil,Nat.zero_add,sl,JS,go_sem,reduceIte,zA,zB,zC,zD,zE,zF,reduceCtorEq]
   refine bI tt_ok aK [⟨.n, 0, [], [], []⟩, ⟨.n, 0, [], [], []⟩, ⟨.n, 0, [], [], []⟩, ⟨.n, 0, [], [], []⟩, ⟨.n, 0, [], [], []⟩, ⟨.n, 0, [], [], []⟩, ⟨.n, 0, [], [], []⟩, ⟨.n, 0, [], [], []⟩, ⟨.r, 0, [], [], []⟩, ⟨.r, 0, [], [], []⟩, ⟨.n, 0, [], [], []⟩, ⟨.n, 0, [], [], []⟩, ⟨.n, 0, [], [], []⟩, ⟨.n, 0, [], [], []⟩, ⟨.n, 0, [], [], []⟩, ⟨.n, 0, [], [], []⟩, ⟨.r, 0, [], [], []⟩, ⟨.w, 0, [], [], []⟩] 1 (by kernel_rfl) ?_
   simp only [hw,c6,ew,fH,er,ym,List.getElem?_map,Vf,DQ,List.length_map,List.length_append,List.length_cons,List.length_nil,Nat.zero_add,sl,JS,go_sem,reduceIte,zA,zB,zC,zD,zE,zF,reduceCtorEq]
   refine bW _ ⟨nv, ?_, ?_, bm (by omega) (by (simp [nv, lg, lk, bo, bF, ai, az, List.map_append]; first | done | (rw [List.set_append_right _ _ (by rw [List.length_map]; omega), List.length_map, ym, Nat.sub_self]; rfl)))⟩
   ·refine ⟨aD, ?_, ?_, ?_, ?_⟩
    ·dsimp only [nv]; first | exact ym | (rw [List.length_append, ym]; rfl)
    ·dsimp only [nv]; omega
    ·dsimp only [nv]; first | exact Nat.zero_le _ | (rw [ByteArray.size_append, uh]; omega)
    ·exact ⟨Jg, Jh⟩
   ·dsimp only [nv]; omega
 ·have c5 : ¬ i < s.size := by simpa using jG
  have gw : pieces s = xs ++ [y] := by rw [← mg, ← Ms, List.take_of_length_le]; exact Nat.le_of_not_lt c5
  simp only [sl,JS,go_sem,reduceIte,zA,zB,zC,zD,zE,zF,reduceCtorEq]
  exact HA (by simp [ym]) (hK _ (by rw [gw]))
theorem v8 (s : ByteArray) (hs : s.size ≤ 1048576) : ∃ r_, (fun w => w = .bN [num (bO s), num (bD s)]) r_ ∧ aO Tryz.prog 133 [str s] r_ := by
 refine ef tt_ok [] 39 [.tmp 2, .tmp 3] (fn := Tryz.f133) Tryz.func133 rfl Tryz.call133 ⟨rfl, rfl, by simp⟩ fun K hK => ?_
 have fu : Tryz.prog.underlying 9 = some .string := by kernel_rfl
 have sl : ∀ (a : ByteArray) (ty : TypeId), cH Tryz.prog (Builtin.len_ #[9] ty) [.sc (.string a)] = some (num a.size) := fun a ty => ck (P := Tryz.prog) (tt := tt) (T := 9) a fu ty
 simp only [sl,List.length_map,go_sem,reduceIte,zA,zB,zC,zD,zE,zF,reduceCtorEq]
 refine aM (fun jG => ?_) (fun jG => ?_)
 ·have dW : bC s = false := by unfold bC; simp_all <;> (intros; omega)
  simp only [sl,List.length_map,go_sem,reduceIte,zA,zB,zC,zD,zE,zF,reduceCtorEq]
  refine hK _ ?_
  first
   | (unfold bO bD; rw [dW]; rfl)
   | (unfold bO bD; rw [bK, ot]; simp_all; done)
   | (unfold bO bD; rw [bK, ot]; simp_all; rfl)
 ·simp only [sl,List.length_map,go_sem,reduceIte,zA,zB,zC,zD,zE,zF,reduceCtorEq]
  refine cF (Jf s (by omega)) ?_
  rintro _ rfl
  obtain ⟨P, hP⟩ : ∃ P, P = pieces s := ⟨_, rfl⟩
  have Tq := vI s
  have W2 := CR s
  have hPz : ∀ x ∈ P, x.size ≤ s.size := fun x hx => CS (hP ▸ hx)
  rw [← hP]
  rw [← hP] at Tq W2
  obtain ⟨z, hz⟩ : ∃ z, P[P.length - 1]? = some z := ⟨_, List.getElem?_eq_getElem (by omega)⟩
  have ot : vH s = z := zO (by rw [← hP]; exact hz)
  have ew : IntKind.i64.wrap ((P.length : Int) - 1) = ((P.length - 1 : Nat) : Int) := jV _ _ (by omega) (by omega)
  simp only [List.getElem?_map,hz,ew,sl,List.length_map,go_sem,reduceIte,zA,zB,zC,zD,zE,zF,reduceCtorEq]
  refine bL tt_ok [] [5] 0 [4,9] (fun vs => ((P.length : Int) - Go.Eng.intOf (vs.headD .undef)).toNat) (fun vs => ∃ i : Nat, vs = [num i] ∧ i ≤ P.length ∧ ∀ j < i, ∀ x, P[j]? = some x → na x = true) (by omega) (by simp only [List.getElem?_map,hz,ew,sl,List.length_map,go_sem,reduceIte,zA,zB,zC,zD,zE,zF,reduceCtorEq]) (⟨0, rfl, Nat.zero_le _, fun j hj => absurd hj (Nat.not_lt_zero j)⟩) fun vs hI Z1 bW => ?_
  obtain ⟨i, rfl, hi, bh⟩ := hI
  simp only [List.getElem?_map,hz,ew,sl,List.length_map,go_sem,reduceIte,zA,zB,zC,zD,zE,zF,reduceCtorEq]
  refine aM (fun gR => ?_) (fun gR => ?_)
  ·have aD : i < P.length := by simpa using gR
   have hw := aB i (by omega)
   obtain ⟨x, hx⟩ : ∃ x, P[i]? = some x := ⟨_, List.getElem?_eq_getElem aD⟩
   simp only [List.getElem?_map,hz,ew,hw,hx,sl,List.length_map,go_sem,reduceIte,zA,zB,zC,zD,zE,zF,reduceCtorEq]
   refine cF (Aw x (by have := hPz x (List.mem_of_getElem? hx); omega)) ?_
   rintro _ rfl
   simp only [List.getElem?_map,hz,ew,hw,hx,sl,List.length_map,go_sem,reduceIte,zA,zB,zC,zD,zE,zF,reduceCtorEq]
   refine aM (fun jg => ?_) (fun jg => ?_)
   ·have dW : bC s = false := by
     have ha : P.all na = false := Ce hx (by simpa using jg)
     unfold bC; rw [← hP, ha]; simp
    simp only [List.getElem?_map,hz,ew,hw,hx,sl,List.length_map,go_sem,reduceIte,zA,zB,zC,zD,zE,zF,reduceCtorEq]
    refine hK _ ?_
    first
     | (unfold bO bD; rw [dW]; rfl)
     | (unfold bO bD; rw [bK, ot]; simp_all; done)
     | (unfold bO bD; rw [bK, ot]; simp_all; rfl)
   ·simp only [List.getElem?_map,hz,ew,hw,hx,sl,List.length_map,go_sem,reduceIte,zA,zB,zC,zD,zE,zF,reduceCtorEq]
    refine bW _ (dD (by omega) (by simp only [List.getElem?_map,hz,ew,hw,hx,sl,List.length_map,go_sem,reduceIte,zA,zB,zC,zD,zE,zF,reduceCtorEq]) ?_ ?_) <;> simp only [gQ,lk,reduceIte,zE]
    ·refine ⟨i + 1, rfl, aD, fun j hj => ?_⟩
     rcases Nat.lt_or_ge j i with h | h
     ·exact bh j h
     ·obtain rfl : j = i := by omega
      intro y hy
      rw [hx] at hy; cases hy; simpa using jg
    ·simp only [Go.Eng.intOf,List.headD_cons]; omega
  ·have c5 : ¬ i < P.length := by simpa using gR
   have ha : P.all na = true := HX fun j hj => bh j (by omega)
   simp only [List.getElem?_map,hz,ew,sl,List.length_map,go_sem,reduceIte,zA,zB,zC,zD,zE,zF,reduceCtorEq]
   refine cF (Ay z) ?_
   rintro _ rfl
   simp only [List.getElem?_map,hz,ew,sl,List.length_map,go_sem,reduceIte,zA,zB,zC,zD,zE,zF,reduceCtorEq]
   refine aM (fun QK => ?_) (fun QK => ?_)
   ·have dW : bC s = false := by
     unfold bC; rw [ot, ← hP]
     by_cases hv : cf z = true
     ·have := xN hv; simp_all; omega
     ·simp [hv]
    simp only [List.getElem?_map,hz,ew,sl,List.length_map,go_sem,reduceIte,zA,zB,zC,zD,zE,zF,reduceCtorEq]
    refine hK _ ?_
    first
     | (unfold bO bD; rw [dW]; rfl)
     | (unfold bO bD; rw [bK, ot]; simp_all; done)
     | (unfold bO bD; rw [bK, ot]; simp_all; rfl)
   ·simp only [List.getElem?_map,hz,ew,sl,List.length_map,go_sem,reduceIte,zA,zB,zC,zD,zE,zF,reduceCtorEq]
    refine aM (fun rO => ?_) (fun rO => ?_)
    ·have dW : bC s = false := by
      unfold bC; rw [ot, ← hP]
      by_cases hv : cf z = true
      ·have := xN hv; simp_all; omega
      ·simp [hv]
     simp only [List.getElem?_map,hz,ew,sl,List.length_map,go_sem,reduceIte,zA,zB,zC,zD,zE,zF,reduceCtorEq]
     refine hK _ ?_
     first
      | (unfold bO bD; rw [dW]; rfl)
      | (unfold bO bD; rw [bK, ot]; simp_all; done)
      | (unfold bO bD; rw [bK, ot]; simp_all; rfl)
    ·have hvz : cf z = true := by
      by_cases hv : cf z = true
      ·exact hv
      ·exfalso; simp_all
     have bK : bC s = true := by unfold bC; rw [ot, ← hP, ha, hvz]; simp_all; omega
     simp only [List.getElem?_map,hz,ew,sl,List.length_map,go_sem,reduceIte,zA,zB,zC,zD,zE,zF,reduceCtorEq]
     refine hK _ ?_
     first
      | (unfold bO bD; rw [dW]; rfl)
      | (unfold bO bD; rw [bK, ot]; simp_all; done)
      | (unfold bO bD; rw [bK, ot]; simp_all; rfl)
theorem CT (s : ByteArray) (hs : s.size ≤ 1048576) : ∃ r_, (fun w => w = bl (bC s)) r_ ∧ aO Tryz.prog 132 [str s] r_ := by
 refine ef tt_ok [] 12 [.tmp 2] (fn := Tryz.f132) Tryz.func132 rfl Tryz.call132 ⟨rfl, rfl, by simp⟩ fun K hK => ?_
 simp only [go_sem,reduceIte,zA,zB,zC,zD,zE,zF,reduceCtorEq]
 refine cF (v8 s hs) ?_
 rintro _ rfl
 simp only [go_sem,reduceIte,zA,zB,zC,zD,zE,zF,reduceCtorEq]
 exact hK _ (congrArg bl (by unfold bD; by_cases h : bC s = true <;> simp [h]))
end Go.Proofs.YtnfeacnbgbggfaaGreatDoor
end

section
namespace Go.Proofs.YtnfeacnbgbggfaaGreatDoor
open Go.Eng
open Nat renaming reduceAdd → zA, reduceLT → zB, reduceLeDiff → zC, reduceMul → zD, reduceEqDiff → zE, reduceSub → zF
variable [aH]
set_option maxHeartbeats 4000000
set_option maxRecDepth 100000
theorem qB (T : TypeId) (x y : Operand) (a b : ByteArray) : aQ Tryz.prog (fC .gtr T x y) (str a) (str b) = some (bl (!Op.bytesLess a.toList b.toList && !decide (a = b))) := by
 simp [aQ, bA, fC, binOp, Op.stringOp, eqGuard, aG, dx, bind, pure, Sem.bind, au]
theorem Mt {a b : ByteArray} (h : km a b = false) (hn : a ≠ b) : kN a b = 1 := by unfold kN; rw [h, if_neg (by simp), if_neg hn]
theorem Mu {a b : ByteArray} (h : km a b = false) (hn : a = b) : kN a b = 0 := by unfold kN; rw [h, if_neg (by simp), if_pos hn]
theorem Mv {a b : ByteArray} (h : km a b = true) : kN a b = -1 := by unfold kN; rw [h]; rfl
theorem Rl.Az {a b : Rl} {n : Int} (h : kN a.path b.path = n) (hn : n ≠ 0) : a.cmp b = n := by unfold Rl.cmp; rw [h, if_pos hn]
theorem Rl.Mw {a b : Rl} (h : kN a.path b.path = 0) : a.cmp b = a.aC.cmp b.aC := by unfold Rl.cmp; rw [h]; rfl
theorem Ji (s : ByteArray) (hs : s.size ≤ 1048576) : ∃ r_, (fun w => ∃ nm : ByteArray, w = .bN [str nm, num (bO s), num (bD s)]) r_ ∧ aO Tryz.prog 108 [str s] r_ := by
 refine ef tt_ok [] 31 [.tmp 2, .tmp 3, .tmp 4] (fn := Tryz.f108) Tryz.func108 rfl Tryz.call108 ⟨rfl, rfl, by simp⟩ fun K hK => ?_
 have fu : Tryz.prog.underlying 9 = some .string := by kernel_rfl
 have sl : ∀ (a : ByteArray) (ty : TypeId), cH Tryz.prog (Builtin.len_ #[9] ty) [.sc (.string a)] = some (num a.size) := fun a ty => ck (P := Tryz.prog) (tt := tt) (T := 9) a fu ty
 simp only [sl,go_sem,reduceIte,zA,zB,zC,zD,zE,zF,reduceCtorEq]
 refine cF (CT s hs) ?_
 rintro _ rfl
 simp only [sl,go_sem,reduceIte,zA,zB,zC,zD,zE,zF,reduceCtorEq]
 refine aM (fun cY => ?_) (fun cY => ?_)
 ·have dW : bC s = false := by simp_all
  have e1 : bO s = 0 := by unfold bO; rw [dW]; rfl
  have e2 : bD s = 4 := by unfold bD; rw [dW]; rfl
  simp only [sl,go_sem,reduceIte,zA,zB,zC,zD,zE,zF,reduceCtorEq]
  first
   | exact hK _ ⟨⟨#[]⟩, by rw [e1, e2] <;> rfl⟩
   | exact hK _ ⟨_, by rw [e2] <;> rfl⟩
 ·have bK : bC s = true := by simpa using cY
  have e2 : bD s = 0 := by unfold bD; rw [bK]; rfl
  obtain ⟨j0, aaS, hj0⟩ := Je bK
  have NJ : IntKind.i64.wrap ((s.size : Int) - 1) = (s.size : Int) - 1 := IntWalk.i64_in _ (by omega)
  simp only [NJ,sl,go_sem,reduceIte,zA,zB,zC,zD,zE,zF,reduceCtorEq]
  refine cF (v8 s hs) ?_
  rintro _ rfl
  simp only [NJ,sl,go_sem,reduceIte,zA,zB,zC,zD,zE,zF,reduceCtorEq]
  refine aM (fun jf => ?_) (fun jf => ?_)
  ·(rw [e2] at jf; simp at jf)
  ·simp only [NJ,sl,go_sem,reduceIte,zA,zB,zC,zD,zE,zF,reduceCtorEq]
   refine bL tt_ok [] [7] 0 [0,2,3,4,5,10,17] (fun vs => (Go.Eng.intOf (vs.headD .undef)).toNat) (fun vs => ∃ i : Nat, vs = [num i] ∧ i < s.size ∧ ∃ j : Nat, j ≤ i ∧ s[j]? = some 47) (by omega) (by simp only [NJ,sl,go_sem,reduceIte,zA,zB,zC,zD,zE,zF,reduceCtorEq]) (⟨s.size - 1, by rw [Int.ofNat_sub (by omega)]; rfl, by omega, j0, by omega, hj0⟩) fun vs hI Z1 bW => ?_
   obtain ⟨i, rfl, hi, j, hj, QL⟩ := hI
   obtain ⟨c, kL⟩ := bT (s := s) (i := i) hi
   have c6 := cM (P := Tryz.prog) s fu .i64 (i : Int) (by omega) (c := c) (show s[((i : Nat) : Int).toNat]? = some c from kL)
   simp only [NJ,c6,sl,go_sem,reduceIte,zA,zB,zC,zD,zE,zF,reduceCtorEq]
   refine aM (fun lh => ?_) (fun lh => ?_)
   ·have bH : ¬ (c.toNat : Int) = 47 := by simpa using lh
    have pO : j ≠ i := fun e => by subst e; rw [kL] at QL; cases QL; exact bH rfl
    have hw : IntKind.i64.wrap ((i : Int) - 1) = ((i - 1 : Nat) : Int) := jV _ _ (by omega) (by omega)
    simp only [NJ,c6,hw,sl,go_sem,reduceIte,zA,zB,zC,zD,zE,zF,reduceCtorEq]
    refine bW _ (dD (by omega) (by simp only [NJ,c6,hw,sl,go_sem,reduceIte,zA,zB,zC,zD,zE,zF,reduceCtorEq]) ?_ ?_) <;> simp only [gQ,lk,reduceIte,zE]
    ·exact ⟨i - 1, rfl, by omega, j, by omega, QL⟩
    ·simp only [Go.Eng.intOf,List.headD_cons]; omega
   ·have PC : aQ Tryz.prog (fun a h => Instr.sliceAt 9 a none (some h) none) (.sc (.string s)) (.sc (.int .i64 (i : Int))) = some (.sc (.string (s.extract 0 (i : Int).toNat))) := yH (P := Tryz.prog) (tt := tt) (mem := []) (T := 9) s fu .i64 (i : Int) (by omega) (by omega)
    simp only [NJ,c6,PC,sl,go_sem,reduceIte,zA,zB,zC,zD,zE,zF,reduceCtorEq]
    first
     | exact hK _ ⟨⟨#[]⟩, by rw [e1, e2] <;> rfl⟩
     | exact hK _ ⟨_, by rw [e2] <;> rfl⟩
theorem Jj (a b : da) : ∃ r_, (fun w => w = num (a.cmp b)) r_ ∧ aO Tryz.prog 120 [aU a, aU b] r_ := by
 refine ef tt_ok [] 44 [.tmp 4] (fn := Tryz.f120) Tryz.func120 rfl Tryz.call120 ⟨rfl, rfl, by simp⟩ fun K hK => ?_
 simp only [aU]
 simp only [go_sem,reduceIte,zA,zB,zC,zD,zE,zF,reduceCtorEq]
 refine bL tt_ok [] [7] 4 [5,6] (fun vs => ((3 : Int) - Go.Eng.intOf (vs.headD .undef)).toNat) (fun vs => ∃ i : Nat, vs = [num i] ∧ i ≤ 3 ∧ ∀ j < i, fp (a.part j) (b.part j) = 0) (by omega) (by simp only [go_sem,reduceIte,zA,zB,zC,zD,zE,zF,reduceCtorEq]) (⟨0, rfl, Nat.zero_le _, fun j hj => absurd hj (Nat.not_lt_zero j)⟩) fun vs hI Z1 bW => ?_
 obtain ⟨i, rfl, hi, bh⟩ := hI
 simp only [go_sem,reduceIte,zA,zB,zC,zD,zE,zF,reduceCtorEq]
 refine aM (fun jg => ?_) (fun jg => ?_)
 ·have aD : i < 3 := by have := of_decide_eq_true jg; omega
  rw [jg]
  have cT : (i : Int) < 3 := by omega
  have hw := aB i (by omega)
  have NK := a.Tf i aD
  have NL := b.Tf i aD
  have tG : ((3 : Nat) : Int) = 3 := rfl
  simp only [hw,cT,NK,NL,tG,Int.natCast_nonneg,Int.toNat_natCast,go_sem,reduceIte,zA,zB,zC,zD,zE,zF,reduceCtorEq]
  refine bI tt_ok aK [⟨.n, 0, [], [], []⟩, ⟨.n, 0, [], [], []⟩, ⟨.r, 0, [], [], []⟩, ⟨.r, 0, [], [], []⟩, ⟨.n, 0, [], [], []⟩, ⟨.n, 0, [], [], []⟩, ⟨.r, 0, [], [], []⟩, ⟨.r, 0, [], [], []⟩, ⟨.n, 0, [], [], []⟩] 0 (by kernel_rfl) ?_
  simp only [hw,cT,NK,NL,tG,Int.natCast_nonneg,Int.toNat_natCast,go_sem,reduceIte,zA,zB,zC,zD,zE,zF,reduceCtorEq]
  refine aM (fun Av => ?_) (fun Av => ?_)
  ·have Ui : fp (a.part i) (b.part i) = -1 := by unfold fp; simp_all
   have ay : -1 = a.cmp b := by rw [da.B6 aD bh (by rw [Ui]; decide), Ui]
   simp only [hw,cT,NK,NL,tG,Int.natCast_nonneg,Int.toNat_natCast,go_sem,reduceIte,zA,zB,zC,zD,zE,zF,reduceCtorEq]
   exact hK _ (congrArg num ay)
  ·simp only [hw,cT,NK,NL,tG,Int.natCast_nonneg,Int.toNat_natCast,go_sem,reduceIte,zA,zB,zC,zD,zE,zF,reduceCtorEq]
   refine bI tt_ok aK [⟨.n, 0, [], [], []⟩, ⟨.n, 0, [], [], []⟩, ⟨.r, 0, [], [], []⟩, ⟨.r, 0, [], [], []⟩, ⟨.n, 0, [], [], []⟩, ⟨.n, 0, [], [], []⟩, ⟨.r, 0, [], [], []⟩, ⟨.r, 0, [], [], []⟩, ⟨.n, 0, [], [], []⟩] 0 (by kernel_rfl) ?_
   simp only [hw,cT,NK,NL,tG,Int.natCast_nonneg,Int.toNat_natCast,go_sem,reduceIte,zA,zB,zC,zD,zE,zF,reduceCtorEq]
   refine aM (fun Uj => ?_) (fun Uj => ?_)
   ·have Ui : fp (a.part i) (b.part i) = 1 := by unfold fp; simp_all
    have ay : 1 = a.cmp b := by rw [da.B6 aD bh (by rw [Ui]; decide), Ui]
    simp only [hw,cT,NK,NL,tG,Int.natCast_nonneg,Int.toNat_natCast,go_sem,reduceIte,zA,zB,zC,zD,zE,zF,reduceCtorEq]
    exact hK _ (congrArg num ay)
   ·simp only [hw,cT,NK,NL,tG,Int.natCast_nonneg,Int.toNat_natCast,go_sem,reduceIte,zA,zB,zC,zD,zE,zF,reduceCtorEq]
    refine bW _ (dD (by omega) (by simp only [hw,cT,NK,NL,tG,Int.natCast_nonneg,Int.toNat_natCast,go_sem,reduceIte,zA,zB,zC,zD,zE,zF,reduceCtorEq]) ?_ ?_) <;> simp only [gQ,lk,reduceIte,zE]
    ·refine ⟨i + 1, rfl, aD, fun j hj => ?_⟩
     rcases Nat.lt_or_ge j i with h | h
     ·exact bh j h
     ·obtain rfl : j = i := by omega
      unfold fp
      have h1 := of_decide_eq_false Av; have h2 := of_decide_eq_false Uj
      rw [if_neg h1, if_neg h2]
    ·simp only [Go.Eng.intOf,List.headD_cons]; omega
 ·have c5 : i = 3 := by have := of_decide_eq_false jg; omega
  subst c5
  have ay : 0 = a.cmp b := (da.cmp_eq bh).symm
  simp only [go_sem,reduceIte,zA,zB,zC,zD,zE,zF,reduceCtorEq]
  exact hK _ (congrArg num ay)
theorem mi (a b : Rl) : ∃ r_, (fun w => w = num (a.cmp b)) r_ ∧ aO Tryz.prog 90 [ag a, ag b] r_ := by
 refine ef tt_ok [] 20 [.tmp 4] (fn := Tryz.f90) Tryz.func90 rfl Tryz.call90 ⟨rfl, rfl, by simp⟩ fun K hK => ?_
 simp only [ag,af]
 simp only [qB,go_sem,reduceIte,zA,zB,zC,zD,zE,zF,reduceCtorEq]
 refine aM (fun jG => ?_) (fun jG => ?_)
 ·have ay : -1 = a.cmp b := (Rl.Az (Mv (by unfold km; simpa using jG)) (by decide)).symm
  simp only [qB,go_sem,reduceIte,zA,zB,zC,zD,zE,zF,reduceCtorEq]
  exact hK _ (congrArg num ay)
 ·simp only [qB,go_sem,reduceIte,zA,zB,zC,zD,zE,zF,reduceCtorEq]
  refine aM (fun cX => ?_) (fun cX => ?_)
  ·have ay : 1 = a.cmp b := (Rl.Az (Mt (by unfold km; simpa using jG) (by simp_all)) (by decide)).symm
   simp only [qB,go_sem,reduceIte,zA,zB,zC,zD,zE,zF,reduceCtorEq]
   exact hK _ (congrArg num ay)
  ·have ay : a.aC.cmp b.aC = a.cmp b := (Rl.Mw (Mu (by unfold km; simpa using jG) (by simp_all))).symm
   simp only [qB,go_sem,reduceIte,zA,zB,zC,zD,zE,zF,reduceCtorEq]
   refine cF (by have h := Jj a.aC b.aC; simp only [aU] at h; exact h) ?_
   rintro _ rfl
   simp only [qB,go_sem,reduceIte,zA,zB,zC,zD,zE,zF,reduceCtorEq]
   exact hK _ (congrArg num ay)
theorem Ei (s : ByteArray) (hs : s.size ≤ 1048576) : ∃ r_, (fun w => w = num (if bC s = true then bO s else -1)) r_ ∧ aO Tryz.prog 73 [str s] r_ := by
 refine ef tt_ok [] 15 [.tmp 2] (fn := Tryz.f73) Tryz.func73 rfl Tryz.call73 ⟨rfl, rfl, by simp⟩ fun K hK => ?_
 simp only [go_sem,reduceIte,zA,zB,zC,zD,zE,zF,reduceCtorEq]
 refine cF (Ji s hs) ?_
 rintro _ ⟨nm, rfl⟩
 simp only [go_sem,reduceIte,zA,zB,zC,zD,zE,zF,reduceCtorEq]
 refine aM (fun l0 => ?_) (fun l0 => ?_)
 ·simp only [go_sem,reduceIte,zA,zB,zC,zD,zE,zF,reduceCtorEq]
  exact hK _ (congrArg num (by unfold bD at *; by_cases h : bC s = true <;> simp_all))
 ·simp only [go_sem,reduceIte,zA,zB,zC,zD,zE,zF,reduceCtorEq]
  exact hK _ (congrArg num (by unfold bD at *; by_cases h : bC s = true <;> simp_all))
theorem og (s : ByteArray) : ∃ r_, (fun w => w = bl (jJ s)) r_ ∧ aO Tryz.prog 96 [str s] r_ := by
 refine ef tt_ok [] 11 [.tmp 2] (fn := Tryz.f96) Tryz.func96 rfl Tryz.call96 ⟨rfl, rfl, by simp⟩ fun K hK => ?_
 have fu : Tryz.prog.underlying 9 = some .string := by kernel_rfl
 have sl : ∀ (a : ByteArray) (ty : TypeId), cH Tryz.prog (Builtin.len_ #[9] ty) [.sc (.string a)] = some (num a.size) := fun a ty => ck (P := Tryz.prog) (tt := tt) (T := 9) a fu ty
 simp only [sl,go_sem,reduceIte,zA,zB,zC,zD,zE,zF,reduceCtorEq]
 refine aM (fun rl => ?_) (fun rl => ?_)
 ·simp only [sl,go_sem,reduceIte,zA,zB,zC,zD,zE,zF,reduceCtorEq]
  exact hK _ (congrArg bl (by unfold jJ; simp_all <;> (intros; omega)))
 ·simp only [sl,go_sem,reduceIte,zA,zB,zC,zD,zE,zF,reduceCtorEq]
  exact hK _ (congrArg bl (by unfold jJ; simp_all <;> (intros; omega)))
end Go.Proofs.YtnfeacnbgbggfaaGreatDoor
end

section
namespace Go.Proofs.YtnfeacnbgbggfaaGreatDoor
open Go.Eng
open Nat renaming reduceAdd → zA, reduceLT → zB, reduceLeDiff → zC, reduceMul → zD, reduceEqDiff → zE, reduceSub → zF
variable [aH]
set_option maxHeartbeats 4000000
set_option maxRecDepth 100000
theorem Mx {s : ByteArray} (h : bC s = true) : 0 ≤ bO s := by
  unfold bO; rw [if_pos h]
  unfold bC at h
  simp only [Bool.and_eq_true] at h
  exact xN h.1.1.1
theorem Jk {s : ByteArray} (h : (if bC s = true then bO s else -1) < 0) : bD s = 4 := by
  unfold bD
  by_cases hm : bC s = true
  · rw [if_pos hm] at h; have := Mx hm; omega
  · rw [if_neg hm]
theorem Jl {s : ByteArray} (h : ¬ (if bC s = true then bO s else -1) < 0) : bD s = 0 ∧ (if bC s = true then bO s else -1) = bO s := by
  unfold bD
  by_cases hm : bC s = true
  · rw [if_pos hm, if_pos hm]; exact ⟨rfl, rfl⟩
  · rw [if_neg hm] at h; exact absurd (by decide) h
theorem Uk {q : Rq} {b : Option Rq} (h : bD q.path = 4) : mK q b = 4 := by unfold mK; rw [if_pos (by rw [h]; decide)]
theorem NM {q : Rq} {b : Option Rq} (h : bD q.path = 0) (h2 : (decide (q.set.length = 0) || !decide (q.set = canon q.set)) = true) : mK q b = 1 := by
  unfold mK
  rw [if_neg (by rw [h]; simp), h2]; simp
theorem Jm {q p : Rq} (h : bD q.path = 0) (h2 : (decide (q.set.length = 0) || !decide (q.set = canon q.set)) = false) : mK q (some p) = if JR q.path p.path = true then 1 else 0 := by
  unfold mK
  rw [if_neg (by rw [h]; simp), h2]; simp
theorem NN {q : Rq} (h : bD q.path = 0) (h2 : (decide (q.set.length = 0) || !decide (q.set = canon q.set)) = false) : mK q none = 0 := by
  unfold mK
  rw [if_neg (by rw [h]; simp), h2]; simp
theorem My (a : ByteArray) : km a a = false := by rw [lV]; exact decide_eq_false (List.lt_irrefl _)
theorem wa {a b : ByteArray} : kN a b = 0 ↔ a = b := by
  unfold kN
  refine ⟨fun h => ?_, fun h => by rw [h, My]; simp⟩
  by_cases h1 : km a b = true
  · rw [if_pos h1] at h; cases h
  · rw [if_neg h1] at h
    by_cases h2 : a = b
    · exact h2
    · rw [if_neg h2] at h; cases h
theorem mU {a b : Int} : fp a b = 0 ↔ a = b := by unfold fp; split <;> (try split) <;> omega
theorem da.pG {a b : da} : a.cmp b = 0 ↔ a = b := by
  constructor
  · intro h
    unfold da.cmp at h
    by_cases h1 : fp a.mj b.mj = 0
    · rw [if_neg (by simpa using h1)] at h
      by_cases h2 : fp a.mn b.mn = 0
      · rw [if_neg (by simpa using h2)] at h
        exact da.ext' (mU.1 h1) (mU.1 h2) (mU.1 h)
      · rw [if_pos h2] at h; exact absurd h h2
    · rw [if_pos h1] at h; exact absurd h h1
  · rintro rfl
    have e : ∀ x, fp x x = 0 := fun x => mU.2 rfl
    unfold da.cmp
    rw [e, e, e]; rfl
theorem Rl.pG {a b : Rl} : a.cmp b = 0 ↔ a.key = b.key := by
  have hk : a.key = b.key ↔ a.path = b.path ∧ a.aC = b.aC := by simp [Rl.key]
  rw [hk]
  unfold Rl.cmp
  by_cases h1 : kN a.path b.path = 0
  · rw [if_neg (by simpa using h1), da.pG]
    exact ⟨fun h => ⟨wa.1 h1, h⟩, fun h => h.2⟩
  · rw [if_pos h1]
    exact ⟨fun h => absurd h h1, fun h => absurd (wa.2 h.1) h1⟩
theorem Ul {r : Rl} (h : bD r.path = 4) : gH r = 4 := by unfold gH; rw [if_pos (by rw [h]; decide)]
theorem NO {r : Rl} (h : bD r.path = 0) (h2 : (!r.aC.ok || !decide (r.aC.mj = bO r.path)) = true) : gH r = 2 := by unfold gH; rw [if_neg (by rw [h]; simp), if_pos h2]
theorem Um {r : Rl} (h : bD r.path = 0) (h2 : (!r.aC.ok || !decide (r.aC.mj = bO r.path)) = false) (h3 : fq r.reqs ≠ 0) : gH r = fq r.reqs := by unfold gH; rw [if_neg (by rw [h]; simp), if_neg (by rw [h2]; simp), if_pos h3]
theorem Ej {r : Rl} (h : bD r.path = 0) (h2 : (!r.aC.ok || !decide (r.aC.mj = bO r.path)) = false) (h3 : fq r.reqs = 0) : gH r = if (jJ r.ar && (jJ r.gq && jJ r.ce)) = true then 0 else 1 := by unfold gH; rw [if_neg (by rw [h]; simp), if_neg (by rw [h2]; simp), if_neg (by rw [h3]; simp)]
theorem Mz (l : List Rq) (hl : l.length ≤ 1048576) (hb : ∀ q ∈ l, xm q) : ∃ r_, (fun w => w = num (fq l)) r_ ∧ aO Tryz.prog 95 [ah l] r_ := by
  refine ef tt_ok [] 58 [.tmp 2] (fn := Tryz.f95) Tryz.func95 rfl Tryz.call95 ⟨rfl, rfl, by simp⟩ fun K hK => ?_
  simp only [ah]
  simp only [List.length_map,bj,go_sem,reduceIte,zA,zB,zC,zD,zE,zF,reduceCtorEq]
  refine aM (fun HS => ?_) (fun HS => ?_)
  · skip
    have ay : 7 = fq l := by unfold fq; rw [if_pos (by have := of_decide_eq_true HS; omega)]
    simp only [List.length_map,bj,go_sem,reduceIte,zA,zB,zC,zD,zE,zF,reduceCtorEq]
    exact hK _ (congrArg num ay)
  · skip
    simp only [List.length_map,bj,go_sem,reduceIte,zA,zB,zC,zD,zE,zF,reduceCtorEq]
    refine bL tt_ok [] [3] 0 [0,6] (fun vs => ((l.length : Int) - Go.Eng.intOf (vs.headD .undef)).toNat) (fun vs => ∃ i : Nat, vs = [num i] ∧ i ≤ l.length ∧ eQ none l = eQ (bP l i) (l.drop i)) (by omega) (by simp only [List.length_map,bj,go_sem,reduceIte,zA,zB,zC,zD,zE,zF,reduceCtorEq]) (⟨0, rfl, Nat.zero_le _, rfl⟩) fun vs hI Z1 bW => ?_
    obtain ⟨i, rfl, hi, iq⟩ := hI
    simp only [List.length_map,bj,go_sem,reduceIte,zA,zB,zC,zD,zE,zF,reduceCtorEq]
    refine aM (fun cY => ?_) (fun cY => ?_)
    · skip
      have aD : i < l.length := by simpa using cY
      have hw := aB i (by omega)
      obtain ⟨x, hx⟩ : ∃ x, l[i]? = some x := ⟨_, List.getElem?_eq_getElem aD⟩
      have Qb := hb x (List.mem_of_getElem? hx)
      simp only [hw,List.getElem?_map,hx,ao,ak,List.length_map,bj,go_sem,reduceIte,zA,zB,zC,zD,zE,zF,reduceCtorEq]
      refine cF (Ei x.path Qb.1) ?_
      rintro _ rfl
      simp only [hw,List.getElem?_map,hx,ao,ak,List.length_map,bj,go_sem,reduceIte,zA,zB,zC,zD,zE,zF,reduceCtorEq]
      refine aM (fun tu => ?_) (fun tu => ?_)
      · skip
        have hE : mK x (bP l i) = 4 := Uk (Jk (of_decide_eq_true tu))
        have ay : 4 = fq l := by unfold fq; rw [if_neg (by have := of_decide_eq_false HS; omega), iq, lZ hx (by rw [hE]; decide), hE]
        simp only [hw,List.getElem?_map,hx,ao,ak,List.length_map,bj,go_sem,reduceIte,zA,zB,zC,zD,zE,zF,reduceCtorEq]
        exact hK _ (congrArg num ay)
      · skip
        have CU := (Jl (of_decide_eq_false tu)).1
        simp only [hw,List.getElem?_map,hx,ao,ak,List.length_map,bj,go_sem,reduceIte,zA,zB,zC,zD,zE,zF,reduceCtorEq]
        refine bI tt_ok aK [⟨.n, 0, [], [], []⟩, ⟨.n, 0, [], [], []⟩, ⟨.r, 0, [], [], []⟩, ⟨.n, 0, [], [], []⟩, ⟨.r, 0, [], [], []⟩, ⟨.n, 0, [], [], []⟩, ⟨.n, 0, [], [], []⟩, ⟨.n, 0, [], [], []⟩, ⟨.n, 0, [], [], []⟩, ⟨.n, 0, [], [], []⟩, ⟨.r, 0, [], [], []⟩, ⟨.n, 0, [], [], []⟩, ⟨.r, 0, [], [], []⟩, ⟨.n, 0, [], [], []⟩, ⟨.n, 0, [], [], []⟩, ⟨.r, 0, [], [], []⟩, ⟨.n, 0, [], [], []⟩, ⟨.r, 0, [], [], []⟩, ⟨.n, 0, [], [], []⟩, ⟨.n, 0, [], [], []⟩, ⟨.n, 0, [], [], []⟩, ⟨.n, 0, [], [], []⟩] 0 (by kernel_rfl) ?_
        simp only [hw,List.getElem?_map,hx,ao,ak,List.length_map,bj,go_sem,reduceIte,zA,zB,zC,zD,zE,zF,reduceCtorEq]
        refine aM (fun Jn => ?_) (fun Jn => ?_)
        · skip
          have hz : x.set.length = 0 := by have := of_decide_eq_true Jn; omega
          have MA : (decide (x.set.length = 0) || !decide (x.set = canon x.set)) = true := by
            first
              | (rw [hz]; rfl)
              | (rw [show decide (x.set = canon x.set) = false by simpa using nb]; simp)
          have hE : mK x (bP l i) = 1 := NM CU MA
          have ay : 1 = fq l := by unfold fq; rw [if_neg (by have := of_decide_eq_false HS; omega), iq, lZ hx (by rw [hE]; decide), hE]
          simp only [hw,List.getElem?_map,hx,ao,ak,List.length_map,bj,go_sem,reduceIte,zA,zB,zC,zD,zE,zF,reduceCtorEq]
          exact hK _ (congrArg num ay)
        · skip
          simp only [hw,List.getElem?_map,hx,ao,ak,List.length_map,bj,go_sem,reduceIte,zA,zB,zC,zD,zE,zF,reduceCtorEq]
          refine cG (by have h := qz x.set Qb.2; simp only [ak] at h; exact h) ?_
          rintro _ rfl
          simp only [hw,List.getElem?_map,hx,ao,ak,List.length_map,bj,go_sem,reduceIte,zA,zB,zC,zD,zE,zF,reduceCtorEq]
          refine cG (by have h := r7 x.set (canon x.set) Qb.2; simp only [ak] at h; exact h) ?_
          rintro _ rfl
          simp only [hw,List.getElem?_map,hx,ao,ak,List.length_map,bj,go_sem,reduceIte,zA,zB,zC,zD,zE,zF,reduceCtorEq]
          refine aM (fun nb => ?_) (fun nb => ?_)
          · skip
            have MA : (decide (x.set.length = 0) || !decide (x.set = canon x.set)) = true := by
              first
                | (rw [hz]; rfl)
                | (rw [show decide (x.set = canon x.set) = false by simpa using nb]; simp)
            have hE : mK x (bP l i) = 1 := NM CU MA
            have ay : 1 = fq l := by unfold fq; rw [if_neg (by have := of_decide_eq_false HS; omega), iq, lZ hx (by rw [hE]; decide), hE]
            simp only [hw,List.getElem?_map,hx,ao,ak,List.length_map,bj,go_sem,reduceIte,zA,zB,zC,zD,zE,zF,reduceCtorEq]
            exact hK _ (congrArg num ay)
          · skip
            have hz : x.set.length ≠ 0 := by have := of_decide_eq_false Jn; omega
            have MA : (decide (x.set.length = 0) || !decide (x.set = canon x.set)) = false := by rw [decide_eq_false hz, show decide (x.set = canon x.set) = true by simpa using nb]; rfl
            simp only [hw,List.getElem?_map,hx,ao,ak,List.length_map,bj,go_sem,reduceIte,zA,zB,zC,zD,zE,zF,reduceCtorEq]
            refine bI tt_ok aK [⟨.n, 0, [], [], []⟩, ⟨.n, 0, [], [], []⟩, ⟨.n, 0, [], [], []⟩, ⟨.n, 0, [], [], []⟩, ⟨.n, 0, [], [], []⟩, ⟨.r, 0, [], [], []⟩, ⟨.n, 0, [], [], []⟩, ⟨.r, 0, [], [], []⟩, ⟨.n, 0, [], [], []⟩, ⟨.n, 0, [], [], []⟩, ⟨.n, 0, [], [], []⟩, ⟨.r, 0, [], [], []⟩, ⟨.n, 0, [], [], []⟩, ⟨.r, 0, [], [], []⟩, ⟨.n, 0, [], [], []⟩, ⟨.n, 0, [], [], []⟩] 0 (by kernel_rfl) ?_
            simp only [hw,List.getElem?_map,hx,ao,ak,List.length_map,bj,go_sem,reduceIte,zA,zB,zC,zD,zE,zF,reduceCtorEq]
            refine aM (fun gy => ?_) (fun gy => ?_)
            · skip
              have wI : i ≠ 0 := by have := of_decide_eq_true gy; omega
              obtain ⟨p, hp⟩ : ∃ p, l[i - 1]? = some p := ⟨_, List.getElem?_eq_getElem (by omega)⟩
              have AO : bP l i = some p := by rw [qm wI, hp]
              have ew : IntKind.i64.wrap ((i : Int) - 1) = ((i - 1 : Nat) : Int) := jV _ _ (by omega) (by omega)
              simp only [hw,List.getElem?_map,hx,ao,ak,ew,hp,List.length_map,bj,go_sem,reduceIte,zA,zB,zC,zD,zE,zF,reduceCtorEq]
              refine aM (fun rP => ?_) (fun rP => ?_)
              · skip
                have hE : mK x (bP l i) = 1 := by rw [AO, Jm CU MA, if_pos (by unfold JR km; rw [← au]; exact rP)]
                have ay : 1 = fq l := by unfold fq; rw [if_neg (by have := of_decide_eq_false HS; omega), iq, lZ hx (by rw [hE]; decide), hE]
                simp only [hw,List.getElem?_map,hx,ao,ak,ew,hp,List.length_map,bj,go_sem,reduceIte,zA,zB,zC,zD,zE,zF,reduceCtorEq]
                exact hK _ (congrArg num ay)
              · skip
                have JQ : mK x (bP l i) = 0 := by
                  first
                    | (rw [AO, Jm CU MA, if_neg (by unfold JR km; rw [← au]; rw [rP]; simp)]; done)
                    | (have h0 : i = 0 := by have := of_decide_eq_false gy; omega
                       rw [h0]; exact NN CU MA)
                simp only [hw,List.getElem?_map,hx,ao,ak,ew,hp,List.length_map,bj,go_sem,reduceIte,zA,zB,zC,zD,zE,zF,reduceCtorEq]
                refine bW _ (dD (by omega) (by simp only [hw,List.getElem?_map,hx,ao,ak,ew,hp,List.length_map,bj,go_sem,reduceIte,zA,zB,zC,zD,zE,zF,reduceCtorEq]) ?_ ?_) <;> simp only [gQ,lk,reduceIte,zE]
                · exact ⟨i + 1, rfl, aD, by rw [iq]; exact tE hx JQ⟩
                · simp only [Go.Eng.intOf,List.headD_cons]; omega
            · skip
              have JQ : mK x (bP l i) = 0 := by
                first
                  | (rw [AO, Jm CU MA, if_neg (by unfold JR km; rw [← au]; rw [rP]; simp)]; done)
                  | (have h0 : i = 0 := by have := of_decide_eq_false gy; omega
                     rw [h0]; exact NN CU MA)
              simp only [hw,List.getElem?_map,hx,ao,ak,List.length_map,bj,go_sem,reduceIte,zA,zB,zC,zD,zE,zF,reduceCtorEq]
              refine bW _ (dD (by omega) (by simp only [hw,List.getElem?_map,hx,ao,ak,List.length_map,bj,go_sem,reduceIte,zA,zB,zC,zD,zE,zF,reduceCtorEq]) ?_ ?_) <;> simp only [gQ,lk,reduceIte,zE]
              · exact ⟨i + 1, rfl, aD, by rw [iq]; exact tE hx JQ⟩
              · simp only [Go.Eng.intOf,List.headD_cons]; omega
    · skip
      have c5 : ¬ i < l.length := by simpa using cY
      have ay : 0 = fq l := by unfold fq; rw [if_neg (by have := of_decide_eq_false HS; omega), iq, List.drop_eq_nil_of_le (by omega)]; rfl
      simp only [List.length_map,bj,go_sem,reduceIte,zA,zB,zC,zD,zE,zF,reduceCtorEq]
      exact hK _ (congrArg num ay)
theorem AA (r : Rl) (hb : Cm r) : ∃ r_, (fun w => w = num (gH r)) r_ ∧ aO Tryz.prog 59 [ag r] r_ := by
  refine ef tt_ok [] 43 [.tmp 2] (fn := Tryz.f59) Tryz.func59 rfl Tryz.call59 ⟨rfl, rfl, by simp⟩ fun K hK => ?_
  simp only [ag,af,ah]
  obtain ⟨rF, ur, M0⟩ := hb
  simp only [go_sem,reduceIte,zA,zB,zC,zD,zE,zF,reduceCtorEq]
  refine cF (Ei r.path rF) ?_
  rintro _ rfl
  obtain ⟨M, hM⟩ : ∃ M, M = (if bC r.path = true then bO r.path else -1) := ⟨_, rfl⟩
  rw [← hM]
  simp only [go_sem,reduceIte,zA,zB,zC,zD,zE,zF,reduceCtorEq]
  refine aM (fun jG => ?_) (fun jG => ?_)
  · skip
    have ay : 4 = gH r := (Ul (Jk (by rw [← hM]; exact of_decide_eq_true jG))).symm
    simp only [go_sem,reduceIte,zA,zB,zC,zD,zE,zF,reduceCtorEq]
    exact hK _ (congrArg num ay)
  · skip
    obtain ⟨CU, Vg⟩ := Jl (s := r.path) (by rw [← hM]; exact of_decide_eq_false jG)
    rw [← hM] at Vg
    simp only [go_sem,reduceIte,zA,zB,zC,zD,zE,zF,reduceCtorEq]
    refine cF (by have h := Fg r.aC; simp only [aU] at h; exact h) ?_
    rintro _ rfl
    simp only [go_sem,reduceIte,zA,zB,zC,zD,zE,zF,reduceCtorEq]
    refine aM (fun tH => ?_) (fun tH => ?_)
    · skip
      have hv : (!r.aC.ok || !decide (r.aC.mj = bO r.path)) = true := by rw [← Vg]; simp_all
      have ay : 2 = gH r := (NO CU hv).symm
      simp only [go_sem,reduceIte,zA,zB,zC,zD,zE,zF,reduceCtorEq]
      exact hK _ (congrArg num ay)
    · skip
      simp only [go_sem,reduceIte,zA,zB,zC,zD,zE,zF,reduceCtorEq]
      refine aM (fun Ig => ?_) (fun Ig => ?_)
      · skip
        have hv : (!r.aC.ok || !decide (r.aC.mj = bO r.path)) = true := by rw [← Vg]; simp_all
        have ay : 2 = gH r := (NO CU hv).symm
        simp only [go_sem,reduceIte,zA,zB,zC,zD,zE,zF,reduceCtorEq]
        exact hK _ (congrArg num ay)
      · skip
        have hv : (!r.aC.ok || !decide (r.aC.mj = bO r.path)) = false := by rw [← Vg]; simp_all
        simp only [go_sem,reduceIte,zA,zB,zC,zD,zE,zF,reduceCtorEq]
        refine cF (by have h := Mz r.reqs ur M0; simp only [ah] at h; exact h) ?_
        rintro _ rfl
        simp only [go_sem,reduceIte,zA,zB,zC,zD,zE,zF,reduceCtorEq]
        refine aM (fun gU => ?_) (fun gU => ?_)
        · skip
          have ay : fq r.reqs = gH r := (Um CU hv (by simpa using gU)).symm
          simp only [go_sem,reduceIte,zA,zB,zC,zD,zE,zF,reduceCtorEq]
          exact hK _ (congrArg num ay)
        · skip
          simp only [go_sem,reduceIte,zA,zB,zC,zD,zE,zF,reduceCtorEq]
          refine cF (og _) ?_
          rintro _ rfl
          simp only [go_sem,reduceIte,zA,zB,zC,zD,zE,zF,reduceCtorEq]
          refine aM (fun Un => ?_) (fun Un => ?_)
          · skip
            have hd : (jJ r.ar && (jJ r.gq && jJ r.ce)) = false := by simp_all
            have ay : 1 = gH r := by rw [Ej CU hv (by simpa using gU), hd]; rfl
            simp only [go_sem,reduceIte,zA,zB,zC,zD,zE,zF,reduceCtorEq]
            exact hK _ (congrArg num ay)
          · skip
            simp only [go_sem,reduceIte,zA,zB,zC,zD,zE,zF,reduceCtorEq]
            refine cF (og _) ?_
            rintro _ rfl
            simp only [go_sem,reduceIte,zA,zB,zC,zD,zE,zF,reduceCtorEq]
            refine aM (fun QM => ?_) (fun QM => ?_)
            · skip
              have hd : (jJ r.ar && (jJ r.gq && jJ r.ce)) = false := by simp_all
              have ay : 1 = gH r := by rw [Ej CU hv (by simpa using gU), hd]; rfl
              simp only [go_sem,reduceIte,zA,zB,zC,zD,zE,zF,reduceCtorEq]
              exact hK _ (congrArg num ay)
            · skip
              simp only [go_sem,reduceIte,zA,zB,zC,zD,zE,zF,reduceCtorEq]
              refine cF (og _) ?_
              rintro _ rfl
              simp only [go_sem,reduceIte,zA,zB,zC,zD,zE,zF,reduceCtorEq]
              refine aM (fun PN => ?_) (fun PN => ?_)
              · skip
                have hd : (jJ r.ar && (jJ r.gq && jJ r.ce)) = false := by simp_all
                have ay : 1 = gH r := by rw [Ej CU hv (by simpa using gU), hd]; rfl
                simp only [go_sem,reduceIte,zA,zB,zC,zD,zE,zF,reduceCtorEq]
                exact hK _ (congrArg num ay)
              · skip
                have hd : (jJ r.ar && (jJ r.gq && jJ r.ce)) = true := by simp_all
                have ay : 0 = gH r := by rw [Ej CU hv (by simpa using gU), hd]; rfl
                simp only [go_sem,reduceIte,zA,zB,zC,zD,zE,zF,reduceCtorEq]
                exact hK _ (congrArg num ay)
theorem mV (l : List Rl) (I : List V) (hb : ux l) : ∃ r_, (fun w => w = num (eH l)) r_ ∧ aO Tryz.prog 49 [bk l I] r_ := by
  refine ef tt_ok [] 55 [.tmp 2] (fn := Tryz.f49) Tryz.func49 rfl Tryz.call49 ⟨rfl, rfl, by simp⟩ fun K hK => ?_
  simp only [bk,aV]
  obtain ⟨hl, hb⟩ := hb
  simp only [List.length_map,go_sem,reduceIte,zA,zB,zC,zD,zE,zF,reduceCtorEq]
  refine aM (fun cY => ?_) (fun cY => ?_)
  · skip
    have ay : 7 = eH l := by unfold eH; rw [if_pos (by have := of_decide_eq_true cY; omega)]
    simp only [List.length_map,go_sem,reduceIte,zA,zB,zC,zD,zE,zF,reduceCtorEq]
    exact hK _ (congrArg num ay)
  · skip
    simp only [List.length_map,go_sem,reduceIte,zA,zB,zC,zD,zE,zF,reduceCtorEq]
    refine bL tt_ok [] [4] 1 [3,10] (fun vs => ((l.length : Int) - Go.Eng.intOf (vs.headD .undef)).toNat) (fun vs => ∃ i : Nat, vs = [num i] ∧ i ≤ l.length ∧ dS none l = dS (bP l i) (l.drop i)) (by omega) (by simp only [List.length_map,go_sem,reduceIte,zA,zB,zC,zD,zE,zF,reduceCtorEq]) (⟨0, rfl, Nat.zero_le _, rfl⟩) fun vs hI Z1 bW => ?_
    obtain ⟨i, rfl, hi, iq⟩ := hI
    simp only [List.length_map,go_sem,reduceIte,zA,zB,zC,zD,zE,zF,reduceCtorEq]
    refine aM (fun cX => ?_) (fun cX => ?_)
    · skip
      have aD : i < l.length := by simpa using cX
      have hw := aB i (by omega)
      obtain ⟨x, hx⟩ : ∃ x, l[i]? = some x := ⟨_, List.getElem?_eq_getElem aD⟩
      simp only [hw,List.getElem?_map,hx,ag,af,ah,List.length_map,go_sem,reduceIte,zA,zB,zC,zD,zE,zF,reduceCtorEq]
      refine cF (by have h := AA x (hb x (List.mem_of_getElem? hx)); simp only [ag,af,ah] at h; exact h) ?_
      rintro _ rfl
      simp only [hw,List.getElem?_map,hx,ag,af,ah,List.length_map,go_sem,reduceIte,zA,zB,zC,zD,zE,zF,reduceCtorEq]
      refine aM (fun jg => ?_) (fun jg => ?_)
      · skip
        have ay : gH x = eH l := by unfold eH; rw [if_neg (by have := of_decide_eq_false cY; omega), iq, DN hx (by simpa using jg)]
        simp only [hw,List.getElem?_map,hx,ag,af,ah,List.length_map,go_sem,reduceIte,zA,zB,zC,zD,zE,zF,reduceCtorEq]
        exact hK _ (congrArg num ay)
      · skip
        obtain ⟨p, XI⟩ : ∃ p, i ≠ 0 → l[i - 1]? = some p ∧ bP l i = some p := by
          obtain ⟨p, hp⟩ : ∃ p, l[i - 1]? = some p := ⟨_, List.getElem?_eq_getElem (by omega)⟩
          exact ⟨p, fun h => ⟨hp, by rw [qm h, hp]⟩⟩
        simp only [hw,List.getElem?_map,hx,ag,af,ah,List.length_map,go_sem,reduceIte,zA,zB,zC,zD,zE,zF,reduceCtorEq]
        refine bI tt_ok aK [⟨.n, 0, [], [], []⟩, ⟨.n, 0, [], [], []⟩, ⟨.n, 0, [], [], []⟩, ⟨.n, 0, [], [], []⟩, ⟨.n, 0, [], [], []⟩, ⟨.n, 0, [], [], []⟩, ⟨.r, 0, [], [], []⟩, ⟨.r, 0, [], [], []⟩, ⟨.n, 0, [], [], []⟩, ⟨.n, 0, [], [], []⟩, ⟨.r, 0, [], [], []⟩, ⟨.r, 0, [], [], []⟩, ⟨.n, 0, [], [], []⟩, ⟨.n, 0, [], [], []⟩, ⟨.n, 0, [], [], []⟩] 0 (by kernel_rfl) ?_
        simp only [hw,List.getElem?_map,hx,ag,af,ah,List.length_map,go_sem,reduceIte,zA,zB,zC,zD,zE,zF,reduceCtorEq]
        refine aM (fun gy => ?_) (fun gy => ?_)
        · skip
          have wI : i ≠ 0 := by have := of_decide_eq_true gy; omega
          obtain ⟨hp, AO⟩ := XI wI
          have ew : IntKind.i64.wrap ((i : Int) - 1) = ((i - 1 : Nat) : Int) := jV _ _ (by omega) (by omega)
          simp only [hw,List.getElem?_map,hx,ag,af,ah,ew,hp,List.length_map,go_sem,reduceIte,zA,zB,zC,zD,zE,zF,reduceCtorEq]
          refine cG (by have h := mi p x; simp only [ag,af,ah] at h; exact h) ?_
          rintro _ rfl
          simp only [hw,List.getElem?_map,hx,ag,af,ah,ew,hp,List.length_map,go_sem,reduceIte,zA,zB,zC,zD,zE,zF,reduceCtorEq]
          refine aM (fun CF => ?_) (fun CF => ?_)
          · skip
            have ay : 5 = eH l := by unfold eH; rw [if_neg (by have := of_decide_eq_false cY; omega), iq, tF hx (by simpa using jg) AO, if_pos (Rl.pG.1 (by simpa using CF))]
            simp only [hw,List.getElem?_map,hx,ag,af,ah,ew,hp,List.length_map,go_sem,reduceIte,zA,zB,zC,zD,zE,zF,reduceCtorEq]
            exact hK _ (congrArg num ay)
          · skip
            have eV : p.key ≠ x.key := fun e => by have := of_decide_eq_false CF; exact this (Rl.pG.2 e)
            simp only [hw,List.getElem?_map,hx,ag,af,ah,ew,hp,List.length_map,go_sem,reduceIte,zA,zB,zC,zD,zE,zF,reduceCtorEq]
            refine bI tt_ok aK [⟨.n, 0, [], [], []⟩, ⟨.n, 0, [], [], []⟩, ⟨.n, 0, [], [], []⟩, ⟨.n, 0, [], [], []⟩, ⟨.n, 0, [], [], []⟩, ⟨.n, 0, [], [], []⟩, ⟨.r, 0, [], [], []⟩, ⟨.r, 0, [], [], []⟩, ⟨.n, 0, [], [], []⟩, ⟨.n, 0, [], [], []⟩, ⟨.r, 0, [], [], []⟩, ⟨.r, 0, [], [], []⟩, ⟨.n, 0, [], [], []⟩, ⟨.n, 0, [], [], []⟩, ⟨.n, 0, [], [], []⟩] 0 (by kernel_rfl) ?_
            simp only [hw,List.getElem?_map,hx,ag,af,ah,ew,hp,List.length_map,go_sem,reduceIte,zA,zB,zC,zD,zE,zF,reduceCtorEq]
            refine aM (fun gz => ?_) (fun gz => ?_)
            · skip
              have nr : i ≠ 0 := by have := of_decide_eq_true gz; omega
              obtain ⟨jA, QN⟩ := XI nr
              have ui : IntKind.i64.wrap ((i : Int) - 1) = ((i - 1 : Nat) : Int) := jV _ _ (by omega) (by omega)
              simp only [hw,List.getElem?_map,hx,ag,af,ah,ew,hp,ui,jA,List.length_map,go_sem,reduceIte,zA,zB,zC,zD,zE,zF,reduceCtorEq]
              refine cG (by have h := mi p x; simp only [ag,af,ah] at h; exact h) ?_
              rintro _ rfl
              simp only [hw,List.getElem?_map,hx,ag,af,ah,ew,hp,ui,jA,List.length_map,go_sem,reduceIte,zA,zB,zC,zD,zE,zF,reduceCtorEq]
              refine aM (fun qn => ?_) (fun qn => ?_)
              · skip
                have QO : p.key ≠ x.key := by first | exact eV | (exfalso; rw [gy] at gz; cases gz)
                have ay : 1 = eH l := by unfold eH; rw [if_neg (by have := of_decide_eq_false cY; omega), iq, tF hx (by simpa using jg) QN, if_neg QO, if_pos (of_decide_eq_true qn)]
                simp only [hw,List.getElem?_map,hx,ag,af,ah,ew,hp,ui,jA,List.length_map,go_sem,reduceIte,zA,zB,zC,zD,zE,zF,reduceCtorEq]
                exact hK _ (congrArg num ay)
              · skip
                have EU : ∀ p, bP l i = some p → p.key ≠ x.key ∧ ¬ 0 < p.cmp x := by
                  intro q hq
                  first
                    | (have h1 := of_decide_eq_false qn; rw [AO] at hq; cases hq; exact ⟨eV, h1⟩)
                    | (have h1 := of_decide_eq_false gy; have h0 : i = 0 := (by omega); rw [h0] at hq; cases hq)
                    | (have h1 := of_decide_eq_false gz; exfalso; omega)
                simp only [hw,List.getElem?_map,hx,ag,af,ah,ew,hp,ui,jA,List.length_map,go_sem,reduceIte,zA,zB,zC,zD,zE,zF,reduceCtorEq]
                refine bW _ (dD (by omega) (by simp only [hw,List.getElem?_map,hx,ag,af,ah,ew,hp,ui,jA,List.length_map,go_sem,reduceIte,zA,zB,zC,zD,zE,zF,reduceCtorEq]) ?_ ?_) <;> simp only [gQ,lk,reduceIte,zE]
                · exact ⟨i + 1, rfl, aD, by rw [iq]; exact mL hx (by simpa using jg) EU⟩
                · simp only [Go.Eng.intOf,List.headD_cons]; omega
            · skip
              have EU : ∀ p, bP l i = some p → p.key ≠ x.key ∧ ¬ 0 < p.cmp x := by
                intro q hq
                first
                  | (have h1 := of_decide_eq_false qn; rw [AO] at hq; cases hq; exact ⟨eV, h1⟩)
                  | (have h1 := of_decide_eq_false gy; have h0 : i = 0 := (by omega); rw [h0] at hq; cases hq)
                  | (have h1 := of_decide_eq_false gz; exfalso; omega)
              simp only [hw,List.getElem?_map,hx,ag,af,ah,ew,hp,List.length_map,go_sem,reduceIte,zA,zB,zC,zD,zE,zF,reduceCtorEq]
              refine bW _ (dD (by omega) (by simp only [hw,List.getElem?_map,hx,ag,af,ah,ew,hp,List.length_map,go_sem,reduceIte,zA,zB,zC,zD,zE,zF,reduceCtorEq]) ?_ ?_) <;> simp only [gQ,lk,reduceIte,zE]
              · exact ⟨i + 1, rfl, aD, by rw [iq]; exact mL hx (by simpa using jg) EU⟩
              · simp only [Go.Eng.intOf,List.headD_cons]; omega
        · skip
          simp only [hw,List.getElem?_map,hx,ag,af,ah,List.length_map,go_sem,reduceIte,zA,zB,zC,zD,zE,zF,reduceCtorEq]
          refine bI tt_ok aK [⟨.n, 0, [], [], []⟩, ⟨.n, 0, [], [], []⟩, ⟨.n, 0, [], [], []⟩, ⟨.n, 0, [], [], []⟩, ⟨.n, 0, [], [], []⟩, ⟨.n, 0, [], [], []⟩, ⟨.r, 0, [], [], []⟩, ⟨.r, 0, [], [], []⟩, ⟨.n, 0, [], [], []⟩, ⟨.n, 0, [], [], []⟩, ⟨.r, 0, [], [], []⟩, ⟨.r, 0, [], [], []⟩, ⟨.n, 0, [], [], []⟩, ⟨.n, 0, [], [], []⟩, ⟨.n, 0, [], [], []⟩] 0 (by kernel_rfl) ?_
          simp only [hw,List.getElem?_map,hx,ag,af,ah,List.length_map,go_sem,reduceIte,zA,zB,zC,zD,zE,zF,reduceCtorEq]
          refine aM (fun gz => ?_) (fun gz => ?_)
          · skip
            have nr : i ≠ 0 := by have := of_decide_eq_true gz; omega
            obtain ⟨jA, QN⟩ := XI nr
            have ui : IntKind.i64.wrap ((i : Int) - 1) = ((i - 1 : Nat) : Int) := jV _ _ (by omega) (by omega)
            simp only [hw,List.getElem?_map,hx,ag,af,ah,ui,jA,List.length_map,go_sem,reduceIte,zA,zB,zC,zD,zE,zF,reduceCtorEq]
            refine cG (by have h := mi p x; simp only [ag,af,ah] at h; exact h) ?_
            rintro _ rfl
            simp only [hw,List.getElem?_map,hx,ag,af,ah,ui,jA,List.length_map,go_sem,reduceIte,zA,zB,zC,zD,zE,zF,reduceCtorEq]
            refine aM (fun qn => ?_) (fun qn => ?_)
            · skip
              have QO : p.key ≠ x.key := by first | exact eV | (exfalso; rw [gy] at gz; cases gz)
              have ay : 1 = eH l := by unfold eH; rw [if_neg (by have := of_decide_eq_false cY; omega), iq, tF hx (by simpa using jg) QN, if_neg QO, if_pos (of_decide_eq_true qn)]
              simp only [hw,List.getElem?_map,hx,ag,af,ah,ui,jA,List.length_map,go_sem,reduceIte,zA,zB,zC,zD,zE,zF,reduceCtorEq]
              exact hK _ (congrArg num ay)
            · skip
              have EU : ∀ p, bP l i = some p → p.key ≠ x.key ∧ ¬ 0 < p.cmp x := by
                intro q hq
                first
                  | (have h1 := of_decide_eq_false qn; rw [AO] at hq; cases hq; exact ⟨eV, h1⟩)
                  | (have h1 := of_decide_eq_false gy; have h0 : i = 0 := (by omega); rw [h0] at hq; cases hq)
                  | (have h1 := of_decide_eq_false gz; exfalso; omega)
              simp only [hw,List.getElem?_map,hx,ag,af,ah,ui,jA,List.length_map,go_sem,reduceIte,zA,zB,zC,zD,zE,zF,reduceCtorEq]
              refine bW _ (dD (by omega) (by simp only [hw,List.getElem?_map,hx,ag,af,ah,ui,jA,List.length_map,go_sem,reduceIte,zA,zB,zC,zD,zE,zF,reduceCtorEq]) ?_ ?_) <;> simp only [gQ,lk,reduceIte,zE]
              · exact ⟨i + 1, rfl, aD, by rw [iq]; exact mL hx (by simpa using jg) EU⟩
              · simp only [Go.Eng.intOf,List.headD_cons]; omega
          · skip
            have EU : ∀ p, bP l i = some p → p.key ≠ x.key ∧ ¬ 0 < p.cmp x := by
              intro q hq
              first
                | (have h1 := of_decide_eq_false qn; rw [AO] at hq; cases hq; exact ⟨eV, h1⟩)
                | (have h1 := of_decide_eq_false gy; have h0 : i = 0 := (by omega); rw [h0] at hq; cases hq)
                | (have h1 := of_decide_eq_false gz; exfalso; omega)
            simp only [hw,List.getElem?_map,hx,ag,af,ah,List.length_map,go_sem,reduceIte,zA,zB,zC,zD,zE,zF,reduceCtorEq]
            refine bW _ (dD (by omega) (by simp only [hw,List.getElem?_map,hx,ag,af,ah,List.length_map,go_sem,reduceIte,zA,zB,zC,zD,zE,zF,reduceCtorEq]) ?_ ?_) <;> simp only [gQ,lk,reduceIte,zE]
            · exact ⟨i + 1, rfl, aD, by rw [iq]; exact mL hx (by simpa using jg) EU⟩
            · simp only [Go.Eng.intOf,List.headD_cons]; omega
    · skip
      have c5 : ¬ i < l.length := by simpa using cX
      have ay : 0 = eH l := by unfold eH; rw [if_neg (by have := of_decide_eq_false cY; omega), iq, List.drop_eq_nil_of_le (by omega)]; rfl
      simp only [List.length_map,go_sem,reduceIte,zA,zB,zC,zD,zE,zF,reduceCtorEq]
      exact hK _ (congrArg num ay)
end Go.Proofs.YtnfeacnbgbggfaaGreatDoor
end

section
namespace Go.Proofs.YtnfeacnbgbggfaaGreatDoor
open Go.Eng
open Nat renaming reduceAdd → zA, reduceLT → zB, reduceLeDiff → zC, reduceMul → zD, reduceEqDiff → zE, reduceSub → zF
variable [aH]
set_option maxHeartbeats 4000000
set_option maxRecDepth 100000
theorem kh {l : List Rl} {i : Nat} (hi : i ≤ l.length) (h0 : 0 < i → eH l = 0) (XJ : ¬ i < l.length ∨ eH l ≠ 0) : l.take i = al l := by
 unfold al
 by_cases hx : eH l = 0
 ·rw [if_pos hx, List.take_of_length_le]
  rcases XJ with h | h
  ·omega
  ·exact absurd hx h
 ·rw [if_neg hx]
  have : i = 0 := by
   rcases Nat.eq_zero_or_pos i with h | h
   ·exact h
   ·exact absurd (h0 h) hx
  rw [this, List.take_zero]
def gX (t : List Rl) (p : ByteArray) : List da := (bM t p).map Rl.aC
theorem uj {l : List Rl} {i : Nat} {x : Rl} (h : l[i]? = some x) (p : ByteArray) : gX (l.take (i + 1)) p = gX (l.take i) p ++ (if x.path = p then [x.aC] else []) := by
 unfold gX bM
 rw [List.take_add_one, h]
 by_cases hp : x.path = p <;> simp [hp]
theorem F1 (l : List Rl) (p : ByteArray) (i : Nat) : (gX (l.take i) p).length ≤ i := by
 unfold gX bM
 rw [List.length_map]
 exact Nat.le_trans (List.length_filter_le _ _) (by rw [List.length_take]; omega)
def Uo (t : List Rl) (p : ByteArray) : List bB := ((bM t p).filter fun r => !r.yk).map fun r => ⟨r.aC.place, r.aC.place + 1⟩
theorem Up {l : List Rl} {i : Nat} {x : Rl} (h : l[i]? = some x) (p : ByteArray) : Uo (l.take (i + 1)) p = Uo (l.take i) p ++ (if x.path = p ∧ x.yk = false then [⟨x.aC.place, x.aC.place + 1⟩] else []) := by
 unfold Uo bM
 rw [List.take_add_one, h]
 by_cases hp : x.path = p <;> cases hy : x.yk <;> simp [hp, hy]
theorem Vh (l : List Rl) (p : ByteArray) (i : Nat) : (Uo (l.take i) p).length ≤ i := by
 unfold Uo bM
 rw [List.length_map]
 exact Nat.le_trans (List.length_filter_le _ _) (Nat.le_trans (List.length_filter_le _ _) (by rw [List.length_take]; omega))
def fX (b : Option ByteArray) : List Rl → List ByteArray
 | [] => []
 | r :: t => if b = some r.path then fX (some r.path) t else r.path :: fX (some r.path) t
theorem F2 {l : List Rl} {s : fP} (h : ∀ j < l.length, ∀ x, l[j]? = some x → x.key ≠ s) : (l.find? fun r => decide (r.key = s)) = none := by
 rw [List.find?_eq_none]
 intro x hx
 obtain ⟨j, hj⟩ := List.mem_iff_getElem?.1 hx
 have := h j (List.getElem?_eq_some_iff.1 hj).1 x hj
 simpa using this
theorem MB {l : List Rl} {s : fP} {i : Nat} {x : Rl} (hx : l[i]? = some x) (hk : x.key = s) (h : ∀ j < i, ∀ x, l[j]? = some x → x.key ≠ s) : (l.find? fun r => decide (r.key = s)) = some x := by
 have aD := (List.getElem?_eq_some_iff.1 hx).1
 rw [List.find?_eq_some_iff_getElem]
 refine ⟨by simpa using hk, i, aD, (List.getElem?_eq_some_iff.1 hx).2, fun j hj => ?_⟩
 have := h j hj _ (List.getElem?_eq_getElem (by omega))
 simpa using this
theorem QP {l : List Rl} {s : fP} (h : eH l ≠ 0) : nf l s = none := by unfold nf al; rw [if_neg h]; rfl
theorem Jo {l : List Rl} {s : fP} (h : eH l = 0) : nf l s = l.find? fun r => decide (r.key = s) := by unfold nf al; rw [if_pos h]
theorem wb (v : da) (h : v.ok = true) : ∃ r_, (fun w => w = num (v.place)) r_ ∧ aO Tryz.prog 87 [aU v] r_ := by
 refine ef tt_ok [] 9 [.tmp 2] (fn := Tryz.f87) Tryz.func87 rfl Tryz.call87 ⟨rfl, rfl, by simp⟩ fun K hK => ?_
 simp only [aU]
 obtain ⟨w1, w2, -, -⟩ := iQ h
 simp only [w1,w2,go_sem,reduceIte,zA,zB,zC,zD,zE,zF,reduceCtorEq]
 exact hK _ rfl
theorem Jp (l : List Rl) (I : List V) (hb : ux l) (p : ByteArray) (v : da) : ∃ r_, (fun w => w = .bN [ag ((nf l ⟨p, v⟩).getD ja), bl (nf l ⟨p, v⟩).isSome]) r_ ∧ aO Tryz.prog 35 [bk l I, str p, aU v] r_ := by
 refine ef tt_ok [] 44 [.cell 6 40, .tmp 7] (fn := Tryz.f35) Tryz.func35 rfl Tryz.call35 ⟨rfl, rfl, by simp⟩ fun K hK => ?_
 simp only [bk,aV,aU]
 have AP := hb.1
 simp only [List.length_map,au,go_sem,reduceIte,zA,zB,zC,zD,zE,zF,reduceCtorEq]
 refine cF (by have h := mV l I hb; simp only [bk,aV] at h; exact h) ?_
 rintro _ rfl
 simp only [List.length_map,au,go_sem,reduceIte,zA,zB,zC,zD,zE,zF,reduceCtorEq]
 refine aM (fun QQ => ?_) (fun QQ => ?_)
 ·have JL : nf l ⟨p, v⟩ = none := QP (by simpa using QQ)
  simp only [List.length_map,au,go_sem,reduceIte,zA,zB,zC,zD,zE,zF,reduceCtorEq]
  refine hK _ ?_
  rw [JL]
  first
   | rfl
   | (simp [ag, af, ah]; done)
 ·have nH : eH l = 0 := by simpa using QQ
  simp only [List.length_map,au,go_sem,reduceIte,zA,zB,zC,zD,zE,zF,reduceCtorEq]
  refine bL tt_ok [] [8] 3 [1,3,5,6,11] (fun vs => ((l.length : Int) - Go.Eng.intOf (vs.headD .undef)).toNat) (fun vs => ∃ i : Nat, vs = [num i] ∧ i ≤ l.length ∧ ∀ j < i, ∀ x, l[j]? = some x → x.key ≠ ⟨p, v⟩) (by omega) (by simp only [List.length_map,au,go_sem,reduceIte,zA,zB,zC,zD,zE,zF,reduceCtorEq]) (⟨0, rfl, Nat.zero_le _, fun j hj => absurd hj (Nat.not_lt_zero j)⟩) fun vs hI Z1 bW => ?_
  obtain ⟨i, rfl, hi, bh⟩ := hI
  simp only [List.length_map,au,go_sem,reduceIte,zA,zB,zC,zD,zE,zF,reduceCtorEq]
  refine aM (fun jf => ?_) (fun jf => ?_)
  ·have aD : i < l.length := by simpa using jf
   have hw := aB i (by omega)
   obtain ⟨x, hx⟩ : ∃ x, l[i]? = some x := ⟨_, List.getElem?_eq_getElem aD⟩
   have uy := fun a b => cQ a b x.aC v
   simp only [hw,List.getElem?_map,hx,ag,af,ah,uy,List.length_map,au,go_sem,reduceIte,zA,zB,zC,zD,zE,zF,reduceCtorEq]
   refine bI tt_ok aK [⟨.n, 0, [], [], []⟩, ⟨.r, 0, [], [], []⟩, ⟨.n, 0, [], [], []⟩, ⟨.r, 0, [], [], []⟩, ⟨.n, 0, [], [], []⟩, ⟨.r, 0, [], [], []⟩, ⟨.n, 0, [], [], []⟩, ⟨.n, 0, [], [], []⟩, ⟨.n, 0, [], [], []⟩, ⟨.n, 0, [], [], []⟩, ⟨.r, 0, [], [], []⟩, ⟨.n, 0, [], [], []⟩, ⟨.r, 0, [], [], []⟩, ⟨.n, 0, [], [], []⟩, ⟨.r, 0, [], [], []⟩, ⟨.r, 0, [], [], []⟩, ⟨.n, 0, [], [], []⟩, ⟨.n, 0, [], [], []⟩] 0 (by kernel_rfl) ?_
   simp only [hw,List.getElem?_map,hx,ag,af,ah,uy,List.length_map,au,go_sem,reduceIte,zA,zB,zC,zD,zE,zF,reduceCtorEq]
   refine aM (fun Uq => ?_) (fun Uq => ?_)
   ·simp only [hw,List.getElem?_map,hx,ag,af,ah,uy,List.length_map,au,go_sem,reduceIte,zA,zB,zC,zD,zE,zF,reduceCtorEq]
    refine aM (fun rO => ?_) (fun rO => ?_)
    ·have hkx : x.key = ⟨p, v⟩ := by simp_all [Rl.key]
     have JL : nf l ⟨p, v⟩ = some x := by rw [Jo nH]; exact MB hx hkx bh
     simp only [hw,List.getElem?_map,hx,ag,af,ah,uy,List.length_map,au,go_sem,reduceIte,zA,zB,zC,zD,zE,zF,reduceCtorEq]
     refine hK _ ?_
     rw [JL]
     first
      | rfl
      | (simp [ag, af, ah]; done)
    ·have eV : x.key ≠ ⟨p, v⟩ := fun e => by simp_all [Rl.key]
     simp only [hw,List.getElem?_map,hx,ag,af,ah,uy,List.length_map,au,go_sem,reduceIte,zA,zB,zC,zD,zE,zF,reduceCtorEq]
     refine bW _ (dD (by omega) (by simp only [hw,List.getElem?_map,hx,ag,af,ah,uy,List.length_map,au,go_sem,reduceIte,zA,zB,zC,zD,zE,zF,reduceCtorEq]) ?_ ?_) <;> simp only [gQ,lk,reduceIte,zE]
     ·refine ⟨i + 1, rfl, aD, fun j hj => ?_⟩
      rcases Nat.lt_or_ge j i with h | h
      ·exact bh j h
      ·obtain rfl : j = i := by omega
       intro y hy
       rw [hx] at hy; cases hy; exact eV
     ·simp only [Go.Eng.intOf,List.headD_cons]; omega
   ·have eV : x.key ≠ ⟨p, v⟩ := fun e => by simp_all [Rl.key]
    simp only [hw,List.getElem?_map,hx,ag,af,ah,uy,List.length_map,au,go_sem,reduceIte,zA,zB,zC,zD,zE,zF,reduceCtorEq]
    refine bW _ (dD (by omega) (by simp only [hw,List.getElem?_map,hx,ag,af,ah,uy,List.length_map,au,go_sem,reduceIte,zA,zB,zC,zD,zE,zF,reduceCtorEq]) ?_ ?_) <;> simp only [gQ,lk,reduceIte,zE]
    ·refine ⟨i + 1, rfl, aD, fun j hj => ?_⟩
     rcases Nat.lt_or_ge j i with h | h
     ·exact bh j h
     ·obtain rfl : j = i := by omega
      intro y hy
      rw [hx] at hy; cases hy; exact eV
    ·simp only [Go.Eng.intOf,List.headD_cons]; omega
  ·have c5 : ¬ i < l.length := by simpa using jf
   have JL : nf l ⟨p, v⟩ = none := by rw [Jo nH]; exact F2 fun j hj => bh j (by omega)
   simp only [List.length_map,au,go_sem,reduceIte,zA,zB,zC,zD,zE,zF,reduceCtorEq]
   refine hK _ ?_
   rw [JL]
   first
    | rfl
    | (simp [ag, af, ah]; done)
end Go.Proofs.YtnfeacnbgbggfaaGreatDoor
end

section
namespace Go.Proofs.YtnfeacnbgbggfaaGreatDoor
open Go.Eng
open Nat renaming reduceAdd → zA, reduceLT → zB, reduceLeDiff → zC, reduceMul → zD, reduceEqDiff → zE, reduceSub → zF
variable [aH]
set_option maxHeartbeats 4000000
set_option maxRecDepth 100000
def aaV (t : List Rl) (p : ByteArray) : List da := gX t p
theorem uk {l : List Rl} {i : Nat} {x : Rl} (h : l[i]? = some x) (p : ByteArray) : me (bM (l.take (i + 1)) p) = me (bM (l.take i) p) ++ (if x.path = p ∧ x.yk = false then [uz x] else []) := by
 unfold me bM
 rw [List.take_add_one, h]
 by_cases hp : x.path = p <;> cases hy : x.yk <;> simp [hp, hy]
theorem xO (l : List Rl) (p : ByteArray) (i : Nat) : (me (bM (l.take i) p)).length ≤ i := by
 unfold me bM
 rw [List.length_map]
 exact Nat.le_trans (List.length_filter_le _ _) (Nat.le_trans (List.length_filter_le _ _) (by rw [List.length_take]; omega))
theorem QR {r : Rl} (h : gH r = 0) : r.aC.ok = true := by
 cases ho : r.aC.ok with
 | true => rfl
 | false =>
  exfalso
  unfold gH at h
  by_cases h1 : bD r.path ≠ 0
  ·rw [if_pos h1] at h; cases h
  ·rw [if_neg h1, if_pos (by rw [ho]; rfl)] at h; cases h
theorem QS {l : List Rl} (h : eH l = 0) {x : Rl} (hx : x ∈ l) : gH x = 0 := xG (l := l) (by unfold al; rw [if_pos h]; exact hx)
theorem AB {G : List Rl} {i : Nat} {x : Rl} (h : G[i]? = some x) : (G.take (i + 1)).map Rl.aC = (G.take i).map Rl.aC ++ [x.aC] := by rw [List.take_add_one, h]; simp
theorem Jq (s t : List da) (hl : s.length ≤ 1048576) : ∃ r_, (fun w => w = bl (decide (s = t))) r_ ∧ aO Tryz.prog 36 [.slice (s.map aU), .slice (t.map aU)] r_ := by
 refine ef tt_ok [] 26 [.tmp 4] (fn := Tryz.f36) Tryz.func36 rfl Tryz.call36 ⟨rfl, rfl, by simp⟩ fun K hK => ?_
 simp only [List.length_map,eE,go_sem,reduceIte,zA,zB,zC,zD,zE,zF,reduceCtorEq]
 refine aM (fun cY => ?_) (fun cY => ?_)
 ·have ay : false = decide (s = t) := by
   refine (decide_eq_false fun e => ?_).symm
   subst e; simp at cY
  simp only [List.length_map,eE,go_sem,reduceIte,zA,zB,zC,zD,zE,zF,reduceCtorEq]
  exact hK _ (congrArg bl ay)
 ·have iq : s.length = t.length := by have := cY; simp at this; omega
  simp only [List.length_map,eE,go_sem,reduceIte,zA,zB,zC,zD,zE,zF,reduceCtorEq]
  refine bL tt_ok [] [13] 0 [0,1,10,12] (fun vs => ((s.length : Int) - Go.Eng.intOf (vs.headD .undef)).toNat) (fun vs => ∃ i : Nat, vs = [num i] ∧ i ≤ s.length ∧ ∀ j < i, s[j]? = t[j]?) (by omega) (by simp only [List.length_map,eE,go_sem,reduceIte,zA,zB,zC,zD,zE,zF,reduceCtorEq]) (⟨0, rfl, Nat.zero_le _, fun j hj => absurd hj (Nat.not_lt_zero j)⟩) fun vs hI Z1 bW => ?_
  obtain ⟨i, rfl, hi, bh⟩ := hI
  simp only [List.length_map,eE,go_sem,reduceIte,zA,zB,zC,zD,zE,zF,reduceCtorEq]
  refine aM (fun cX => ?_) (fun cX => ?_)
  ·have aD : i < s.length := by simpa using cX
   have hw := aB i (by omega)
   obtain ⟨x, hx⟩ : ∃ x, s[i]? = some x := ⟨_, List.getElem?_eq_getElem aD⟩
   obtain ⟨y, hy⟩ : ∃ y, t[i]? = some y := ⟨_, List.getElem?_eq_getElem (by omega)⟩
   simp only [hw,List.getElem?_map,hx,hy,aU,List.length_map,eE,go_sem,reduceIte,zA,zB,zC,zD,zE,zF,reduceCtorEq]
   refine bI tt_ok aK [⟨.n, 0, [], [], []⟩, ⟨.n, 0, [], [], []⟩, ⟨.r, 0, [], [], []⟩, ⟨.r, 0, [], [], []⟩, ⟨.n, 0, [], [], []⟩, ⟨.n, 0, [], [], []⟩, ⟨.r, 0, [], [], []⟩, ⟨.r, 0, [], [], []⟩, ⟨.n, 0, [], [], []⟩] 0 (by kernel_rfl) ?_
   simp only [hw,List.getElem?_map,hx,hy,aU,List.length_map,eE,go_sem,reduceIte,zA,zB,zC,zD,zE,zF,reduceCtorEq]
   refine aM (fun lh => ?_) (fun lh => ?_)
   ·have ay : false = decide (s = t) := by
     refine (decide_eq_false fun e => ?_).symm
     subst e; rw [hx] at hy; cases hy; simp at lh
    simp only [hw,List.getElem?_map,hx,hy,aU,List.length_map,eE,go_sem,reduceIte,zA,zB,zC,zD,zE,zF,reduceCtorEq]
    exact hK _ (congrArg bl ay)
   ·simp only [hw,List.getElem?_map,hx,hy,aU,List.length_map,eE,go_sem,reduceIte,zA,zB,zC,zD,zE,zF,reduceCtorEq]
    refine bW _ (dD (by omega) (by simp only [hw,List.getElem?_map,hx,hy,aU,List.length_map,eE,go_sem,reduceIte,zA,zB,zC,zD,zE,zF,reduceCtorEq]) ?_ ?_) <;> simp only [gQ,lk,reduceIte,zE]
    ·refine ⟨i + 1, rfl, aD, fun j hj => ?_⟩
     rcases Nat.lt_or_ge j i with h | h
     ·exact bh j h
     ·obtain rfl : j = i := by omega
      rw [hx, hy]
      have := lh
      simp_all
    ·simp only [Go.Eng.intOf,List.headD_cons]; omega
  ·have c5 : ¬ i < s.length := by simpa using cX
   have ay : true = decide (s = t) := (decide_eq_true (iR iq fun j hj => bh j (by omega))).symm
   simp only [List.length_map,eE,go_sem,reduceIte,zA,zB,zC,zD,zE,zF,reduceCtorEq]
   exact hK _ (congrArg bl ay)
theorem Jr (s t : List ByteArray) (hl : s.length ≤ 1048576) : ∃ r_, (fun w => w = bl (decide (s = t))) r_ ∧ aO Tryz.prog 39 [.slice (s.map str), .slice (t.map str)] r_ := by
 refine ef tt_ok [] 26 [.tmp 4] (fn := Tryz.f39) Tryz.func39 rfl Tryz.call39 ⟨rfl, rfl, by simp⟩ fun K hK => ?_
 simp only [List.length_map,au,go_sem,reduceIte,zA,zB,zC,zD,zE,zF,reduceCtorEq]
 refine aM (fun cY => ?_) (fun cY => ?_)
 ·have ay : false = decide (s = t) := by
   refine (decide_eq_false fun e => ?_).symm
   subst e; simp at cY
  simp only [List.length_map,au,go_sem,reduceIte,zA,zB,zC,zD,zE,zF,reduceCtorEq]
  exact hK _ (congrArg bl ay)
 ·have iq : s.length = t.length := by have := cY; simp at this; omega
  simp only [List.length_map,au,go_sem,reduceIte,zA,zB,zC,zD,zE,zF,reduceCtorEq]
  refine bL tt_ok [] [13] 0 [0,1,10,12] (fun vs => ((s.length : Int) - Go.Eng.intOf (vs.headD .undef)).toNat) (fun vs => ∃ i : Nat, vs = [num i] ∧ i ≤ s.length ∧ ∀ j < i, s[j]? = t[j]?) (by omega) (by simp only [List.length_map,au,go_sem,reduceIte,zA,zB,zC,zD,zE,zF,reduceCtorEq]) (⟨0, rfl, Nat.zero_le _, fun j hj => absurd hj (Nat.not_lt_zero j)⟩) fun vs hI Z1 bW => ?_
  obtain ⟨i, rfl, hi, bh⟩ := hI
  simp only [List.length_map,au,go_sem,reduceIte,zA,zB,zC,zD,zE,zF,reduceCtorEq]
  refine aM (fun cX => ?_) (fun cX => ?_)
  ·have aD : i < s.length := by simpa using cX
   have hw := aB i (by omega)
   obtain ⟨x, hx⟩ : ∃ x, s[i]? = some x := ⟨_, List.getElem?_eq_getElem aD⟩
   obtain ⟨y, hy⟩ : ∃ y, t[i]? = some y := ⟨_, List.getElem?_eq_getElem (by omega)⟩
   simp only [hw,List.getElem?_map,hx,hy,List.length_map,au,go_sem,reduceIte,zA,zB,zC,zD,zE,zF,reduceCtorEq]
   refine bI tt_ok aK [⟨.n, 0, [], [], []⟩, ⟨.n, 0, [], [], []⟩, ⟨.r, 0, [], [], []⟩, ⟨.r, 0, [], [], []⟩, ⟨.n, 0, [], [], []⟩, ⟨.n, 0, [], [], []⟩, ⟨.r, 0, [], [], []⟩, ⟨.r, 0, [], [], []⟩, ⟨.n, 0, [], [], []⟩] 0 (by kernel_rfl) ?_
   simp only [hw,List.getElem?_map,hx,hy,List.length_map,au,go_sem,reduceIte,zA,zB,zC,zD,zE,zF,reduceCtorEq]
   refine aM (fun lh => ?_) (fun lh => ?_)
   ·have ay : false = decide (s = t) := by
     refine (decide_eq_false fun e => ?_).symm
     subst e; rw [hx] at hy; cases hy; simp at lh
    simp only [hw,List.getElem?_map,hx,hy,List.length_map,au,go_sem,reduceIte,zA,zB,zC,zD,zE,zF,reduceCtorEq]
    exact hK _ (congrArg bl ay)
   ·simp only [hw,List.getElem?_map,hx,hy,List.length_map,au,go_sem,reduceIte,zA,zB,zC,zD,zE,zF,reduceCtorEq]
    refine bW _ (dD (by omega) (by simp only [hw,List.getElem?_map,hx,hy,List.length_map,au,go_sem,reduceIte,zA,zB,zC,zD,zE,zF,reduceCtorEq]) ?_ ?_) <;> simp only [gQ,lk,reduceIte,zE]
    ·refine ⟨i + 1, rfl, aD, fun j hj => ?_⟩
     rcases Nat.lt_or_ge j i with h | h
     ·exact bh j h
     ·obtain rfl : j = i := by omega
      rw [hx, hy]
      have := lh
      simp_all
    ·simp only [Go.Eng.intOf,List.headD_cons]; omega
  ·have c5 : ¬ i < s.length := by simpa using cX
   have ay : true = decide (s = t) := (decide_eq_true (iR iq fun j hj => bh j (by omega))).symm
   simp only [List.length_map,au,go_sem,reduceIte,zA,zB,zC,zD,zE,zF,reduceCtorEq]
   exact hK _ (congrArg bl ay)
theorem xP (l : List Rl) (I : List V) (hb : ux l) (p : ByteArray) : ∃ r_, (fun w => w = .slice ((gX (al l) p).map aU)) r_ ∧ aO Tryz.prog 38 [bk l I, str p] r_ := by
 refine ef tt_ok [] 38 [.tmp 4] (fn := Tryz.f38) Tryz.func38 rfl Tryz.call38 ⟨rfl, rfl, by simp⟩ fun K hK => ?_
 simp only [bk,aV]
 have AP := hb.1
 simp only [List.length_map,au,go_sem,reduceIte,zA,zB,zC,zD,zE,zF,reduceCtorEq]
 refine cO tt_ok [] (fun a : Nat × List da => [(1, str p), (2, .ptr 0 0), (5, .ms 1 a.2.length 0 a.2.length), (6, num a.1)]) (fun a : Nat × List da => [.box [.slice (l.map ag), .slice I], .rows a.2.length 3 (a.2.map aU)]) (fun a => l.length - a.1) (fun a => a.1 ≤ l.length ∧ a.2 = gX (l.take a.1) p ∧ (0 < a.1 → eH l = 0)) ((0, [])) 2 (bm (by omega) (by simp only [List.length_map,au,List.map_nil,List.length_nil,Int.cast_ofNat_Int,go_sem,reduceIte,zA,zB,zC,zD,zE,zF,reduceCtorEq] <;> rfl)) (⟨Nat.zero_le _, rfl, fun h => absurd h (Nat.lt_irrefl _)⟩) ?_
 rintro ⟨i, R⟩ ⟨hi, hR, h0⟩
 try dsimp only at hi hR h0
 try dsimp only
 intro Z1 bW
 simp only [List.length_map,au,go_sem,reduceIte,zA,zB,zC,zD,zE,zF,reduceCtorEq]
 refine aM (fun jw => ?_) (fun jw => ?_)
 ·have aD : i < l.length := by have := of_decide_eq_true jw; omega
  simp only [List.length_map,au,go_sem,reduceIte,zA,zB,zC,zD,zE,zF,reduceCtorEq]
  refine cF (by have h := mV l I hb; simp only [bk,aV] at h; exact h) ?_
  rintro _ rfl
  simp only [List.length_map,au,go_sem,reduceIte,zA,zB,zC,zD,zE,zF,reduceCtorEq]
  refine aM (fun jf => ?_) (fun jf => ?_)
  ·have nH : eH l = 0 := of_decide_eq_true jf
   have hw := aB i (by omega)
   obtain ⟨x, hx⟩ : ∃ x, l[i]? = some x := ⟨_, List.getElem?_eq_getElem aD⟩
   simp only [hw,List.getElem?_map,hx,ag,af,ah,List.length_map,au,go_sem,reduceIte,zA,zB,zC,zD,zE,zF,reduceCtorEq]
   refine aM (fun Jb => ?_) (fun Jb => ?_)
   ·have MC : x.path = p := by simpa [au] using Jb
    let nv : Nat × List da := (i + 1, R ++ [x.aC])
    have IS : R.length ≤ i := by rw [hR]; exact F1 l p i
    have er : R.length + 1 ≤ 34359738368 := by omega
    have uX : nv.2 = gX (l.take (i + 1)) p := by rw [uj hx, if_pos MC, ← hR]
    simp only [hw,List.getElem?_map,hx,ag,af,ah,er,List.length_append,List.length_cons,List.length_nil,Nat.zero_add,List.length_map,au,go_sem,reduceIte,zA,zB,zC,zD,zE,zF,reduceCtorEq]
    refine bW _ ⟨nv, ?_, ?_, bm (by omega) (by (simp [nv, lg, lk, bo, bF, ai, az, List.map_append, aU, uz]))⟩
    ·exact ⟨aD, uX, fun _ => nH⟩
    ·dsimp only [nv]; omega
   ·have MC : ¬ x.path = p := by simpa [au] using Jb
    let nv : Nat × List da := (i + 1, R)
    have uX : nv.2 = gX (l.take (i + 1)) p := by rw [uj hx, if_neg MC, ← hR, List.append_nil]
    simp only [hw,List.getElem?_map,hx,ag,af,ah,List.length_map,au,go_sem,reduceIte,zA,zB,zC,zD,zE,zF,reduceCtorEq]
    refine bW _ ⟨nv, ?_, ?_, bm (by omega) (by (simp [nv, lg, lk, bo, bF, ai, az, List.map_append, aU, uz]))⟩
    ·exact ⟨aD, uX, fun _ => nH⟩
    ·dsimp only [nv]; omega
  ·have Js : l.take i = al l := kh hi h0 (by
    first
    | exact Or.inl (by have := of_decide_eq_false jw; omega)
    | exact Or.inr (of_decide_eq_false jf)
    | exact Or.inr (of_decide_eq_false gR)
    | exact Or.inr (of_decide_eq_false pg))
   have gw : R = gX (al l) p := by rw [hR, Js]
   simp only [List.length_map,au,go_sem,reduceIte,zA,zB,zC,zD,zE,zF,reduceCtorEq]
   refine hK _ ?_
   simp [jO, jN, lL, yv, dO, bu, ← gw, List.take_of_length_le]
 ·have Js : l.take i = al l := kh hi h0 (by
   first
   | exact Or.inl (by have := of_decide_eq_false jw; omega)
   | exact Or.inr (of_decide_eq_false jf)
   | exact Or.inr (of_decide_eq_false gR)
   | exact Or.inr (of_decide_eq_false pg))
  have gw : R = gX (al l) p := by rw [hR, Js]
  simp only [List.length_map,au,go_sem,reduceIte,zA,zB,zC,zD,zE,zF,reduceCtorEq]
  refine hK _ ?_
  simp [jO, jN, lL, yv, dO, bu, ← gw, List.take_of_length_le]
theorem F3 (l : List Rl) (I : List V) (hb : ux l) (p : ByteArray) : ∃ r_, (fun w => w = ak (canon (me (bM (al l) p)))) r_ ∧ aO Tryz.prog 44 [bk l I, str p] r_ := by
 refine ef tt_ok [] 48 [.tmp 4] (fn := Tryz.f44) Tryz.func44 rfl Tryz.call44 ⟨rfl, rfl, by simp⟩ fun K hK => ?_
 simp only [bk,aV]
 have AP := hb.1
 simp only [List.length_map,au,go_sem,reduceIte,zA,zB,zC,zD,zE,zF,reduceCtorEq]
 refine cO tt_ok [] (fun a : Nat × List bB => [(1, str p), (2, .ptr 0 0), (5, .ms 1 a.2.length 0 a.2.length), (6, num a.1)]) (fun a : Nat × List bB => [.box [.slice (l.map ag), .slice I], .rows a.2.length 2 (a.2.map aj)]) (fun a => l.length - a.1) (fun a => a.1 ≤ l.length ∧ a.2 = me (bM (l.take a.1) p) ∧ (0 < a.1 → eH l = 0)) ((0, [])) 2 (bm (by omega) (by simp only [List.length_map,au,List.map_nil,List.length_nil,Int.cast_ofNat_Int,go_sem,reduceIte,zA,zB,zC,zD,zE,zF,reduceCtorEq] <;> rfl)) (⟨Nat.zero_le _, rfl, fun h => absurd h (Nat.lt_irrefl _)⟩) ?_
 rintro ⟨i, R⟩ ⟨hi, hR, h0⟩
 try dsimp only at hi hR h0
 try dsimp only
 intro Z1 bW
 simp only [List.length_map,au,go_sem,reduceIte,zA,zB,zC,zD,zE,zF,reduceCtorEq]
 refine aM (fun jw => ?_) (fun jw => ?_)
 ·have aD : i < l.length := by have := of_decide_eq_true jw; omega
  simp only [List.length_map,au,go_sem,reduceIte,zA,zB,zC,zD,zE,zF,reduceCtorEq]
  refine cF (by have h := mV l I hb; simp only [bk,aV] at h; exact h) ?_
  rintro _ rfl
  simp only [List.length_map,au,go_sem,reduceIte,zA,zB,zC,zD,zE,zF,reduceCtorEq]
  refine aM (fun pg => ?_) (fun pg => ?_)
  ·have nH : eH l = 0 := of_decide_eq_true pg
   have hw := aB i (by omega)
   obtain ⟨x, hx⟩ : ∃ x, l[i]? = some x := ⟨_, List.getElem?_eq_getElem aD⟩
   simp only [hw,List.getElem?_map,hx,ag,af,ah,List.length_map,au,go_sem,reduceIte,zA,zB,zC,zD,zE,zF,reduceCtorEq]
   refine aM (fun Ur => ?_) (fun Ur => ?_)
   ·simp only [hw,List.getElem?_map,hx,ag,af,ah,List.length_map,au,go_sem,reduceIte,zA,zB,zC,zD,zE,zF,reduceCtorEq]
    refine aM (fun Av => ?_) (fun Av => ?_)
    ·have MC : x.path = p ∧ x.yk = false := by simp_all
     have bK : x.aC.ok = true := QR (QS nH (List.mem_of_getElem? hx))
     have QT : x.aC.place = x.aC.pl := (if_pos bK).symm
     obtain ⟨-, -, aaW, aaX⟩ := iQ bK
     have D8 : IntKind.i64.wrap (x.aC.place + 1) = x.aC.place + 1 := IntWalk.i64_in _ (by omega)
     have fT : ∀ a b : Int, bY [V.agg [num a, num b]] 0 2 = true := fun _ _ => rfl
     let nv : Nat × List bB := (i + 1, R ++ [uz x])
     have IS : R.length ≤ i := by rw [hR]; exact xO l p i
     have er : R.length + 1 ≤ 34359738368 := by omega
     have uX : nv.2 = me (bM (l.take (i + 1)) p) := by rw [uk hx, if_pos MC, ← hR]
     simp only [hw,List.getElem?_map,hx,ag,af,ah,er,List.length_append,List.length_cons,List.length_nil,Nat.zero_add,D8,fT,List.length_map,au,go_sem,reduceIte,zA,zB,zC,zD,zE,zF,reduceCtorEq]
     refine bI tt_ok aK [⟨.n, 0, [], [], []⟩, ⟨.n, 0, [], [], []⟩, ⟨.r, 0, [], [1], []⟩, ⟨.n, 0, [], [1,2], []⟩, ⟨.n, 0, [], [], []⟩, ⟨.r, 0, [], [4], []⟩, ⟨.n, 0, [], [1,2,3,4,5], []⟩, ⟨.n, 0, [], [1,2,3,4,5,6], []⟩, ⟨.n, 0, [], [1,2,3,4,5,6,7], []⟩, ⟨.n, 0, [], [1,2,3,4,5,6,7,8], []⟩, ⟨.w, 0, [], [0,1,2,3,4,5,6,7,8,9], []⟩, ⟨.n, 0, [], [0,1,2,3,4,5,6,7,8,9,10], []⟩] 1 (by kernel_rfl) ?_
     simp only [hw,List.getElem?_map,hx,ag,af,ah,er,List.length_append,List.length_cons,List.length_nil,Nat.zero_add,D8,fT,List.length_map,au,go_sem,reduceIte,zA,zB,zC,zD,zE,zF,reduceCtorEq]
     refine cG (by have h := wb x.aC bK; simp only [aU] at h; exact h) ?_
     rintro _ rfl
     simp only [hw,List.getElem?_map,hx,ag,af,ah,er,List.length_append,List.length_cons,List.length_nil,Nat.zero_add,D8,fT,List.length_map,au,go_sem,reduceIte,zA,zB,zC,zD,zE,zF,reduceCtorEq]
     refine cG (by have h := wb x.aC bK; simp only [aU] at h; exact h) ?_
     rintro _ rfl
     simp only [hw,List.getElem?_map,hx,ag,af,ah,er,List.length_append,List.length_cons,List.length_nil,Nat.zero_add,D8,fT,List.length_map,au,go_sem,reduceIte,zA,zB,zC,zD,zE,zF,reduceCtorEq]
     refine bW _ ⟨nv, ?_, ?_, bm (by omega) (by (first | (simp [nv, lg, lk, bo, bF, ai, az, List.map_append, aj, uz, ← QT]; done) | (simp [nv, lg, lk, bo, bF, ai, az, List.map_append, aj, uz]; done)))⟩
     ·exact ⟨aD, uX, fun _ => nH⟩
     ·dsimp only [nv]; omega
    ·let nv : Nat × List bB := (i + 1, R)
     have MC : ¬ (x.path = p ∧ x.yk = false) := by simp_all
     have uX : nv.2 = me (bM (l.take (i + 1)) p) := by rw [uk hx, if_neg MC, ← hR, List.append_nil]
     simp only [hw,List.getElem?_map,hx,ag,af,ah,List.length_map,au,go_sem,reduceIte,zA,zB,zC,zD,zE,zF,reduceCtorEq]
     refine bW _ ⟨nv, ?_, ?_, bm (by omega) (by (first | (simp [nv, lg, lk, bo, bF, ai, az, List.map_append, aj, uz, ← QT]; done) | (simp [nv, lg, lk, bo, bF, ai, az, List.map_append, aj, uz]; done)))⟩
     ·exact ⟨aD, uX, fun _ => nH⟩
     ·dsimp only [nv]; omega
   ·let nv : Nat × List bB := (i + 1, R)
    have MC : ¬ (x.path = p ∧ x.yk = false) := by simp_all
    have uX : nv.2 = me (bM (l.take (i + 1)) p) := by rw [uk hx, if_neg MC, ← hR, List.append_nil]
    simp only [hw,List.getElem?_map,hx,ag,af,ah,List.length_map,au,go_sem,reduceIte,zA,zB,zC,zD,zE,zF,reduceCtorEq]
    refine bW _ ⟨nv, ?_, ?_, bm (by omega) (by (first | (simp [nv, lg, lk, bo, bF, ai, az, List.map_append, aj, uz, ← QT]; done) | (simp [nv, lg, lk, bo, bF, ai, az, List.map_append, aj, uz]; done)))⟩
    ·exact ⟨aD, uX, fun _ => nH⟩
    ·dsimp only [nv]; omega
  ·have Js : l.take i = al l := kh hi h0 (by
    first
    | exact Or.inl (by have := of_decide_eq_false jw; omega)
    | exact Or.inr (of_decide_eq_false jf)
    | exact Or.inr (of_decide_eq_false gR)
    | exact Or.inr (of_decide_eq_false pg))
   have gw : R = me (bM (al l) p) := by rw [hR, Js]
   have IS : R.length ≤ i := by rw [hR]; exact xO l p i
   have ue : List.take R.length (R.map aj) = R.map aj := List.take_of_length_le (by simp)
   have IP : R.length ≤ (R.map aj).length := by simp
   simp only [ue,IP,List.length_map,au,go_sem,reduceIte,zA,zB,zC,zD,zE,zF,reduceCtorEq]
   refine cF (by have h := qz R (by omega); simp only [ak] at h; exact h) ?_
   rintro _ rfl
   simp only [ue,IP,List.length_map,au,go_sem,reduceIte,zA,zB,zC,zD,zE,zF,reduceCtorEq]
   exact hK _ (by rw [← gw]; rfl)
 ·have Js : l.take i = al l := kh hi h0 (by
   first
   | exact Or.inl (by have := of_decide_eq_false jw; omega)
   | exact Or.inr (of_decide_eq_false jf)
   | exact Or.inr (of_decide_eq_false gR)
   | exact Or.inr (of_decide_eq_false pg))
  have gw : R = me (bM (al l) p) := by rw [hR, Js]
  have IS : R.length ≤ i := by rw [hR]; exact xO l p i
  have ue : List.take R.length (R.map aj) = R.map aj := List.take_of_length_le (by simp)
  have IP : R.length ≤ (R.map aj).length := by simp
  simp only [ue,IP,List.length_map,au,go_sem,reduceIte,zA,zB,zC,zD,zE,zF,reduceCtorEq]
  refine cF (by have h := qz R (by omega); simp only [ak] at h; exact h) ?_
  rintro _ rfl
  simp only [ue,IP,List.length_map,au,go_sem,reduceIte,zA,zB,zC,zD,zE,zF,reduceCtorEq]
  exact hK _ (by rw [← gw]; rfl)
theorem AE (hG : aH.g = some 0) (l : List Rl) (I : List V) (hb : ux l) (p : ByteArray) : aO Tryz.prog 37 [bk l I, str p] (.slice ((gX (al l) p).map aU)) := by
 refine Rf tt_ok [] 31 [.tmp 4] (fn := Tryz.f37) Tryz.func37 rfl Tryz.call37 ⟨rfl, rfl, by simp⟩ fun K hK => ?_
 simp only [bk,aV]
 have AP := hb.1
 simp only [ab,ae,List.length_map,go_sem,reduceIte,zA,zB,zC,zD,zE,zF,reduceCtorEq]
 refine cW (by have h := fm hG l I hb; simp only [bk,aV] at h; exact h _) ?_
 rintro _ _ ⟨rfl, rfl⟩
 try simp only [vC,ND,List.length_cons,List.length_nil,zA]
 by_cases gJ : p ∈ aA (al l)
 ·have cI := fun (mem : List aw) (b : Nat) hm => mR (al l) p (mem := mem) (b := b) hm
  simp only [if_pos gJ,bQ] at cI
  simp only [ab,ae,cI,List.length_map,go_sem,reduceIte,zA,zB,zC,zD,zE,zF,reduceCtorEq]
  refine zh 7 0 3 (by decide) rfl ?_
  refine cO tt_ok [] (fun a : Nat × List da => [(7, .ms 6 a.2.length 0 a.2.length), (18, .slice ((bM (al l) p).map ag)), (19, num (bM (al l) p).length), (20, num a.1)]) (fun a : Nat × List da => [.box [.slice (l.map ag), .slice I], .box [.slice (l.map ag), .slice I], .box [.mp 3, .mp 4], .map (bE aN 0 (gK (al l))) (gK (al l)).length, .map (bE strVal 0 (gP (al l))) (aA (al l)).length, .box [.mp 3, .mp 4], .rows a.2.length 3 (a.2.map aU)]) (fun a => (bM (al l) p).length - a.1) (fun a => a.1 ≤ (bM (al l) p).length ∧ a.2 = ((bM (al l) p).take a.1).map Rl.aC) ((0, [])) 7 (bm (by omega) (by simp only [ab,ae,cI,List.length_map,List.map_nil,List.length_nil,Int.cast_ofNat_Int,go_sem,reduceIte,zA,zB,zC,zD,zE,zF,reduceCtorEq] <;> rfl)) (⟨Nat.zero_le _, rfl⟩) ?_
  rintro ⟨i, L⟩ ⟨hi, hL⟩
  try dsimp only at hi hL ⊢
  intro Z1 bW
  simp only [ab,ae,cI,List.length_map,go_sem,reduceIte,zA,zB,zC,zD,zE,zF,reduceCtorEq]
  refine aM (fun gx => ?_) (fun gx => ?_)
  ·have aD : i < (bM (al l) p).length := by simpa using gx
   have Ak : (bM (al l) p).length ≤ 256 := Nat.le_trans (List.length_filter_le _ _) (eJ l)
   have hw := aB i (by omega)
   obtain ⟨x, hx⟩ : ∃ x, (bM (al l) p)[i]? = some x := ⟨_, List.getElem?_eq_getElem aD⟩
   have Ck : L.length ≤ 256 := by rw [hL, List.length_map, List.length_take]; omega
   have er : L.length + 1 ≤ 34359738368 := by omega
   let nv : Nat × List da := (i + 1, L ++ [x.aC])
   have IN : L ++ [x.aC] = ((bM (al l) p).take (i + 1)).map Rl.aC := by rw [AB hx, hL]
   simp only [ab,ae,cI,hw,List.getElem?_map,hx,ag,af,ah,Option.map_some,er,List.length_cons,List.length_nil,Nat.zero_add,List.length_map,go_sem,reduceIte,zA,zB,zC,zD,zE,zF,reduceCtorEq]
   refine bW _ ⟨nv, ?_, ?_, bm (by omega) (by (simp only [nv,hw,List.map_append,List.map_cons,List.map_nil,List.length_append,List.length_map,List.length_cons,List.length_nil,Nat.zero_add,aU,uz,ab,ae,go_sem,reduceIte,zA,zB,zC,zD,zE,zF,reduceCtorEq]))⟩
   ·exact ⟨aD, IN⟩
   ·dsimp only [nv]; omega
  ·have c5 : ¬ i < (bM (al l) p).length := by simpa using gx
   have rD : i = (bM (al l) p).length := by omega
   have L9 : L = gX (al l) p := by rw [hL, rD, List.take_length]; rfl
   simp only [ab,ae,cI,List.length_map,go_sem,reduceIte,zA,zB,zC,zD,zE,zF,reduceCtorEq]
   refine hK _ ?_
   simp [jO, jN, lL, yv, dO, bu, ← L9, List.take_of_length_le]
 ·have cI := fun (mem : List aw) (b : Nat) hm => mR (al l) p (mem := mem) (b := b) hm
  simp only [if_neg gJ] at cI
  have Al : bM (al l) p = [] := by have h := kS gJ; unfold bQ at h; simpa using h
  simp only [ab,ae,cI,List.length_map,go_sem,reduceIte,zA,zB,zC,zD,zE,zF,reduceCtorEq]
  refine rM (v' := .slice ((bM (al l) p).map ag)) 18 (by decide) rfl (by rw [Al]; rfl) ?_
  refine HI (v' := num ((bM (al l) p).length : Int)) 19 (by rw [Al]; rfl) ?_
  refine zh 7 0 3 (by decide) rfl ?_
  refine cO tt_ok [] (fun a : Nat × List da => [(7, .ms 6 a.2.length 0 a.2.length), (18, .slice ((bM (al l) p).map ag)), (19, num (bM (al l) p).length), (20, num a.1)]) (fun a : Nat × List da => [.box [.slice (l.map ag), .slice I], .box [.slice (l.map ag), .slice I], .box [.mp 3, .mp 4], .map (bE aN 0 (gK (al l))) (gK (al l)).length, .map (bE strVal 0 (gP (al l))) (aA (al l)).length, .box [.mp 3, .mp 4], .rows a.2.length 3 (a.2.map aU)]) (fun a => (bM (al l) p).length - a.1) (fun a => a.1 ≤ (bM (al l) p).length ∧ a.2 = ((bM (al l) p).take a.1).map Rl.aC) ((0, [])) 7 (bm (by omega) (by simp only [ab,ae,cI,List.length_map,List.map_nil,List.length_nil,Int.cast_ofNat_Int,go_sem,reduceIte,zA,zB,zC,zD,zE,zF,reduceCtorEq] <;> rfl)) (⟨Nat.zero_le _, rfl⟩) ?_
  rintro ⟨i, L⟩ ⟨hi, hL⟩
  try dsimp only at hi hL ⊢
  intro Z2 qk
  simp only [ab,ae,cI,List.length_map,go_sem,reduceIte,zA,zB,zC,zD,zE,zF,reduceCtorEq]
  refine aM (fun gx => ?_) (fun gx => ?_)
  ·have aD : i < (bM (al l) p).length := by simpa using gx
   have Ak : (bM (al l) p).length ≤ 256 := Nat.le_trans (List.length_filter_le _ _) (eJ l)
   have hw := aB i (by omega)
   obtain ⟨x, hx⟩ : ∃ x, (bM (al l) p)[i]? = some x := ⟨_, List.getElem?_eq_getElem aD⟩
   have Ck : L.length ≤ 256 := by rw [hL, List.length_map, List.length_take]; omega
   have er : L.length + 1 ≤ 34359738368 := by omega
   let nv : Nat × List da := (i + 1, L ++ [x.aC])
   have IN : L ++ [x.aC] = ((bM (al l) p).take (i + 1)).map Rl.aC := by rw [AB hx, hL]
   simp only [ab,ae,cI,hw,List.getElem?_map,hx,ag,af,ah,Option.map_some,er,List.length_cons,List.length_nil,Nat.zero_add,List.length_map,go_sem,reduceIte,zA,zB,zC,zD,zE,zF,reduceCtorEq]
   refine qk _ ⟨nv, ?_, ?_, bm (by omega) (by (simp only [nv,hw,List.map_append,List.map_cons,List.map_nil,List.length_append,List.length_map,List.length_cons,List.length_nil,Nat.zero_add,aU,uz,ab,ae,go_sem,reduceIte,zA,zB,zC,zD,zE,zF,reduceCtorEq]))⟩
   ·exact ⟨aD, IN⟩
   ·dsimp only [nv]; omega
  ·have c5 : ¬ i < (bM (al l) p).length := by simpa using gx
   have rD : i = (bM (al l) p).length := by omega
   have L9 : L = gX (al l) p := by rw [hL, rD, List.take_length]; rfl
   simp only [ab,ae,cI,List.length_map,go_sem,reduceIte,zA,zB,zC,zD,zE,zF,reduceCtorEq]
   refine hK _ ?_
   simp [jO, jN, lL, yv, dO, bu, ← L9, List.take_of_length_le]
end Go.Proofs.YtnfeacnbgbggfaaGreatDoor
end

section
namespace Go.Proofs.YtnfeacnbgbggfaaGreatDoor
open Go.Eng
open Nat renaming reduceAdd → zA, reduceLT → zB, reduceLeDiff → zC, reduceMul → zD, reduceEqDiff → zE, reduceSub → zF
variable [aH]
set_option maxHeartbeats 4000000
set_option maxRecDepth 100000
def wc (b : Option ByteArray) : List Rl → Option ByteArray
  | [] => b
  | r :: t => wc (some r.path) t
theorem CV (t : List Rl) (x : Rl) : ∀ b, wc b (t ++ [x]) = some x.path := by
  induction t with
  | nil => intro b; rfl
  | cons r t ih => intro b; exact ih _
theorem we (t : List Rl) (x : Rl) : ∀ b, fX b (t ++ [x]) = fX b t ++ (if wc b t = some x.path then [] else [x.path]) := by
  induction t with
  | nil => intro b; show (if b = some x.path then fX _ [] else x.path :: fX _ []) = _; unfold wc; split <;> rfl
  | cons r t ih =>
    intro b
    show (if b = some r.path then fX (some r.path) (t ++ [x]) else r.path :: fX (some r.path) (t ++ [x])) = _
    rw [ih]
    show _ = (if b = some r.path then fX (some r.path) t else r.path :: fX (some r.path) t) ++ (if wc (some r.path) t = some x.path then [] else [x.path])
    by_cases h : b = some r.path
    · rw [if_pos h, if_pos h]
    · rw [if_neg h, if_neg h]; rfl
theorem pH (t : List Rl) : ∀ b, (fX b t).length ≤ t.length := by
  induction t with
  | nil => intro b; exact Nat.le_refl _
  | cons r t ih =>
    intro b
    show (if b = some r.path then fX (some r.path) t else r.path :: fX (some r.path) t).length ≤ _
    have := ih (some r.path)
    split
    · simp only [List.length_cons]; omega
    · simp only [List.length_cons]; omega
theorem oh {l : List Rl} {i : Nat} {x : Rl} (h : l[i]? = some x) (hi : i = 0) : fX none (l.take (i + 1)) = fX none (l.take i) ++ [x.path] := by
  rw [List.take_add_one, h]
  show fX none (_ ++ [x]) = _
  rw [we]; subst hi; rfl
theorem mW {l : List Rl} {i : Nat} {x q : Rl} (h : l[i]? = some x) (hi : i ≠ 0) (hq : l[i - 1]? = some q) : fX none (l.take (i + 1)) = fX none (l.take i) ++ (if q.path = x.path then [] else [x.path]) := by
  rw [List.take_add_one, h]
  show fX none (_ ++ [x]) = _
  rw [we]
  have e : l.take i = l.take (i - 1) ++ [q] := by
    have := List.take_add_one (l := l) (i := i - 1)
    rw [Nat.sub_add_cancel (Nat.pos_of_ne_zero hi), hq] at this
    exact this
  have e2 : wc none (l.take i) = some q.path := by rw [e]; exact CV _ _ _
  rw [e2]
  by_cases hp : q.path = x.path <;> simp [hp]
theorem F4 (l : List Rl) (I : List V) (hb : ux l) : ∃ r_, (fun w => w = .slice ((fX none (al l)).map str)) r_ ∧ aO Tryz.prog 41 [bk l I] r_ := by
  refine ef tt_ok [] 46 [.tmp 2] (fn := Tryz.f41) Tryz.func41 rfl Tryz.call41 ⟨rfl, rfl, by simp⟩ fun K hK => ?_
  simp only [bk,aV]
  have AP := hb.1
  simp only [List.length_map,au,go_sem,reduceIte,zA,zB,zC,zD,zE,zF,reduceCtorEq]
  refine cO tt_ok [] (fun a : Nat × List ByteArray => [(1, .ptr 0 0), (3, .ms 1 a.2.length 0 a.2.length), (4, num a.1)]) (fun a : Nat × List ByteArray => [.box [.slice (l.map ag), .slice I], .rows a.2.length 1 (a.2.map str)]) (fun a => l.length - a.1) (fun a => a.1 ≤ l.length ∧ a.2 = fX none (l.take a.1) ∧ (0 < a.1 → eH l = 0)) ((0, [])) 2 (bm (by omega) (by simp only [List.length_map,au,List.map_nil,List.length_nil,Int.cast_ofNat_Int,go_sem,reduceIte,zA,zB,zC,zD,zE,zF,reduceCtorEq] <;> rfl)) (⟨Nat.zero_le _, rfl, fun h => absurd h (Nat.lt_irrefl _)⟩) ?_
  rintro ⟨i, R⟩ ⟨hi, hR, h0⟩
  try dsimp only at hi hR h0
  try dsimp only
  intro Z1 bW
  simp only [List.length_map,au,go_sem,reduceIte,zA,zB,zC,zD,zE,zF,reduceCtorEq]
  refine aM (fun jw => ?_) (fun jw => ?_)
  · skip
    have aD : i < l.length := by have := of_decide_eq_true jw; omega
    simp only [List.length_map,au,go_sem,reduceIte,zA,zB,zC,zD,zE,zF,reduceCtorEq]
    refine cF (by have h := mV l I hb; simp only [bk,aV] at h; exact h) ?_
    rintro _ rfl
    simp only [List.length_map,au,go_sem,reduceIte,zA,zB,zC,zD,zE,zF,reduceCtorEq]
    refine aM (fun gR => ?_) (fun gR => ?_)
    · skip
      have nH : eH l = 0 := of_decide_eq_true gR
      have hw := aB i (by omega)
      obtain ⟨x, hx⟩ : ∃ x, l[i]? = some x := ⟨_, List.getElem?_eq_getElem aD⟩
      simp only [hw,List.getElem?_map,hx,ag,af,ah,List.length_map,au,go_sem,reduceIte,zA,zB,zC,zD,zE,zF,reduceCtorEq]
      refine bI tt_ok aK [⟨.n, 0, [], [], []⟩, ⟨.n, 0, [], [], []⟩, ⟨.n, 0, [], [], []⟩, ⟨.n, 0, [], [], []⟩, ⟨.r, 0, [], [], []⟩, ⟨.n, 0, [], [], []⟩, ⟨.r, 0, [], [], []⟩, ⟨.n, 0, [], [], []⟩, ⟨.r, 0, [], [], []⟩, ⟨.n, 0, [], [], []⟩, ⟨.r, 0, [], [], []⟩, ⟨.n, 0, [], [], []⟩, ⟨.n, 0, [], [], []⟩, ⟨.r, 0, [], [], []⟩, ⟨.n, 0, [], [], []⟩, ⟨.r, 0, [], [], []⟩, ⟨.n, 0, [], [], []⟩, ⟨.n, 0, [], [], []⟩] 0 (by kernel_rfl) ?_
      simp only [hw,List.getElem?_map,hx,ag,af,ah,List.length_map,au,go_sem,reduceIte,zA,zB,zC,zD,zE,zF,reduceCtorEq]
      refine aM (fun Ek => ?_) (fun Ek => ?_)
      · skip
        let nv : Nat × List ByteArray := (i + 1, R ++ [x.path])
        have IS : R.length ≤ i := by rw [hR]; have := pH (l.take i) none; rw [List.length_take] at this; omega
        have er : R.length + 1 ≤ 34359738368 := by omega
        have uX : nv.2 = fX none (l.take (i + 1)) := by
          show R ++ [x.path] = _
          by_cases wI : i = 0
          · rw [oh hx wI, ← hR]
          · first
            | (have bH : ¬ q.path = x.path := (by intro e; rw [e] at F5; simp at F5)
               rw [mW hx wI hq, if_neg bH, ← hR])
            | (have h1 := of_decide_eq_true Ek; exfalso; omega)
        simp only [hw,List.getElem?_map,hx,ag,af,ah,er,List.length_append,List.length_cons,List.length_nil,Nat.zero_add,List.length_map,au,go_sem,reduceIte,zA,zB,zC,zD,zE,zF,reduceCtorEq]
        refine bW _ ⟨nv, ?_, ?_, bm (by omega) (by (simp [nv, lg, lk, bo, bF, ai, az, List.map_append]))⟩
        · exact ⟨aD, uX, fun _ => nH⟩
        · dsimp only [nv]; omega
      · skip
        have wI : i ≠ 0 := by have := of_decide_eq_false Ek; omega
        obtain ⟨q, hq⟩ : ∃ q, l[i - 1]? = some q := ⟨_, List.getElem?_eq_getElem (by omega)⟩
        have ew : IntKind.i64.wrap ((i : Int) - 1) = ((i - 1 : Nat) : Int) := jV _ _ (by omega) (by omega)
        simp only [hw,List.getElem?_map,hx,ag,af,ah,ew,hq,List.length_map,au,go_sem,reduceIte,zA,zB,zC,zD,zE,zF,reduceCtorEq]
        refine aM (fun F5 => ?_) (fun F5 => ?_)
        · skip
          let nv : Nat × List ByteArray := (i + 1, R ++ [x.path])
          have IS : R.length ≤ i := by rw [hR]; have := pH (l.take i) none; rw [List.length_take] at this; omega
          have er : R.length + 1 ≤ 34359738368 := by omega
          have uX : nv.2 = fX none (l.take (i + 1)) := by
            show R ++ [x.path] = _
            by_cases wI : i = 0
            · rw [oh hx wI, ← hR]
            · first
              | (have bH : ¬ q.path = x.path := (by intro e; rw [e] at F5; simp at F5)
                 rw [mW hx wI hq, if_neg bH, ← hR])
              | (have h1 := of_decide_eq_true Ek; exfalso; omega)
          simp only [hw,List.getElem?_map,hx,ag,af,ah,ew,hq,er,List.length_append,List.length_cons,List.length_nil,Nat.zero_add,List.length_map,au,go_sem,reduceIte,zA,zB,zC,zD,zE,zF,reduceCtorEq]
          refine bW _ ⟨nv, ?_, ?_, bm (by omega) (by (simp [nv, lg, lk, bo, bF, ai, az, List.map_append]))⟩
          · exact ⟨aD, uX, fun _ => nH⟩
          · dsimp only [nv]; omega
        · skip
          have heq : q.path = x.path := (show x.path = q.path by simpa [au] using F5).symm
          let nv : Nat × List ByteArray := (i + 1, R)
          have uX : nv.2 = fX none (l.take (i + 1)) := by rw [mW hx wI hq, if_pos heq, List.append_nil, ← hR]
          simp only [hw,List.getElem?_map,hx,ag,af,ah,ew,hq,List.length_map,au,go_sem,reduceIte,zA,zB,zC,zD,zE,zF,reduceCtorEq]
          refine bW _ ⟨nv, ?_, ?_, bm (by omega) (by (simp [nv, lg, lk, bo, bF, ai, az, List.map_append]))⟩
          · exact ⟨aD, uX, fun _ => nH⟩
          · dsimp only [nv]; omega
    · skip
      have Js : l.take i = al l := kh hi h0 (by
        first
        | exact Or.inl (by have := of_decide_eq_false jw; omega)
        | exact Or.inr (of_decide_eq_false jf)
        | exact Or.inr (of_decide_eq_false gR)
        | exact Or.inr (of_decide_eq_false pg))
      have gw : R = fX none (al l) := by rw [hR, Js]
      simp only [List.length_map,au,go_sem,reduceIte,zA,zB,zC,zD,zE,zF,reduceCtorEq]
      refine hK _ ?_
      simp [jO, jN, lL, yv, dO, bu, ← gw, List.take_of_length_le]
  · skip
    have Js : l.take i = al l := kh hi h0 (by
      first
      | exact Or.inl (by have := of_decide_eq_false jw; omega)
      | exact Or.inr (of_decide_eq_false jf)
      | exact Or.inr (of_decide_eq_false gR)
      | exact Or.inr (of_decide_eq_false pg))
    have gw : R = fX none (al l) := by rw [hR, Js]
    simp only [List.length_map,au,go_sem,reduceIte,zA,zB,zC,zD,zE,zF,reduceCtorEq]
    refine hK _ ?_
    simp [jO, jN, lL, yv, dO, bu, ← gw, List.take_of_length_le]
end Go.Proofs.YtnfeacnbgbggfaaGreatDoor
end

section
namespace Go.Proofs.YtnfeacnbgbggfaaGreatDoor
open Go.Eng

variable [aH]
theorem F6 : aO Tryz.prog 85 [.slice []] (.bN []) := w4 tC zS 3000 (by kernel_rfl)
theorem F7 (m : List aw) (b v : Nat) (l : List ByteArray) (hb : m[b]? = some (.rows v 1 (l.map str))) (h0 : 0 < l.length) (hl : l.length ≤ 1048576) :
  fi Tryz.prog 85 [.ms b v 0 l.length] m fun r m' => r = .sc (.tuple #[]) ∧ ∃ l' : List ByteArray, l'.Perm l ∧ (∀ (i j : Nat) (x y : ByteArray), i < j → l'[i]? = some x → l'[j]? = some y → km y x = false) ∧ m' = m.set b (.rows v 1 (l'.map str)) := by
 refine ⟨Tryz.call85, fun E w xs hs hx => ?_⟩
 obtain ⟨x, ys, mq, hr, o7⟩ := hx.of_cons
 have To := o7.of_nil
 subst To
 obtain rfl : xs = #[x] := by rw [← Array.toArray_toList (xs := xs), mq]
 rcases hs.mem b _ hb with ⟨A2, -⟩ | ⟨gb, T, cs, c, hblk, hh, rA, JK, eA, hF⟩
 ·rw [List.map_eq_nil_iff] at A2; subst A2; simp at h0
 rw [List.length_map] at JK
 obtain ⟨cap, rfl⟩ : ∃ cap, x = .slice (some ⟨gb, 0, none⟩) l.length cap := by
  clear o7 hx mq eA hl
  generalize l.length = nl at hr h0 JK ⊢
  cases hr with
  | ms _ _ _ _ _ g' e' c' a cap ey AI Tu JY =>
   rw [hblk] at ey; cases ey
   obtain ⟨rfl, -⟩ := Tu rfl
   exact ⟨cap, rfl⟩
  | cZ => exact absurd h0 (Nat.lt_irrefl _)
 have Tv : gb < w.heap.size := (Array.getElem?_eq_some_iff.1 hh).1
 obtain ⟨ss, XK⟩ : ∃ ss : List (List UInt8), ss = l.map fun a => a.data.toList := ⟨_, rfl⟩
 have ki : ss.length = l.length := by rw [XK, List.length_map]
 have back : ∀ s : List UInt8, ((⟨s.toArray⟩ : ByteArray)).data.toList = s := fun s => rfl
 have hH : Go.Sort.Holds encStr w gb 0 ss.toArray := fun i hi => by
  have hi : i < l.length := by simpa [ki] using hi
  refine ⟨?_, by simp [World.frozen?, hh]⟩
  obtain ⟨-, h2⟩ := eA i (str l[i]) (by rw [List.getElem?_map, List.getElem?_eq_getElem hi]; rfl)
  obtain ⟨y, hy, -, AV⟩ := h2 0 (str l[i]) rfl
  rw [bR AV] at hy
  rw [ik hh]
  have e1 : ss.toArray[i]! = l[i].data.toList := by
   rw [getElem!_pos ss.toArray i (by simpa [ki] using hi)]
   simp [XK]
  rw [e1, Nat.zero_add]
  have hy : cs[i * 1 + 0]? = some (.string l[i]) := hy
  rw [Nat.mul_one, Nat.add_zero] at hy
  rw [hy]
 have call := slices_Sort_string gb 0 cap ss w hH Tv (by omega)
 rw [ki] at call
 refine call.mono ?_
 rintro e w' ⟨rfl, n, os, rfl⟩
 obtain ⟨d', XL⟩ : ∃ d', d' = ss.mergeSort fun x y => decide (x ≤ y) := ⟨_, rfl⟩
 rw [← XL]
 have pI : d'.Perm ss := by rw [XL]; exact List.mergeSort_perm _ _
 have yu : d'.length = l.length := pI.length_eq.trans ki
 obtain ⟨l', AI⟩ : ∃ l' : List ByteArray, l' = d'.map fun s => ⟨s.toArray⟩ := ⟨_, rfl⟩
 have NC : l'.length = l.length := by rw [AI, List.length_map, yu]
 have lz : (Go.Sort.grow (Go.Sort.putRow encStr (Go.Sort.ahead w n) gb 0 d'.toArray) os).heap[gb]? = some (.cells (Go.Sort.putCells encStr 0 d'.toArray cs) T (0, 0)) := by
  show (_ ++ os)[gb]? = _
  rw [Array.getElem?_append_left (by simpa [Go.Sort.putRow, Go.Sort.mapBlock, Go.Sort.ahead] using Tv)]
  show ((w.heap.modify gb _))[gb]? = _
  rw [Array.getElem?_modify, if_pos rfl, hh]; rfl
 obtain ⟨h1, h2⟩ := hs.S8 (w' := Go.Sort.grow (Go.Sort.putRow encStr (Go.Sort.ahead w n) gb 0 d'.toArray) os) (rs' := l'.map str) hb hblk hF rfl rfl rfl (by
   show _ ≤ (_ ++ os).size
   rw [Array.size_append]
   show _ ≤ (w.heap.modify gb _).size + _
   rw [Array.size_modify]; omega) lz (fun k hk bH => by
   show (_ ++ os)[k]? = _
   rw [Array.getElem?_append_left (by simpa [Go.Sort.putRow, Go.Sort.mapBlock, Go.Sort.ahead] using hk)]
   show ((w.heap.modify gb _))[k]? = _
   rw [Array.getElem?_modify, if_neg (fun e => bH e.symm)]) (by simp [Go.Sort.putCells, rA]) (by simp [NC]; exact JK) (fun i row hi => by
   rw [List.getElem?_map, Option.map_eq_some_iff] at hi
   obtain ⟨u, hu, rfl⟩ := hi
   have hid : i < l.length := by rw [← NC]; exact (List.getElem?_eq_some_iff.1 hu).1
   rw [AI, List.getElem?_map, Option.map_eq_some_iff] at hu
   obtain ⟨s, jd, rfl⟩ := hu
   refine ⟨rfl, fun j cc hj => ?_⟩
   match j, hj with
   | 0, hj =>
    cases hj
    refine ⟨encStr s, ?_, rfl, .sc _ _⟩
    show (Go.Sort.putCells encStr 0 d'.toArray cs)[i * 1 + 0]? = _
    rw [Nat.mul_one, Nat.add_zero]
    have aD : i < cs.size := by rw [rA]; omega
    unfold Go.Sort.putCells
    rw [Array.getElem?_mapIdx, Array.getElem?_eq_getElem aD, Option.map_some, if_pos ⟨Nat.zero_le _, by simp [yu]; exact hid⟩, Nat.sub_zero]
    have : d'.toArray[i]! = s := by
     rw [getElem!_pos d'.toArray i (by simp [yu]; exact hid)]
     have := (List.getElem?_eq_some_iff.1 jd).2
     simpa using this
    rw [this]
   | j + 1, hj => simp [V.cells] at hj)
 refine ⟨E, _, _, _, rfl, ⟨rfl, l', ?_, ?_, rfl⟩, h2, h1, .sc _ _⟩
 ·have e2 : l = ss.map fun s => (⟨s.toArray⟩ : ByteArray) := by
   rw [XK, List.map_map]
   have : (fun s : List UInt8 => (⟨s.toArray⟩ : ByteArray)) ∘ (fun a : ByteArray => a.data.toList) = id := by funext a; cases a; rfl
   rw [this, List.map_id]
  rw [AI, e2]
  exact pI.map _
 ·intro i j x y pO Fs YV
  rw [AI, List.getElem?_map, Option.map_eq_some_iff] at Fs YV
  obtain ⟨s, jd, rfl⟩ := Fs
  obtain ⟨t, XM, rfl⟩ := YV
  have qX : d'.Pairwise fun x y => decide (x ≤ y) = true := by
   rw [XL]
   exact List.pairwise_mergeSort (le := fun x y => decide (x ≤ y)) (fun a b c h1 h2 => by
    have h1 := of_decide_eq_true h1
    have h2 := of_decide_eq_true h2
    exact decide_eq_true (List.le_trans h1 h2)) (fun a b => by
    rcases List.le_total a b with h | h
    ·simp [h]
    ·simp [h]) ss
  have hi := (List.getElem?_eq_some_iff.1 jd)
  have hj := (List.getElem?_eq_some_iff.1 XM)
  obtain ⟨nr, rfl⟩ := hi
  obtain ⟨Va, rfl⟩ := hj
  have := of_decide_eq_true (List.pairwise_iff_getElem.1 qX i j nr Va pO)
  rw [lV]
  exact decide_eq_false (List.not_lt.2 this)
theorem Jt (m : List aw) (b v : Nat) (l : List ByteArray) (hb : m[b]? = some (.rows v 1 (l.map str))) (hl : l.length ≤ 1048576) :
  fi Tryz.prog 85 [.ms b v 0 l.length] m fun r m' => r = .sc (.tuple #[]) ∧ ∃ l' : List ByteArray, l'.Perm l ∧ (∀ (i j : Nat) (x y : ByteArray), i < j → l'[i]? = some x → l'[j]? = some y → km y x = false) ∧ m' = m.set b (.rows v 1 (l'.map str)) := by
 rcases Nat.eq_zero_or_pos l.length with h0 | h0
 ·obtain rfl : l = [] := List.length_eq_zero_iff.1 h0
  refine (aO.vB (m := m) (b := b) (v := v) F6 fun E xs h => ?_).rel.mono fun r m' ⟨h1, h2⟩ => ⟨h1, [], List.Perm.refl _, fun i j x y _ h => by simp at h, by
   rw [h2]
   apply List.ext_getElem?
   intro i
   rw [List.getElem?_set]
   split
   ·rename_i hi; subst hi
    rw [if_pos (List.getElem?_eq_some_iff.1 hb).1, hb]
   ·rfl⟩
  rw [h.of_nil]; exact aP.nil _
 ·exact F7 m b v l hb h0 hl
theorem Ju {a b : ByteArray} (h : km a b = true) : km b a = false := by
 rw [lV, decide_eq_true_eq] at h
 rw [lV]
 exact decide_eq_false fun h2 => List.lt_asymm h h2
theorem Jv {a b : ByteArray} (h1 : km b a = false) (h2 : km a b = false) : a = b := by
 rw [lV, decide_eq_false_iff_not] at h1 h2
 obtain ⟨⟨x⟩⟩ := a
 obtain ⟨⟨y⟩⟩ := b
 have : x = y := List.le_antisymm (List.not_lt.1 h1) (List.not_lt.1 h2)
 rw [this]
theorem AF {l s : List ByteArray} (hp : l.Perm s) (h1 : ∀ (i j : Nat) (x y : ByteArray), i < j → l[i]? = some x → l[j]? = some y → km y x = false) (h2 : s.Pairwise fun a b => km a b = true) : l = s := by
 refine List.Perm.eq_of_pairwise (le := fun a b => km b a = false) (fun a b _ _ h3 h4 => Jv h3 h4) ?_ (h2.imp fun h => Ju h) hp
 exact List.pairwise_iff_getElem.2 fun i j hi hj pO => h1 i j _ _ pO (List.getElem?_eq_getElem hi) (List.getElem?_eq_getElem hj)
theorem Jw {l : List Rl} {i : Nat} {q : Rl} (hi : i ≠ 0) (hq : l[i - 1]? = some q) : eR (l.take i) = q.path := by
 have e : l.take i = l.take (i - 1) ++ [q] := by
  have := List.take_add_one (l := l) (i := i - 1)
  rw [Nat.sub_add_cancel (Nat.pos_of_ne_zero hi), hq] at this
  exact this
 rw [e, kT]
theorem wg {l : List Rl} (hs : l.Pairwise iZ) : ∀ i, i ≤ l.length → fX none (l.take i) = aA (l.take i) ∧ (aA (l.take i)).Pairwise fun a b => km a b = true
 | 0, _ => by rw [List.take_zero]; exact ⟨rfl, List.Pairwise.nil⟩
 | i + 1, hi => by
  obtain ⟨h1, h2⟩ := wg hs i (by omega)
  obtain ⟨x, hx⟩ : ∃ x, l[i]? = some x := ⟨_, List.getElem?_eq_getElem (by omega)⟩
  have et : l.take (i + 1) = l.take i ++ [x] := by rw [List.take_add_one, hx]; rfl
  have ep : aA (l.take (i + 1)) = uT (aA (l.take i)) x.path := by rw [et, fN]
  have fS : x.path ∉ aA (l.take i) → (aA (l.take i) ++ [x.path]).Pairwise fun a b => km a b = true := fun hn => by
   refine List.pairwise_append.2 ⟨h2, List.pairwise_singleton _ _, fun a ha b hb => ?_⟩
   obtain rfl := List.mem_singleton.1 hb
   obtain ⟨r, hr, rfl⟩ := gW.1 ha
   have aD : iZ r x := by
    have fR : (l.take (i + 1)).Pairwise iZ := List.Pairwise.sublist (List.take_sublist _ _) hs
    rw [et] at fR
    exact (List.pairwise_append.1 fR).2.2 r hr x (List.mem_singleton.2 rfl)
   rcases aD with h | ⟨h, -⟩
   ·rw [lV]; exact decide_eq_true h
   ·exact absurd ha (h ▸ hn)
  rcases Nat.eq_zero_or_pos i with h0 | h0
  ·have hn : x.path ∉ aA (l.take i) := by subst h0; simp [aA]
   rw [oh hx h0, ep, h1]
   unfold uT
   rw [if_neg hn]
   exact ⟨rfl, fS hn⟩
  ·obtain ⟨q, hq⟩ : ∃ q, l[i - 1]? = some q := ⟨_, List.getElem?_eq_getElem (by omega)⟩
   have bH : i ≠ 0 := by omega
   rw [mW hx bH hq, ep, h1]
   have hlq := Jw bH hq
   unfold uT
   rcases ru hs hx with ⟨e1, e2⟩ | hn
   ·rw [if_pos e2, if_pos (by rw [e1, hlq]), List.append_nil]
    exact ⟨rfl, h2⟩
   ·have hqx : ¬ q.path = x.path := fun e => hn (gW.2 ⟨q, List.mem_iff_getElem?.2 ⟨i - 1, by rw [List.getElem?_take_of_lt (by omega), hq]⟩, e⟩)
    rw [if_neg hn, if_neg hqx]
    exact ⟨rfl, fS hn⟩
theorem kV (l : List Rl) : fX none (al l) = aA (al l) ∧ (aA (al l)).Pairwise fun a b => km a b = true := by
 have h := wg (dK l) (al l).length (Nat.le_refl _)
 rwa [List.take_length] at h
end Go.Proofs.YtnfeacnbgbggfaaGreatDoor
end

section
namespace Go.Proofs.YtnfeacnbgbggfaaGreatDoor
open Go.Eng
open Nat renaming reduceAdd → zA, reduceLT → zB, reduceLeDiff → zC, reduceMul → zD, reduceEqDiff → zE, reduceSub → zF
variable [aH]
set_option maxHeartbeats 4000000
set_option maxRecDepth 100000
attribute [local irreducible] runM dz uM aS eo za Nb hZ BG w5 oI
abbrev NP := Value × Nat × V
theorem Jx {l : List NP} {e : NP} (hn : (l.map fun e => e.2.1).Nodup) (he : e ∈ l) : l.Perm (e :: l.filter fun x => !(x.2.1 == e.2.1)) := by
 induction l with
 | nil => simp at he
 | cons a r ih =>
  simp only [List.map_cons,List.nodup_cons] at hn
  rcases List.mem_cons.1 he with rfl | he
  ·rw [List.filter_cons, if_neg (by simp)]
   have : r.filter (fun x => !(x.2.1 == e.2.1)) = r := List.filter_eq_self.2 fun x hx => by
    simp only [Bool.not_eq_true',beq_eq_false_iff_ne]
    exact fun h => hn.1 (List.mem_map.2 ⟨x, hx, h⟩)
   rw [this]
  ·have bH : ¬ a.2.1 = e.2.1 := fun h => hn.1 (List.mem_map.2 ⟨e, he, h.symm⟩)
   rw [List.filter_cons, if_pos (by simpa using bH)]
   exact ((ih hn.2 he).cons a).trans (List.Perm.swap ..)
theorem find_born {aY : List NP} {e : NP} (hn : (aY.map fun e => e.2.1).Nodup) (he : e ∈ aY) : aY.find? (fun x => x.2.1 == e.2.1) = some e := by
 induction aY with
 | nil => simp at he
 | cons a r ih =>
  simp only [List.map_cons,List.nodup_cons] at hn
  rcases List.mem_cons.1 he with rfl | he
  ·simp
  ·have bH : ¬ a.2.1 = e.2.1 := fun h => hn.1 (List.mem_map.2 ⟨e, he, h.symm⟩)
   rw [List.find?_cons, show (a.2.1 == e.2.1) = false by simpa using bH]
   exact ih hn.2 he
theorem F8 (aY : List NP) (seen : List Nat) (b : Nat) : Go.Eng.leftOf aY (seen ++ [b]) = (Go.Eng.leftOf aY seen).filter fun x => !(x.2.1 == b) := by
 unfold Go.Eng.leftOf
 rw [List.filter_filter]
 congr 1
 funext x
 simp only [List.contains_eq_any_beq,List.any_append,List.any_cons,List.any_nil,Bool.or_false,Bool.not_or]
 rw [Bool.and_comm]
def um (e : NP) : ByteArray := match e.1 with | .string s => s | _ => ⟨#[]⟩
theorem oi {α : Type} (kv : α → Value) : ∀ (g : List (α × V)) (n : Nat), (bE kv n g).map (fun e => e.2.1) = List.range' n g.length
 | [], _ => rfl
 | (k, v) :: r, n => by
  show n :: (bE kv (n + 1) r).map _ = _
  rw [oi kv r (n + 1)]; rfl
theorem AH : ∀ (g : List (ByteArray × V)) (n : Nat), (bE strVal n g).map um = g.map (·.1)
 | [], _ => rfl
 | (k, v) :: r, n => by
  show k :: (bE strVal (n + 1) r).map um = _
  rw [AH r (n + 1)]; rfl
theorem El : ∀ (g : List (ByteArray × V)) (n : Nat), ∀ e ∈ bE strVal n g, e.1 = .string (um e)
 | [], _, e, h => by cases h
 | (k, v) :: r, n, e, h => by
  rcases List.mem_cons.1 h with rfl | h
  ·rfl
  ·exact El r (n + 1) e h
structure PM (aY : List NP) (clock : Nat) (l : List Rl) : Prop where
 nd : (aY.map fun e => e.2.1).Nodup
 lt : ∀ e ∈ aY, e.2.1 < clock
 ky : aY.map um = aA l
 st : ∀ e ∈ aY, e.1 = .string (um e)
theorem Us (l : List Rl) : PM (bE strVal 0 (gP l)) (aA l).length l := by
 refine ⟨by rw [oi]; exact List.nodup_range', fun e he => ?_, by rw [AH]; unfold gP; rw [List.map_map]; exact List.map_id _, El _ _⟩
 have h : e.2.1 ∈ (bE strVal 0 (gP l)).map fun e => e.2.1 := List.mem_map.2 ⟨e, he, rfl⟩
 rw [oi, List.mem_range'_1, mQ] at h
 omega
theorem Jy (hG : aH.g = some 0) (l : List Rl) (I : List V) (hb : ux l) : aO Tryz.prog 40 [bk l I] (.slice ((aA (al l)).map str)) := by
 refine Wv tt_ok (fn := Tryz.f40) Tryz.func40 rfl Tryz.call40 ?_
 simp only [vC,di,Tryz.ntmps40,List.length_cons,List.length_nil,zA,zF,List.replicate_succ,List.replicate_zero]
 simp only [bk,aV]
 have AP := hb.1
 refine iN tt_ok 26 [0,2,2] [] rfl rfl fun K hK => ?_
 simp only [List.length_map,go_sem,reduceIte,zA,zB,zC,zD,zE,zF,reduceCtorEq,List.take_length]
 refine hK _ _ rfl ?_
 simp only [Ta,zA,zE]
 refine iN tt_ok 26 [0,0,0,2,1,0,0,1,1,1,1,1] [] rfl rfl fun K hK => ?_
 try simp only [vC]
 refine EZ 2 fun K1 hK1 => ?_
 simp only [List.length_map,go_sem,reduceIte,zA,zB,zC,zD,zE,zF,reduceCtorEq,List.take_length]
 refine .inl <| KK (by have h := fm hG l I hb; simp only [bk,aV] at h; exact h _) ?_
 rintro _ _ ⟨rfl, rfl⟩
 try simp only [List.length_map,go_sem,reduceIte,zA,zB,zC,zD,zE,zF,reduceCtorEq,List.take_length]
 try simp only [vC,ND,List.length_cons,List.length_nil,zA]
 refine hK1 _ ?_
 simp only [List.length_map,go_sem,reduceIte,zA,zB,zC,zD,zE,zF,reduceCtorEq,List.take_length]
 refine hK _ _ rfl ?_
 simp only [Ta,zA,zE]
 refine iN tt_ok 26 [0,0,0,0,0,2] [] rfl rfl fun K hK => ?_
 simp only [List.length_map,go_sem,reduceIte,zA,zB,zC,zD,zE,zF,reduceCtorEq,List.take_length]
 refine hK _ _ rfl ?_
 simp only [Ta,zA,zE]
 have MD := Us (al l)
 have DP : (aA (al l)).length ≤ 256 := by
  rw [← (kV l).1]
  exact Nat.le_trans (pH _ none) (eJ l)
 obtain ⟨aY, XN⟩ : ∃ k, k = bE strVal 0 (gP (al l)) := ⟨_, rfl⟩
 obtain ⟨clock, AX⟩ : ∃ c, c = (aA (al l)).length := ⟨_, rfl⟩
 have UO : aY.length ≤ 256 := by
  have h := congrArg List.length (XN ▸ MD.ky : aY.map um = aA (al l))
  rw [List.length_map] at h; omega
 rw [← XN, ← AX] at MD
 obtain ⟨M, hM⟩ : ∃ M : List aw, M = [.box [.slice (l.map ag), .slice I], .box [.slice (l.map ag), .slice I], .box [.mp 3, .mp 4], .map (bE aN 0 (gK (al l))) (gK (al l)).length, .map (bE strVal 0 (gP (al l))) (aA (al l)).length, .box [.mp 3, .mp 4]] := ⟨_, rfl⟩
 rw [← hM]
 have hn : M.length = 6 := by rw [hM]; rfl
 have h5 : M[5]? = some (.box [.mp 3, .mp 4]) := by rw [hM]; rfl
 have h4 : M[4]? = some (.map aY clock) := by rw [hM, XN, AX]; rfl
 have YW : M.all (az 8) = true := by
  rw [hM]
  simp only [List.all_cons,List.all_nil,nS,tb,ab,ae,ai,Bool.and_true,decide_eq_true_eq,Bool.true_and]
  decide
 clear hM
 have gk : ∀ X : List aw, (M ++ X)[4]? = some (.map aY clock) := fun X => by rw [List.getElem?_append_left (by omega)]; exact h4
 have g0 : ∀ X : List aw, (M ++ X)[6]? = X[0]? := fun X => by rw [List.getElem?_append_right (by omega), hn]
 have g1 : ∀ X : List aw, (M ++ X)[7]? = X[1]? := fun X => by rw [List.getElem?_append_right (by omega), hn]
 have g2 : ∀ X : List aw, (M ++ X)[8]? = X[2]? := fun X => by rw [List.getElem?_append_right (by omega), hn]
 have gs : ∀ (X : List aw) B, (M ++ X).set 6 B = M ++ X.set 0 B := fun X B => by rw [List.set_append_right _ _ (by omega), hn]
 have XO : ∀ (X : List aw) B, (M ++ X).set 7 B = M ++ X.set 1 B := fun X B => by rw [List.set_append_right _ _ (by omega), hn]
 have gt : ∀ X : List aw, (M ++ X).take 8 = M ++ X.take 2 := fun X => by rw [List.take_append, hn, List.take_of_length_le (by omega)]
 refine fI ?_
 refine bz tt_ok fun K hK => ?_
 simp only [hn,h5,h4,NA,iH,go_sem,reduceIte,zA,zB,zC,zD,zE,zF,reduceCtorEq]
 refine hK _ ?_
 try simp only [ba,hn,Nat.lt_irrefl,if_false]
 refine vm 5 0 1 rfl ?_
 simp only [vC,List.set_cons_zero,List.set_cons_succ,List.length_append,List.length_cons,List.length_nil,hn,zA,List.append_assoc]
 have nB : ∀ seen : List Nat, oG aY seen clock = false := fun seen => by
  unfold oG
  cases JM : aY with
  | nil => simp
  | cons a r =>
   have : ¬ a.2.1 ≥ clock := by have := MD.lt a (by rw [JM]; exact List.mem_cons_self ..); omega
   simp [this]
 have hold : ∀ seen : List Nat, oF aY seen clock = Go.Eng.leftOf aY seen := fun seen => by
  unfold oF
  refine List.filter_eq_self.2 fun e he => ?_
  have := MD.lt e (List.mem_filter.1 he).1
  simpa using this
 have fS : ∀ seen : List Nat, yp aY seen clock = [] := fun seen => by
  unfold yp
  refine List.filter_eq_nil_iff.2 fun e he => ?_
  have := MD.lt e (List.mem_filter.1 he).1
  simpa using this
 refine gf (wP (fun N st => ∃ done : List NP, N = (Go.Eng.leftOf aY (done.map fun e => e.2.1)).length ∧ (done ++ Go.Eng.leftOf aY (done.map fun e => e.2.1)).Perm aY ∧
  st = { fr := [.undef, .undef, .undef, .undef, .undef, .ms 7 done.length 0 done.length, .undef, .undef, .undef, .undef, .undef, .undef, .undef, .undef, .ptr 6 0, .undef, .undef, .undef, .undef, .undef, .undef, .undef, .undef, .undef, .undef, .undef], mem := M ++ [.dF 4 clock (done.map fun e => e.2.1) clock, .rows done.length 1 ((done.map um).map str)] }) aY.length ?_ ?_)
 ·have MH : Go.Eng.leftOf aY [] = aY := by unfold Go.Eng.leftOf; simp
  refine ⟨8, (false::false::false::false::false::true::(rp 8 false [true])), by omega, by simp [rp,gg, ai], ?_, [], by rw [List.map_nil, MH], by rw [List.map_nil, MH]; exact List.Perm.refl _, ?_⟩
  ·dsimp only
   rw [gt, List.all_append, Bool.and_eq_true]
   exact ⟨YW, by simp [az]⟩
  ·dsimp only
   rw [gt]
   rfl
 ·rintro N st ⟨done, rfl, pI, rfl⟩
  generalize u9 : Go.Eng.leftOf aY (done.map fun e => e.2.1) = left at pI
  have jM : (left.map fun e => e.2.1).Nodup := by
   have := (pI.map fun e => e.2.1).nodup_iff.2 MD.nd
   rw [List.map_append, List.nodup_append] at this
   exact this.2.1
  have yu : done.length ≤ 256 := by have := pI.length_eq; rw [List.length_append] at this; omega
  refine bz tt_ok fun K hK => ?_
  simp only [hn,g0,gk,gs,nB,hold,fS,u9,nw,go_sem,reduceIte,zA,zB,zC,zD,zE,zF,reduceCtorEq]
  simp only [qM,C5,List.getElem?_cons_zero]
  refine ⟨fun hz => ?_, fun e he => ?_⟩
  ·subst hz
   rw [List.append_nil] at pI
   refine hK _ ?_
   refine fI (fJ rfl (oK ?_))
   show eL _ _ _ _ _ _
   have YX : (done.map um).Perm (aA (al l)) := by rw [← MD.ky]; exact pI.map _
   obtain ⟨D, hD⟩ : ∃ D, D = done.map um := ⟨_, rfl⟩
   have hDl : done.length = D.length := by rw [hD, List.length_map]
   rw [← hD] at YX
   simp only [← hD,hDl]
   refine iN tt_ok 26 (rp 23 0 [1,1]) [] rfl rfl fun K hK => ?_
   simp only [g1,go_sem,reduceIte,zA,zB,zC,zD,zE,zF,reduceCtorEq,List.take_length]
   refine .inr <| BF (Jt _ 7 _ D (g1 _) (by omega)) ?_
   rintro _ _ ⟨rfl, L', oq, fR, rfl⟩
   try simp only [XO,go_sem,reduceIte,zA,zB,zC,zD,zE,zF,reduceCtorEq,List.take_length]
   refine hK _ _ rfl ?_
   simp only [Ta,zA,zE]
   have gw : L' = aA (al l) := AF (oq.trans YX) fR (kV l).2
   refine iN tt_ok 26 (0::0::2::(rp 22 0 [1])) [] rfl rfl fun K hK => ?_
   simp only [g1,go_sem,reduceIte,zA,zB,zC,zD,zE,zF,reduceCtorEq,List.take_length]
   refine hK _ _ rfl ?_
   simp only [Ta,zA,zE]
   refine SP ?_
   refine ⟨.inl rfl, ?_⟩
   have NC : D.length = L'.length := oq.length_eq.symm
   simp [jO, jN, lL, yv, dO, bu, g1, NC, ← gw, List.take_of_length_le]
  ·have uy : e ∈ aY := (List.mem_filter.1 (u9 ▸ he : e ∈ Go.Eng.leftOf aY (done.map fun e => e.2.1))).1
   have XP := MD.st e uy
   have Ut : dx e.1 = str (um e) := by rw [XP]; rfl
   have x9 := find_born MD.nd uy
   have XQ : ∀ X, xY (M ++ aw.dF 4 clock (done.map (fun e => e.2.1) ++ [e.2.1]) clock :: X) (.ptr 6 0) = some (.bN [str (um e), e.2.2]) := fun X => by
    simp only [xY,g0,List.getElem?_cons_zero,gk,if_true,List.getLast?_concat,x9,Ut]
   rw [Ut]
   refine hK _ ?_
   refine fI (fJ rfl (iJ ?_))
   refine gf ?_
   have er : done.length + 1 ≤ 34359738368 := by omega
   refine bz tt_ok fun K hK => ?_
   simp only [hn,XQ,g0,g1,gs,XO,go_sem,reduceIte,zA,zB,zC,zD,zE,zF,reduceCtorEq]
   refine hK _ ?_
   refine rH tt_ok fun K hK => ?_
   simp only [vC,hn,er,g0,g1,g2,gs,XO,List.append_assoc,List.length_map,List.length_append,List.length_cons,List.length_nil,Nat.zero_add,go_sem,reduceIte,zA,zB,zC,zD,zE,zF,reduceCtorEq]
   refine hK _ ?_
   have lE : (done ++ [e]).map (fun e => e.2.1) = done.map (fun e => e.2.1) ++ [e.2.1] := by simp
   have xl : Go.Eng.leftOf aY ((done ++ [e]).map fun e => e.2.1) = left.filter fun x => !(x.2.1 == e.2.1) := by rw [lE, F8, u9]
   have AO := Jx jM he
   refine ⟨_, ?_, 8, (false::false::false::false::false::true::(rp 8 false [true])), by omega, by simp [rp,gg, ai], ?_, done ++ [e], rfl, ?_, ?_⟩
   ·rw [xl]
    have := AO.length_eq
    rw [List.length_cons] at this
    exact Nat.lt_of_lt_of_eq (Nat.lt_succ_self _) this.symm
   ·dsimp only
    rw [gt, List.all_append, Bool.and_eq_true]
    exact ⟨YW, by simp [az]⟩
   ·rw [xl, List.append_assoc]
    exact ((List.Perm.append_left done AO.symm)).trans pI
   ·dsimp only
    rw [gt, lE]
    simp [rp,gg]
end Go.Proofs.YtnfeacnbgbggfaaGreatDoor
end

section
namespace Go.Proofs.YtnfeacnbgbggfaaGreatDoor
open Go.Eng
open Nat renaming reduceAdd → zA, reduceLT → zB, reduceLeDiff → zC, reduceMul → zD, reduceEqDiff → zE, reduceSub → zF
variable [aH]
set_option maxHeartbeats 4000000
set_option maxRecDepth 100000
theorem Jz (s : List bB) : (canon s).length ≤ s.length := by
 unfold canon
 have h := vY ((clip s).foldl uR [])
 have h2 := (kJ (clip s) [] List.Pairwise.nil).2.length_eq
 rw [List.nil_append] at h2
 have := gV s
 omega
theorem QU (t : List Rl) : (me t).length ≤ t.length := by unfold me; rw [List.length_map]; exact List.length_filter_le _ _
theorem JA (t : List Rl) (p : ByteArray) : (bM t p).length ≤ t.length := List.length_filter_le _ _
theorem Uu {l : List Rl} (hb : ux l) (s : fP) : Cm ((nf l s).getD ja) := by
 cases h : nf l s with
 | none => exact Af
 | some r => exact hb.2 r (D2 h)
theorem JB (hG : aH.g = some 0) (XR : aO Tryz.prog 9 [] (bl true)) (l : List Rl) (I : List V) (hb : ux l) (p : ByteArray) (hp : p.size ≤ 1048576) (v : da) : ∃ r_, (fun w => w = bl (true)) r_ ∧ aO Tryz.prog 8 [bk l I, str p, aU v] r_ := by
 refine ef tt_ok [] 69 [.tmp 6] (fn := Tryz.f8) Tryz.func8 rfl Tryz.call8 ⟨rfl, rfl, by simp⟩ fun K hK => ?_
 have fu : Tryz.prog.underlying 9 = some .string := by kernel_rfl
 have sl : ∀ (a : ByteArray) (ty : TypeId), cH Tryz.prog (Builtin.len_ #[9] ty) [.sc (.string a)] = some (num a.size) := fun a ty => ck (P := Tryz.prog) (tt := tt) (T := 9) a fu ty
 simp only [bk,aV,aU]
 have YY := eJ l
 obtain ⟨r, hr⟩ : ∃ r, r = (nf l ⟨p, v⟩).getD ja := ⟨_, rfl⟩
 obtain ⟨k, hk⟩ : ∃ k, k = (nf l ⟨p, v⟩).isSome := ⟨_, rfl⟩
 have hrB : Cm r := by rw [hr]; exact Uu hb _
 obtain ⟨VS, XS⟩ : ∃ VS, VS = gX (al l) p := ⟨_, rfl⟩
 have hVl : VS.length ≤ 1048576 := by rw [XS]; unfold gX; rw [List.length_map]; have := JA (al l) p; omega
 obtain ⟨PS, XT⟩ : ∃ PS, PS = aA (al l) := ⟨_, rfl⟩
 have Tq : PS.length ≤ 1048576 := by rw [XT, ← (kV l).1]; have := pH (al l) none; omega
 obtain ⟨AS, XU⟩ : ∃ AS, AS = canon (me (bM (al l) p)) := ⟨_, rfl⟩
 have hAl : AS.length ≤ 1048576 := by rw [XU]; have := Jz (me (bM (al l) p)); have := QU (bM (al l) p); have := JA (al l) p; omega
 have bd : ∀ (mem : List aw) (ks : List (Nat × Nat)) (n : Int), cp mem ks (num n) = mem := fun _ _ _ => rfl
 have eU : ∀ (mem : List aw) (ks : List (Nat × Nat)) (b : Bool), cp mem ks (bl b) = mem := fun _ _ _ => rfl
 have wh : ∀ x y : Operand, aQ Tryz.prog (fC .eql 4 x y) (bl k) (bl k) = some (bl true) := fun x y => by cases k <;> kernel_rfl
 have uq : decide (r = r) = true := decide_eq_true rfl
 have QZ : decide (VS = VS) = true := decide_eq_true rfl
 have XV : decide (PS = PS) = true := decide_eq_true rfl
 have Vo : decide (AS = AS) = true := decide_eq_true rfl
 simp only [sl,bd,eU,wh,go_sem,reduceIte,zA,zB,zC,zD,zE,zF,reduceCtorEq]
 refine cF (⟨_, rfl, XR⟩) ?_
 rintro _ rfl
 simp only [sl,bd,eU,wh,go_sem,reduceIte,zA,zB,zC,zD,zE,zF,reduceCtorEq]
 refine cF (by have h := L4 l 30 hb; simp only [aV] at h; exact h) ?_
 rintro _ rfl
 simp only [sl,bd,eU,wh,go_sem,reduceIte,zA,zB,zC,zD,zE,zF,reduceCtorEq]
 refine aM (fun Uv => ?_) (fun Uv => ?_)
 ·simp only [sl,bd,eU,wh,go_sem,reduceIte,zA,zB,zC,zD,zE,zF,reduceCtorEq]
  exact hK _ (by first | rfl | (refine congrArg bl ?_; simp))
 ·simp only [sl,bd,eU,wh,go_sem,reduceIte,zA,zB,zC,zD,zE,zF,reduceCtorEq]
  refine aM (fun gx => ?_) (fun gx => ?_)
  ·simp only [sl,bd,eU,wh,go_sem,reduceIte,zA,zB,zC,zD,zE,zF,reduceCtorEq]
   exact hK _ (by first | rfl | (refine congrArg bl ?_; simp))
  ·simp only [sl,bd,eU,wh,go_sem,reduceIte,zA,zB,zC,zD,zE,zF,reduceCtorEq]
   refine cF (by have h := LU hG l I hb p v; rw [← hr, ← hk] at h; simp only [bk,aV,aU,ag,af,ah] at h; exact h) ?_
   rintro _ rfl
   simp only [sl,bd,eU,wh,go_sem,reduceIte,zA,zB,zC,zD,zE,zF,reduceCtorEq]
   refine cF (by have h := Jp l I hb p v; rw [← hr, ← hk] at h; simp only [bk,aV,aU,ag,af,ah] at h; exact h) ?_
   rintro _ rfl
   simp only [sl,bd,eU,wh,go_sem,reduceIte,zA,zB,zC,zD,zE,zF,reduceCtorEq]
   refine bI tt_ok aK [⟨.n, 0, [], [], []⟩, ⟨.n, 0, [], [], []⟩, ⟨.n, 0, [], [], []⟩, ⟨.n, 0, [], [], []⟩, ⟨.r, 0, [], [], []⟩, ⟨.r, 0, [], [], []⟩, ⟨.n, 0, [], [], []⟩, ⟨.n, 0, [], [], []⟩, ⟨.n, 0, [], [], []⟩, ⟨.r, 0, [], [], []⟩, ⟨.n, 0, [], [], []⟩, ⟨.n, 0, [], [], []⟩, ⟨.r, 0, [], [], []⟩, ⟨.n, 0, [], [], []⟩, ⟨.n, 0, [], [], []⟩, ⟨.n, 0, [], [], []⟩, ⟨.n, 0, [], [], []⟩, ⟨.n, 0, [], [], []⟩, ⟨.r, 0, [], [], []⟩, ⟨.n, 0, [], [], []⟩, ⟨.r, 0, [], [], []⟩, ⟨.n, 0, [], [], []⟩, ⟨.n, 0, [], [], []⟩, ⟨.n, 0, [], [], []⟩, ⟨.n, 0, [], [], []⟩, ⟨.r, 0, [], [], []⟩, ⟨.n, 0, [], [], []⟩, ⟨.n, 0, [], [], []⟩, ⟨.r, 0, [], [], []⟩, ⟨.n, 0, [], [], []⟩, ⟨.n, 0, [], [], []⟩, ⟨.n, 0, [], [], []⟩, ⟨.n, 0, [], [], []⟩, ⟨.n, 0, [], [], []⟩] 0 (by kernel_rfl) ?_
   simp only [sl,bd,eU,wh,go_sem,reduceIte,zA,zB,zC,zD,zE,zF,reduceCtorEq]
   refine cG (by have h := vT r r hrB; rw [uq] at h; simp only [ag,af,ah] at h; exact h) ?_
   rintro _ rfl
   simp only [sl,bd,eU,wh,go_sem,reduceIte,zA,zB,zC,zD,zE,zF,reduceCtorEq]
   refine cG (⟨_, rfl, by have h := AE hG l I hb p; rw [← XS] at h; simp only [bk,aV] at h; exact h⟩) ?_
   rintro _ rfl
   simp only [sl,bd,eU,wh,go_sem,reduceIte,zA,zB,zC,zD,zE,zF,reduceCtorEq]
   refine cG (by have h := xP l I hb p; rw [← XS] at h; simp only [bk,aV] at h; exact h) ?_
   rintro _ rfl
   simp only [sl,bd,eU,wh,go_sem,reduceIte,zA,zB,zC,zD,zE,zF,reduceCtorEq]
   refine cG (by have h := Jq VS VS hVl; rw [QZ] at h; exact h) ?_
   rintro _ rfl
   simp only [sl,bd,eU,wh,go_sem,reduceIte,zA,zB,zC,zD,zE,zF,reduceCtorEq]
   refine cG (⟨_, rfl, by have h := Jy hG l I hb; rw [← XT] at h; simp only [bk,aV] at h; exact h⟩) ?_
   rintro _ rfl
   simp only [sl,bd,eU,wh,go_sem,reduceIte,zA,zB,zC,zD,zE,zF,reduceCtorEq]
   refine cG (by have h := F4 l I hb; rw [(kV l).1, ← XT] at h; simp only [bk,aV] at h; exact h) ?_
   rintro _ rfl
   simp only [sl,bd,eU,wh,go_sem,reduceIte,zA,zB,zC,zD,zE,zF,reduceCtorEq]
   refine cG (by have h := Jr PS PS Tq; rw [XV] at h; exact h) ?_
   rintro _ rfl
   simp only [sl,bd,eU,wh,go_sem,reduceIte,zA,zB,zC,zD,zE,zF,reduceCtorEq]
   refine cG (⟨_, rfl, by have h := An hG l I hb p; rw [← XU] at h; simp only [bk,aV,ak] at h; exact h⟩) ?_
   rintro _ rfl
   simp only [sl,bd,eU,wh,go_sem,reduceIte,zA,zB,zC,zD,zE,zF,reduceCtorEq]
   refine cG (by have h := F3 l I hb p; rw [← XU] at h; simp only [bk,aV,ak] at h; exact h) ?_
   rintro _ rfl
   simp only [sl,bd,eU,wh,go_sem,reduceIte,zA,zB,zC,zD,zE,zF,reduceCtorEq]
   refine cG (by have h := r7 AS AS hAl; rw [Vo] at h; simp only [ak] at h; exact h) ?_
   rintro _ rfl
   simp only [sl,bd,eU,wh,go_sem,reduceIte,zA,zB,zC,zD,zE,zF,reduceCtorEq]
   exact hK _ (by first | rfl | (refine congrArg bl ?_; simp))
end Go.Proofs.YtnfeacnbgbggfaaGreatDoor
end

section
namespace Go.Proofs.YtnfeacnbgbggfaaGreatDoor.lawIndexLooks
open Go.Eng
set_option maxRecDepth 100000
open Go.ChangeShapes Go.WideShapes Go.ChangeAt Go.RowKit
theorem contract (H : Type) (enc : TypeId × Value → H) (W : World) (args : Array Value) (ds gs : List (DataW H)) (before : List MemPlace) (base : Nat)
  (bK : ∀ (j : Nat) t v, Tryz.f8.params[j]? = some t → args[j]? = some v → Value.okWide Tryz.prog W .any base t v)
  (hW : DataW.Whole enc Tryz.prog Tryz.f8.params.toList Rows.indexLooksSpec.vars false W args.toList ds gs before) (hb : Rows.uptoBulkAll (ds ++ gs) ≤ 1048576) (hS : W.ShapedOpen Tryz.prog) :
  Calls Tryz.prog 8 args W fun e W' => ∃ v, e = .returned v ∧ Rows.indexLooksSpec.post enc Tryz.prog Tryz.f8 false true false false W args v W' := by
 have YZ := hW
 have aD := hW.lt
 obtain ⟨p, q, HD, hV, rfl, U7, jM⟩ := hW
 have hA : DataW.TrodAll enc Tryz.prog W 0 (fun _ => true) true Tryz.f8.params.toList args.toList ds p := HD
 rw [Tryz.params8] at hA
 obtain ⟨v0, S3, d0, ds0, p0, q0, js, rfl, rfl, h0, r0⟩ := trodAll_cons hA
 obtain ⟨v1, vs1, d1, ds1, p1, q1, rfl, rfl, rfl, h1, r1⟩ := trodAll_cons r0
 obtain ⟨v2, vs2, d2, ds2, p2, q2, rfl, rfl, rfl, h2, r2⟩ := trodAll_cons r1
 obtain ⟨rfl, rfl, rfl⟩ := trodAll_nil r2
 obtain rfl : args = #[v0, v1, v2] := by cases args; simp_all
 obtain ⟨rfl, rfl⟩ := trodVars_none hV
 rw [Tryz.params8] at bK
 obtain ⟨s1, rfl⟩ := okWide_string Tryz.underlying9 (bK 1 9 v1 rfl rfl)
 clear bK
 clear HD hA r0 r1 r2 js hV
 simp only [List.append_nil] at YZ aD
 simp only [vC,List.append_nil,Rows.uptoBulkAll] at hb
 have Tu := h0
 have Gg := h1
 have Ru := h2
 obtain ⟨f0, h0⟩ := h0
 obtain ⟨f2, h2⟩ := h2
 have main : Calls Tryz.prog 8 #[v0, .string s1, v2] W fun e W' => e = .returned (.bool true) ∧ Below W.heap.size W W' := by
  obtain ⟨n, hn⟩ := FR hS
  have go : ∀ (G : aH) (hG : G.g = some 0) (hg : @Gl G W.cell?), Calls Tryz.prog 8 #[v0, .string s1, v2] W fun e W' => e = .returned (.bool true) ∧ Below W.heap.size W W' := fun G hG hg => by
   have XR : aO Tryz.prog 9 [] (bl true) := by obtain ⟨r, rfl, h⟩ := I7 hG; exact h
   obtain ⟨x0, I0, nH, b0⟩ := TE (F := W.cell?) (hg := hg) rfl h0
   obtain ⟨x2, xQ⟩ := H7 (F := W.cell?) (hg := hg) h2
   obtain ⟨t1, XM, b1⟩ := nX (F := W.cell?) (hg := hg) (Exists.choose_spec h1)
   have e1 : t1 = s1 := by have h := bR (XM.1.2 0 _ _ rfl rfl); exact (Value.string.inj h).symm
   rw [e1] at b1
   obtain ⟨rr, uq, hc⟩ : ∃ r_, r_ = bl true ∧ aO Tryz.prog 8 [bk x0 I0, str s1, aU x2] r_ := by
    obtain ⟨r_, h1, h2⟩ := JB hG XR x0 I0 (P4 (by omega)) s1 (by omega) x2
    exact ⟨r_, h1, h2⟩
   subst uq
   refine (hc.2 W.cell? hg W #[v0, .string s1, v2] (fun _ _ h => h) ?_).mono fun o W' h => ?_
   ·exact .cons (Ef (by simp [bk]) nH) (.cons (.sc _ _) (.cons (Ef (by simp [aU]) xQ) (.nil _)))
   ·obtain ⟨F', x, rfl, -, -, -, ⟨J7, hx⟩, zj⟩ := h
    obtain rfl := bR hx
    exact ⟨rfl, zj⟩
  exact go (YS n) rfl (@Gl.mk (YS n) _ (fun g hg => by cases hg; exact hn) (fun g cs j x h => by cases h))
 refine main.mono fun e W' ⟨he, zj⟩ => ?_
 subst he
 have JC : laidOutB Tryz.prog = true := by kernel_rfl
 refine ⟨_, rfl, FT (pa := p0 ++ (p1 ++ (p2 ++ []))) (pv := []) YZ (fun _ _ _ => trodAll_cons_mk (shut_bool Tryz.underlying4 _) trodAll_mk0) (fun sp uo => ?_) (fun _ _ => rfl) (by simp)
  zj (ok_one (by kernel_rfl) rfl (okWide_bool_mk Tryz.underlying4 _))⟩
 ·refine trodAll_cons_mk (WideElems.Trod_stays JC (by kernel_rfl) (of_decide_eq_true (by kernel_rfl)) Tu (fun x hx => zj.same (aD x (by simp [hx]))) (fun x hx => uo x (by simp [hx])))
   (trodAll_cons_mk (WideElems.Trod_stays JC (by kernel_rfl) (of_decide_eq_true (by kernel_rfl)) Gg (fun x hx => zj.same (aD x (by simp [hx]))) (fun x hx => uo x (by simp [hx])))
   (trodAll_cons_mk (WideElems.Trod_stays JC (by kernel_rfl) (of_decide_eq_true (by kernel_rfl)) Ru (fun x hx => zj.same (aD x (by simp [hx]))) (fun x hx => uo x (by simp [hx])))
   trodAll_mk0))
end Go.Proofs.YtnfeacnbgbggfaaGreatDoor.lawIndexLooks
end

section
namespace Go.Proofs.YtnfeacnbgbggfaaGreatDoor
open Go.ChangeShapes Go.WideShapes Go.ChangeAt Go.RowKit
theorem own : ownKnob Tryz.prog.godebug = none := by kernel_rfl
def wIx : Value := .agg #[.slice none 0 0, .slice none 0 0]
def XW : Value := .agg #[.int .i64 0, .int .i64 0, .int .i64 0]
def XX (H : Type) : DataW H := .agg [.lit (.int .i64 0), .lit (.int .i64 0), .lit (.int .i64 0)]
def dIx (H : Type) : DataW H := .agg [.nil, .nil]
def NQ (cs : Array Value) : Obj → Obj
 | .cells _ t frozen => .cells cs t frozen
 | o => o
def XY : List Nat := [128,191,160,191,128,159,144,191,128,143,0,0,0,0,0,0,0,0,0,0,0,0,0,0,0,0,0,0,0,0,0,0]
noncomputable def qC (os : Os) : World :=
 { World.holding Tryz.prog os ⟨#[], #[], []⟩ with heap := ((World.holding Tryz.prog os ⟨#[], #[], []⟩).heap.modify 1 (NQ ⟨Pinned.utf8FirstZ.map fun n => Value.int .u8 (Int.ofNat n)⟩)).modify 2 (NQ ⟨XY.map fun n => Value.int .u8 (Int.ofNat n)⟩) }
end Go.Proofs.YtnfeacnbgbggfaaGreatDoor
end
