/-
  CONTRACTS: Canonical, by the reference.
  PLAIN: keywords, segments and versions of paths, as the reference of layer 3 finds them.
  CONTRACTS: names, by the reference.
  CONTRACTS: versions of paths, by the reference.
  CONTRACTS: paths, by the reference.
  CONTRACTS: lines, comparing, by the reference.
  CONTRACTS: the checks, by the reference.
  CONTRACTS: Find, by the reference.
  CONTRACTS: Versions, Available, equal lists.
  CONTRACTS: Paths, by the reference.
  CONTRACTS: slices.Sort at strings, in place, by the kit's contract; the paths of a right index.
  CONTRACTS: reaching, selections, by the reference.
  CONTRACTS: Reachable, by the reference.
  CONTRACTS: requirements that a closure holds of.
  THE LAW IndexClosed.
  CONTRACTS: Solves, by the reference.
  THE LAW IndexReaches, walked.
  THE LAW IndexReaches, A: what it does at every argument of the bound, in every world of the shape.
  CLOSING, B: a world for the witness.
-/
import Derived.Test.YtnfeacnbgbggfaaGreatDoorU6
import Derived.Test.YtnfeacnbgbggfaaGreatDoorCards
import Derived.Test.YtnfeacnbgbggfaaGreatDoorTie
import Derived.Lib.LaidTab
set_option linter.all false
section
namespace Go.Proofs.YtnfeacnbgbggfaaGreatDoor
open Go.Eng
open Nat renaming reduceAdd → zA, reduceLT → zB, reduceLeDiff → zC, reduceMul → zD, reduceEqDiff → zE, reduceSub → zF
variable [aE]
set_option maxHeartbeats 4000000
set_option maxRecDepth 100000
theorem C5 {L : List bF} {x : bF} {k : Nat} (ha : fP L) (hd : ∀ y ∈ L.drop k, x.lo ≤ y.lo) (ht : ∀ y ∈ L.take k, y.lo ≤ x.lo) : fP (L.take k ++ x :: L.drop k) := by
  have h := ha
  rw [← List.take_append_drop k L] at h
  obtain ⟨h1, h2, h3⟩ := List.pairwise_append.1 h
  refine List.pairwise_append.2 ⟨h1, List.pairwise_cons.2 ⟨hd, h2⟩, fun a ha b hb => ?_⟩
  rcases List.mem_cons.1 hb with rfl | hb
  · exact ht a ha
  · exact h3 a ha b hb
theorem zf {L : List bF} {k : Nat} {z : bF} {c : Int} (ha : fP L) (hk : 0 < k) (hz : L[k - 1]? = some z) (hc : z.lo ≤ c) : ∀ y ∈ L.take k, y.lo ≤ c := by
  intro y hy
  have e : L.take k = L.take (k - 1) ++ [z] := by
    have := List.take_add_one (l := L) (i := k - 1)
    rw [Nat.sub_add_cancel hk, hz] at this
    exact this
  rw [e] at hy
  have h : fP (L.take k) := List.Pairwise.sublist (List.take_sublist _ _) ha
  rw [e] at h
  obtain ⟨-, -, h3⟩ := List.pairwise_append.1 h
  rcases List.mem_append.1 hy with hy | hy
  · have := h3 y hy z (List.mem_singleton.2 rfl); omega
  · rw [List.mem_singleton.1 hy]; exact hc
theorem EH {L : List bF} {k : Nat} {z : bF} (hk : 0 < k) (hz : L[k - 1]? = some z) : L.drop (k - 1) = z :: L.drop k := by
  have az := (List.getElem?_eq_some_iff.1 hz).1
  rw [List.drop_eq_getElem_cons az, (List.getElem?_eq_some_iff.1 hz).2, Nat.sub_add_cancel hk]
theorem ia (L : List bF) (k : Nat) : ck (L.map ak) k 2 = true := by
  unfold ck
  rw [List.getElem?_map]
  cases L[k]? <;> rfl
theorem zg {L m : List bF} {x : bF} (k : Nat) (h : L.Perm m) : (L.take k ++ x :: L.drop k).Perm (m ++ [x]) := by
  refine List.perm_middle.trans ?_
  rw [List.take_append_drop]
  exact ((List.Perm.cons x h).trans (List.perm_append_comm (l₁ := [x]) (l₂ := m)))
theorem EI (o : List bF) (x : bF) : (dj o x).length ≤ o.length + 1 := by
  unfold dj
  split
  · split
    · simp only [List.length_append,List.length_dropLast,List.length_singleton]; omega
    · simp only [List.length_append,List.length_singleton]; omega
  · simp only [List.length_singleton]; omega
theorem EJ (l : List bF) : (merge l).length ≤ l.length := by
  have key : ∀ (l o : List bF), (l.foldl dj o).length ≤ o.length + l.length := by
    intro l
    induction l with
    | nil => intro o; exact Nat.le_refl _
    | cons x l ih =>
      intro o
      rw [List.foldl_cons, List.length_cons]
      have := ih (dj o x); have := EI o x; omega
  have := key l []
  simpa [merge] using this
theorem Ia {R : List bF} {y : bF} (h : R.getLast? = some y) (z : bF) : R.set (R.length - 1) z = R.dropLast ++ [z] := by
  obtain ⟨D, rfl⟩ := List.getLast?_eq_some_iff.1 h
  rw [List.length_append, List.length_singleton, Nat.add_sub_cancel, List.set_append_right _ _ (Nat.le_refl _), Nat.sub_self, List.set_cons_zero, List.dropLast_concat]
theorem Bv {mem : List aw} {b v e l : Nat} {rs CV : List V} (h : mem[b]? = some (.rows v e rs)) (hl : l = rs.length) (hr : rs = CV) : fi mem (.ms b v 0 l) = some (.slice CV) := by
  subst hl; subst hr
  simp [fi, bU, h]
theorem EK (s : List bF) (hl : s.length ≤ 1048576) : ∃ r_, (fun w => w = al (canon s)) r_ ∧ aQ Tryz.prog 88 [al s] r_ := by
  refine dZ tt_ok [4] 113 [.tmp 2] (fn := Tryz.f88) Tryz.func88 rfl Tryz.call88 ⟨rfl, rfl, by simp⟩ fun K hK => ?_
  simp only [al]
  simp only [List.length_map,go_sem,reduceIte,zA,zB,zC,zD,zE,zF,reduceCtorEq]
  refine sE (v' := .slice []) 3 (by decide) rfl rfl ?_
  refine cY tt_ok [4] (fun a : Nat × List bF => [(0, .slice (s.map ak)), (3, .slice (a.2.map ak)), (4, num a.1)]) (fun a : Nat × List bF => []) (fun a => s.length - a.1) (fun a => a.1 ≤ s.length ∧ a.2.Perm (clip (s.take a.1)) ∧ fP a.2) ((0, [])) 0 (bj (by omega) (by simp only [List.length_map,List.map_nil,Int.cast_ofNat_Int,go_sem,reduceIte,zA,zB,zC,zD,zE,zF,reduceCtorEq] <;> rfl)) (⟨Nat.zero_le _, List.Perm.refl _, List.Pairwise.nil⟩) ?_
  rintro ⟨i, L⟩ ⟨hi, hp, hA⟩
  try dsimp only at hi hp hA
  try dsimp only
  intro Z1 cd
  simp only [List.length_map,go_sem,reduceIte,zA,zB,zC,zD,zE,zF,reduceCtorEq]
  refine aN (fun cX => ?_) (fun cX => ?_)
  · skip
    have az : i < s.length := by simpa using cX
    have hw := ay i (by omega)
    obtain ⟨x, hx⟩ : ∃ x, s[i]? = some x := ⟨_, List.getElem?_eq_getElem az⟩
    have rp : (if (0 : Int) < x.lo then x.lo else 0) = max x.lo 0 := by split <;> omega
    have qO : (if x.hi < (1000000 : Int) then x.hi else 1000000) = min x.hi 1000000 := by split <;> omega
    have Ed : L.length ≤ 1048576 := by rw [hp.length_eq]; have := iW (s.take i); rw [List.length_take] at this; omega
    simp only [hw,List.getElem?_map,hx,ak,rp,qO,List.length_map,go_sem,reduceIte,zA,zB,zC,zD,zE,zF,reduceCtorEq]
    refine bu tt_ok aG [⟨.n, 0, [], [], []⟩, ⟨.n, 0, [], [], []⟩, ⟨.r, 0, [0], [], []⟩, ⟨.n, 0, [], [], []⟩, ⟨.r, 0, [0], [], []⟩, ⟨.n, 0, [], [], []⟩, ⟨.n, 0, [], [], []⟩, ⟨.n, 0, [], [], []⟩, ⟨.r, 0, [0], [], []⟩, ⟨.n, 0, [], [], []⟩, ⟨.r, 0, [0], [], []⟩, ⟨.n, 0, [], [], []⟩, ⟨.n, 0, [], [], []⟩, ⟨.a, 0, [], [], []⟩, ⟨.s, 0, [], [], []⟩] 1 (by kernel_rfl) ?_
    simp only [hw,List.getElem?_map,hx,ak,rp,qO,List.length_map,go_sem,reduceIte,zA,zB,zC,zD,zE,zF,reduceCtorEq]
    refine aN (fun EL => ?_) (fun EL => ?_)
    · skip
      let nv : Nat × List bF := (i + 1, L)
      have pc : L.Perm (clip (s.take (i + 1))) := by rw [mg hx, CD (by have := of_decide_eq_true EL; omega)]; simpa using hp
      have BS : fP nv.2 := hA
      simp only [hw,List.getElem?_map,hx,ak,rp,qO,List.length_map,go_sem,reduceIte,zA,zB,zC,zD,zE,zF,reduceCtorEq]
      refine sE (v' := .slice (nv.2.map ak)) 3 (by decide) rfl (by first | rfl | exact Bv rfl (by simp [ua]) (by simp [nv, ak])) ?_
      refine AB tt_ok ?_
      simp only [hw,List.getElem?_map,hx,ak,rp,qO,List.length_map,go_sem,reduceIte,zA,zB,zC,zD,zE,zF,reduceCtorEq]
      refine cd _ ⟨nv, ?_, ?_, bj (by omega) (by (simp [nv, my, lk, bz, bR, ai, aB]))⟩
      · exact ⟨az, pc, BS⟩
      · dsimp only [nv]; omega
    · skip
      have jo : clip (s.take (i + 1)) = clip (s.take i) ++ [⟨max x.lo 0, min x.hi 1000000⟩] := by rw [mg hx, CC (by have := of_decide_eq_false EL; omega)]; rfl
      simp only [hw,List.getElem?_map,hx,ak,rp,qO,List.length_map,go_sem,reduceIte,zA,zB,zC,zD,zE,zF,reduceCtorEq]
      refine bx tt_ok [4] [6] 1 [0,2,3,4,5,11,12,13,14,17,18,19,20,21,22,23,24,25,26,27,28,29,30,31,32,33,34,35,36] (fun vs => (Go.Eng.intOf (vs.headD .undef)).toNat) (fun vs => ∃ k : Nat, vs = [num k] ∧ k ≤ L.length ∧ ∀ y ∈ L.drop k, max x.lo 0 ≤ y.lo) (by omega) (by simp only [hw,List.getElem?_map,hx,ak,rp,qO,List.length_map,go_sem,reduceIte,zA,zB,zC,zD,zE,zF,reduceCtorEq]) (⟨L.length, rfl, Nat.le_refl _, fun y hy => by rw [List.drop_length] at hy; cases hy⟩) fun vs hI Z2 nw => ?_
      obtain ⟨k, rfl, hk, hd⟩ := hI
      simp only [hw,List.getElem?_map,hx,ak,rp,qO,List.length_map,go_sem,reduceIte,zA,zB,zC,zD,zE,zF,reduceCtorEq]
      refine bu tt_ok aG [⟨.n, 0, [], [], []⟩, ⟨.n, 0, [], [], []⟩, ⟨.n, 0, [], [], []⟩, ⟨.n, 0, [], [], []⟩, ⟨.n, 0, [], [], []⟩, ⟨.n, 0, [], [], []⟩, ⟨.r, 0, [], [], []⟩, ⟨.n, 0, [], [], []⟩, ⟨.r, 0, [], [], []⟩, ⟨.n, 0, [], [], []⟩, ⟨.r, 0, [], [], []⟩, ⟨.n, 0, [], [], []⟩, ⟨.n, 0, [], [], []⟩] 0 (by kernel_rfl) ?_
      simp only [hw,List.getElem?_map,hx,ak,rp,qO,List.length_map,go_sem,reduceIte,zA,zB,zC,zD,zE,zF,reduceCtorEq]
      refine aN (fun C6 => ?_) (fun C6 => ?_)
      · skip
        have WH : 0 < k := by have := of_decide_eq_true C6; omega
        obtain ⟨z, hz⟩ : ∃ z, L[k - 1]? = some z := ⟨_, List.getElem?_eq_getElem (by omega)⟩
        have zh : IntKind.i64.wrap ((k : Int) - 1) = ((k - 1 : Nat) : Int) := jA _ _ (by omega) (by omega)
        simp only [hw,List.getElem?_map,hx,ak,rp,qO,zh,hz,List.length_map,go_sem,reduceIte,zA,zB,zC,zD,zE,zF,reduceCtorEq]
        refine aN (fun Lj => ?_) (fun Lj => ?_)
        · skip
          simp only [hw,List.getElem?_map,hx,ak,rp,qO,zh,hz,List.length_map,go_sem,reduceIte,zA,zB,zC,zD,zE,zF,reduceCtorEq]
          refine nw _ (cC (by omega) (by simp only [hw,List.getElem?_map,hx,ak,rp,qO,zh,hz,List.length_map,go_sem,reduceIte,zA,zB,zC,zD,zE,zF,reduceCtorEq]) ?_ ?_) <;> simp only [fh,lk,reduceIte,zE]
          · refine ⟨k - 1, rfl, by omega, fun y hy => ?_⟩
            rw [EH WH hz] at hy
            rcases List.mem_cons.1 hy with rfl | hy
            · have := of_decide_eq_true Lj; omega
            · exact hd y hy
          · simp only [Go.Eng.intOf,List.headD_cons]; omega
        · skip
          have ht : ∀ y ∈ L.take k, y.lo ≤ max x.lo 0 := by
            by_cases L0 : k = 0
            · subst L0; simp
            · first
              | exact zf hA WH hz (by have := of_decide_eq_false Lj; omega)
              | (exfalso; have := of_decide_eq_false C6; omega)
          have Lk : (k : Int) ≤ (L.length : Int) := by omega
          have fO := ia L k
          have WI : (List.drop k (List.map ak L)).take ((L.length : Int) - (k : Int)).toNat = (L.drop k).map ak := by rw [← List.map_drop, List.take_of_length_le]; rw [List.length_map, List.length_drop]; omega
          have c6 : ∀ mem : List aw, cutAt mem 2 (k : Int) none (.slice (L.map ak)) = some (.slice ((L.drop k).map ak)) := fun mem => by
            unfold cutAt
            simp only [Option.getD_none,List.length_map,Int.natCast_nonneg,Lk,Int.le_refl,Int.toNat_natCast,fO,and_self,if_true,WI]
          have ti := ia (L.drop k) 0
          have tG : List.take k (List.map ak L) = (L.take k).map ak := (List.map_take ..).symm
          have Bw := ia (L.take k) 0
          have re : 1 + (L.length - k) ≤ 34359738368 := by omega
          have Ju : List.take (L.length - k) (List.map ak (L.drop k)) = (L.drop k).map ak := List.take_of_length_le (by rw [List.length_map, List.length_drop]; exact Nat.le_refl _)
          let nv : Nat × List bF := (i + 1, L.take k ++ ⟨max x.lo 0, min x.hi 1000000⟩ :: L.drop k)
          have pc : nv.2.Perm (clip (s.take (i + 1))) := by rw [jo]; exact zg k hp
          have BS : fP nv.2 := C5 hA hd ht
          have ua : min k L.length = k := Nat.min_eq_left hk
          have rV : k + (L.length - k + 1) ≤ 34359738368 := by omega
          simp only [hw,List.getElem?_map,hx,ak,rp,qO,zh,hz,Lk,c6,Ju,Nat.min_self,ti,tG,Bw,re,ua,rV,List.length_drop,List.length_take,List.length_append,List.length_cons,List.length_nil,Nat.zero_add,Int.le_refl,Int.natCast_nonneg,Int.toNat_natCast,List.length_map,go_sem,reduceIte,zA,zB,zC,zD,zE,zF,reduceCtorEq]
          refine bu tt_ok aG [⟨.n, 0, [], [], []⟩, ⟨.n, 0, [], [], []⟩, ⟨.n, 0, [], [], []⟩, ⟨.n, 0, [], [0,1,2], []⟩, ⟨.r, 0, [], [], []⟩, ⟨.a, 0, [], [4], []⟩, ⟨.n, 0, [], [], []⟩, ⟨.n, 0, [], [], []⟩, ⟨.r, 0, [0], [6,7], []⟩, ⟨.w, 1, [], [4,5,6,7,8], []⟩, ⟨.w, 2, [], [0,1,2,3,4,5,6,7,8,9], []⟩, ⟨.n, 0, [], [0,1,2,3,4,5,6,7,8,9,10], []⟩] 3 (by kernel_rfl) ?_
          simp only [hw,List.getElem?_map,hx,ak,rp,qO,zh,hz,Lk,c6,Ju,Nat.min_self,ti,tG,Bw,re,ua,rV,List.length_drop,List.length_take,List.length_append,List.length_cons,List.length_nil,Nat.zero_add,Int.le_refl,Int.natCast_nonneg,Int.toNat_natCast,List.length_map,go_sem,reduceIte,zA,zB,zC,zD,zE,zF,reduceCtorEq]
          refine sE (v' := .slice (nv.2.map ak)) 3 (by decide) rfl (by first | rfl | exact Bv rfl (by simp [ua]) (by simp [nv, ak])) ?_
          refine AB tt_ok ?_
          simp only [hw,List.getElem?_map,hx,ak,rp,qO,zh,hz,Lk,c6,Ju,Nat.min_self,ti,tG,Bw,re,ua,rV,List.length_drop,List.length_take,List.length_append,List.length_cons,List.length_nil,Nat.zero_add,Int.le_refl,Int.natCast_nonneg,Int.toNat_natCast,List.length_map,go_sem,reduceIte,zA,zB,zC,zD,zE,zF,reduceCtorEq]
          refine cd _ ⟨nv, ?_, ?_, bj (by omega) (by (simp [nv, my, lk, bz, bR, ai, aB]))⟩
          · exact ⟨az, pc, BS⟩
          · dsimp only [nv]; omega
      · skip
        have ht : ∀ y ∈ L.take k, y.lo ≤ max x.lo 0 := by
          by_cases L0 : k = 0
          · subst L0; simp
          · first
            | exact zf hA WH hz (by have := of_decide_eq_false Lj; omega)
            | (exfalso; have := of_decide_eq_false C6; omega)
        have Lk : (k : Int) ≤ (L.length : Int) := by omega
        have fO := ia L k
        have WI : (List.drop k (List.map ak L)).take ((L.length : Int) - (k : Int)).toNat = (L.drop k).map ak := by rw [← List.map_drop, List.take_of_length_le]; rw [List.length_map, List.length_drop]; omega
        have c6 : ∀ mem : List aw, cutAt mem 2 (k : Int) none (.slice (L.map ak)) = some (.slice ((L.drop k).map ak)) := fun mem => by
          unfold cutAt
          simp only [Option.getD_none,List.length_map,Int.natCast_nonneg,Lk,Int.le_refl,Int.toNat_natCast,fO,and_self,if_true,WI]
        have ti := ia (L.drop k) 0
        have tG : List.take k (List.map ak L) = (L.take k).map ak := (List.map_take ..).symm
        have Bw := ia (L.take k) 0
        have re : 1 + (L.length - k) ≤ 34359738368 := by omega
        have Ju : List.take (L.length - k) (List.map ak (L.drop k)) = (L.drop k).map ak := List.take_of_length_le (by rw [List.length_map, List.length_drop]; exact Nat.le_refl _)
        let nv : Nat × List bF := (i + 1, L.take k ++ ⟨max x.lo 0, min x.hi 1000000⟩ :: L.drop k)
        have pc : nv.2.Perm (clip (s.take (i + 1))) := by rw [jo]; exact zg k hp
        have BS : fP nv.2 := C5 hA hd ht
        have ua : min k L.length = k := Nat.min_eq_left hk
        have rV : k + (L.length - k + 1) ≤ 34359738368 := by omega
        simp only [hw,List.getElem?_map,hx,ak,rp,qO,Lk,c6,Ju,Nat.min_self,ti,tG,Bw,re,ua,rV,List.length_drop,List.length_take,List.length_append,List.length_cons,List.length_nil,Nat.zero_add,Int.le_refl,Int.natCast_nonneg,Int.toNat_natCast,List.length_map,go_sem,reduceIte,zA,zB,zC,zD,zE,zF,reduceCtorEq]
        refine bu tt_ok aG [⟨.n, 0, [], [], []⟩, ⟨.n, 0, [], [], []⟩, ⟨.n, 0, [], [], []⟩, ⟨.n, 0, [], [0,1,2], []⟩, ⟨.r, 0, [], [], []⟩, ⟨.a, 0, [], [4], []⟩, ⟨.n, 0, [], [], []⟩, ⟨.n, 0, [], [], []⟩, ⟨.r, 0, [0], [6,7], []⟩, ⟨.w, 1, [], [4,5,6,7,8], []⟩, ⟨.w, 2, [], [0,1,2,3,4,5,6,7,8,9], []⟩, ⟨.n, 0, [], [0,1,2,3,4,5,6,7,8,9,10], []⟩] 3 (by kernel_rfl) ?_
        simp only [hw,List.getElem?_map,hx,ak,rp,qO,Lk,c6,Ju,Nat.min_self,ti,tG,Bw,re,ua,rV,List.length_drop,List.length_take,List.length_append,List.length_cons,List.length_nil,Nat.zero_add,Int.le_refl,Int.natCast_nonneg,Int.toNat_natCast,List.length_map,go_sem,reduceIte,zA,zB,zC,zD,zE,zF,reduceCtorEq]
        refine sE (v' := .slice (nv.2.map ak)) 3 (by decide) rfl (by first | rfl | exact Bv rfl (by simp [ua]) (by simp [nv, ak])) ?_
        refine AB tt_ok ?_
        simp only [hw,List.getElem?_map,hx,ak,rp,qO,Lk,c6,Ju,Nat.min_self,ti,tG,Bw,re,ua,rV,List.length_drop,List.length_take,List.length_append,List.length_cons,List.length_nil,Nat.zero_add,Int.le_refl,Int.natCast_nonneg,Int.toNat_natCast,List.length_map,go_sem,reduceIte,zA,zB,zC,zD,zE,zF,reduceCtorEq]
        refine cd _ ⟨nv, ?_, ?_, bj (by omega) (by (simp [nv, my, lk, bz, bR, ai, aB]))⟩
        · exact ⟨az, pc, BS⟩
        · dsimp only [nv]; omega
  · skip
    have cH : ¬ i < s.length := by simpa using cX
    have zx : L.Perm (clip s) := by rw [show i = s.length by omega, List.take_length] at hp; exact hp
    have Ed : L.length ≤ 1048576 := by rw [zx.length_eq]; have := iW s; omega
    simp only [List.length_map,go_sem,reduceIte,zA,zB,zC,zD,zE,zF,reduceCtorEq]
    refine cY tt_ok [4] (fun a : Nat × List bF => [(3, .slice (L.map ak)), (7, .ms 0 a.2.length 0 a.2.length), (8, num a.1)]) (fun a : Nat × List bF => [.rows (a.2.length) 2 (a.2.map ak)]) (fun a => L.length - a.1) (fun a => a.1 ≤ L.length ∧ a.2 = merge (L.take a.1)) ((0, [])) 1 (bj (by omega) (by simp only [List.length_map,List.map_nil,List.length_nil,Int.cast_ofNat_Int,go_sem,reduceIte,zA,zB,zC,zD,zE,zF,reduceCtorEq] <;> rfl)) (⟨Nat.zero_le _, rfl⟩) ?_
    rintro ⟨i, R⟩ ⟨hi, hR⟩
    try dsimp only at hi hR
    try dsimp only
    intro Z3 wG
    simp only [List.length_map,go_sem,reduceIte,zA,zB,zC,zD,zE,zF,reduceCtorEq]
    refine aN (fun wQ => ?_) (fun wQ => ?_)
    · skip
      have az : i < L.length := by simpa using wQ
      have hw := ay i (by omega)
      obtain ⟨x, hx⟩ : ∃ x, L[i]? = some x := ⟨_, List.getElem?_eq_getElem az⟩
      have Pw : R.length ≤ i := by rw [hR]; have := EJ (L.take i); rw [List.length_take] at this; omega
      have eO : R.length + 1 ≤ 34359738368 := by omega
      simp only [hw,List.getElem?_map,hx,ak,eO,List.length_append,List.length_cons,List.length_nil,Nat.zero_add,List.length_map,go_sem,reduceIte,zA,zB,zC,zD,zE,zF,reduceCtorEq]
      refine bu tt_ok aG [⟨.n, 0, [], [], []⟩, ⟨.n, 0, [], [], []⟩, ⟨.n, 0, [], [], []⟩, ⟨.n, 0, [], [], []⟩, ⟨.n, 0, [], [], []⟩, ⟨.r, 0, [], [], []⟩, ⟨.n, 0, [], [], []⟩, ⟨.r, 0, [], [], []⟩, ⟨.n, 0, [], [], []⟩, ⟨.n, 0, [], [], []⟩, ⟨.n, 0, [], [], []⟩, ⟨.r, 0, [], [], []⟩, ⟨.n, 0, [], [], []⟩, ⟨.r, 0, [], [], []⟩, ⟨.n, 0, [], [], []⟩, ⟨.n, 0, [], [], []⟩] 0 (by kernel_rfl) ?_
      simp only [hw,List.getElem?_map,hx,ak,eO,List.length_append,List.length_cons,List.length_nil,Nat.zero_add,List.length_map,go_sem,reduceIte,zA,zB,zC,zD,zE,zF,reduceCtorEq]
      refine aN (fun wR => ?_) (fun wR => ?_)
      · skip
        have ir : 0 < R.length := by have := of_decide_eq_true wR; omega
        obtain ⟨y, hy⟩ : ∃ y, R[R.length - 1]? = some y := ⟨_, List.getElem?_eq_getElem (by omega)⟩
        have qC : R.getLast? = some y := by rw [List.getLast?_eq_getElem?]; exact hy
        have Kh : IntKind.i64.wrap ((R.length : Int) - 1) = ((R.length - 1 : Nat) : Int) := jA _ _ (by omega) (by omega)
        have CE : ((R.length - 1 : Nat) : Int) < (R.length : Int) := by omega
        simp only [hw,List.getElem?_map,hx,ak,eO,List.length_append,List.length_cons,List.length_nil,Nat.zero_add,Kh,hy,CE,List.length_map,go_sem,reduceIte,zA,zB,zC,zD,zE,zF,reduceCtorEq]
        refine aN (fun Ll => ?_) (fun Ll => ?_)
        · skip
          have hle : x.lo ≤ y.hi := by simpa using Ll
          have Th : (if y.hi < x.hi then x.hi else y.hi) = max y.hi x.hi := by split <;> omega
          let nv : Nat × List bF := (i + 1, R.set (R.length - 1) ⟨y.lo, max y.hi x.hi⟩)
          have Ib : R.set (R.length - 1) ⟨y.lo, max y.hi x.hi⟩ = merge (L.take (i + 1)) := by
            rw [iC hx, ← hR]; unfold dj; rw [qC]; dsimp only; rw [if_pos hle]; exact Ia qC _
          simp only [hw,List.getElem?_map,hx,ak,eO,List.length_append,List.length_cons,List.length_nil,Nat.zero_add,Kh,hy,CE,Th,List.length_map,go_sem,reduceIte,zA,zB,zC,zD,zE,zF,reduceCtorEq]
          refine bu tt_ok aG [⟨.n, 0, [], [], []⟩, ⟨.n, 0, [], [], []⟩, ⟨.n, 0, [], [1], []⟩, ⟨.n, 0, [], [], []⟩, ⟨.n, 0, [], [], []⟩, ⟨.n, 0, [], [4], []⟩, ⟨.r, 0, [], [3,4,5], []⟩, ⟨.n, 0, [], [3,4,5,6], []⟩, ⟨.r, 0, [], [3,4,5,6,7], []⟩, ⟨.n, 0, [], [], []⟩, ⟨.n, 0, [], [], []⟩, ⟨.r, 0, [], [9,10], []⟩, ⟨.n, 0, [], [9,10,11], []⟩, ⟨.r, 0, [], [9,10,11,12], []⟩, ⟨.n, 0, [], [3,4,5,6,7,8,9,10,11,12,13], []⟩, ⟨.r, 0, [], [0,1,2,3,4,5,6,7,8,9,10,11,12,13,14], []⟩, ⟨.n, 0, [], [0,1,2,3,4,5,6,7,8,9,10,11,12,13,14,15], []⟩, ⟨.w, 0, [], [0,1,2,3,4,5,6,7,8,9,10,11,12,13,14,15,16], []⟩] 1 (by kernel_rfl) ?_
          simp only [hw,List.getElem?_map,hx,ak,eO,List.length_append,List.length_cons,List.length_nil,Nat.zero_add,Kh,hy,CE,Th,List.length_map,go_sem,reduceIte,zA,zB,zC,zD,zE,zF,reduceCtorEq]
          refine wG _ ⟨nv, ?_, ?_, bj (by omega) (by (simp [nv, my, lk, bz, bR, ai, aB, List.map_set, List.map_append, ak, setRow, b8, V.cells]))⟩
          · exact ⟨az, Ib⟩
          · dsimp only [nv]; omega
        · skip
          have zr : dj R x = R ++ [x] := mh fun z Ev => by
            first
              | (rw [qC] at Ev; cases Ev; have := of_decide_eq_false Ll; omega)
              | (have h0 : R = [] := List.length_eq_zero_iff.1 (by have := of_decide_eq_false wR; omega)
                 rw [h0] at Ev; cases Ev)
          let nv : Nat × List bF := (i + 1, R ++ [x])
          have Ib : nv.2 = merge (L.take (i + 1)) := by rw [iC hx, ← hR, zr]
          simp only [hw,List.getElem?_map,hx,ak,eO,List.length_append,List.length_cons,List.length_nil,Nat.zero_add,Kh,hy,CE,List.length_map,go_sem,reduceIte,zA,zB,zC,zD,zE,zF,reduceCtorEq]
          refine wG _ ⟨nv, ?_, ?_, bj (by omega) (by (simp [nv, my, lk, bz, bR, ai, aB, List.map_set, List.map_append, ak, setRow, b8, V.cells]))⟩
          · exact ⟨az, Ib⟩
          · dsimp only [nv]; omega
      · skip
        have zr : dj R x = R ++ [x] := mh fun z Ev => by
          first
            | (rw [qC] at Ev; cases Ev; have := of_decide_eq_false Ll; omega)
            | (have h0 : R = [] := List.length_eq_zero_iff.1 (by have := of_decide_eq_false wR; omega)
               rw [h0] at Ev; cases Ev)
        let nv : Nat × List bF := (i + 1, R ++ [x])
        have Ib : nv.2 = merge (L.take (i + 1)) := by rw [iC hx, ← hR, zr]
        simp only [hw,List.getElem?_map,hx,ak,eO,List.length_append,List.length_cons,List.length_nil,Nat.zero_add,List.length_map,go_sem,reduceIte,zA,zB,zC,zD,zE,zF,reduceCtorEq]
        refine wG _ ⟨nv, ?_, ?_, bj (by omega) (by (simp [nv, my, lk, bz, bR, ai, aB, List.map_set, List.map_append, ak, setRow, b8, V.cells]))⟩
        · exact ⟨az, Ib⟩
        · dsimp only [nv]; omega
    · skip
      have KG : ¬ i < L.length := by simpa using wQ
      have kr : R = canon s := by rw [hR, show i = L.length by omega, List.take_length]; exact yw zx hA
      simp only [List.length_map,go_sem,reduceIte,zA,zB,zC,zD,zE,zF,reduceCtorEq]
      refine hK _ ?_
      simp [tQ, se, xI, LQ, fi, bU, al, ← kr, List.take_of_length_le]
end Go.Proofs.YtnfeacnbgbggfaaGreatDoor
end

section
namespace Go.Proofs.YtnfeacnbgbggfaaGreatDoor
open Go.Eng
def Tj : List (List UInt8) := [[97,110,100], [97,110,121], [97,115], [98,111,111,108], [100,101,112,114,101,99,97,116,101,100], [101,108,115,101], [101,120,112,111,114,116], [102,97,108,115,101], [102,110], [102,111,108,100], [102,114,111,109], [105,102], [105,109,112,111,114,116], [105,110], [105,110,116], [108,101,110,103,116,104], [108,101,116], [108,105,115,116], [109,97,116,99,104], [109,111,100,117,108,101], [110,111,110,101], [110,111,116], [111,114], [116,101,120,116], [116,104,101,110], [116,114,117,101], [116,121,112,101], [117,115,101]]
def PI : List ByteArray := Tj.map fun l => ⟨l.toArray⟩
theorem Lm : Tj.all (fun k => Lib.contains mS.data.toList (32 :: k ++ [32])) = true := by kernel_rfl
def tw (l : List UInt8) : List UInt8 := l.takeWhile (· != 32)
theorem Tl : (List.range 200).all (fun i => !((mS.data.toList.drop i).head? == some 32) || ((mS.data.toList.drop (i + 1)).isEmpty || Tj.contains (tw (mS.data.toList.drop (i + 1))))) = true := by kernel_rfl
theorem PJ {k r : List UInt8} (h : ∀ b ∈ k, b ≠ 32) : tw (k ++ 32 :: r) = k := by
 induction k with
 | nil => rfl
 | cons b k ih =>
  have hb : (b != 32) = true := by simpa using h b (List.mem_cons_self ..)
  show List.takeWhile _ (b :: (k ++ 32 :: r)) = _
  rw [List.takeWhile_cons, hb]
  simp only [if_true]
  exact congrArg (b :: ·) (ih fun c hc => h c (List.mem_cons_of_mem _ hc))
theorem Ln : Nat.ble mS.data.toList.length 200 = true := by kernel_rfl
theorem Lo (s : ByteArray) (h : fZ ki s = true) : T2 s = PI.any fun k => decide (k = s) := by
 have dV : ∀ b ∈ bg s, b ≠ 32 := fun b hb e => by
  have h1 := List.all_eq_true.1 h b hb
  rw [e] at h1; revert h1; decide
 have hd : (⟨#[32]⟩ ++ s ++ ⟨#[32]⟩ : ByteArray).data.toList = 32 :: bg s ++ [32] := by
  rw [ByteArray.data_append, ByteArray.data_append]
  simp [bg]
 have hm : s ∈ PI ↔ bg s ∈ Tj := by
  unfold PI
  rw [List.mem_map]
  refine ⟨fun ⟨l, hl, e⟩ => by rw [← e]; simpa [bg] using hl, fun h => ⟨_, h, ?_⟩⟩
  obtain ⟨⟨l⟩⟩ := s; rfl
 have Nu : (PI.any fun k => decide (k = s)) = true ↔ bg s ∈ Tj := by
  rw [List.any_eq_true, ← hm]
  exact ⟨fun ⟨k, hk, e⟩ => by rw [← of_decide_eq_true e]; exact hk, fun h => ⟨s, h, by simp⟩⟩
 rw [Bool.eq_iff_iff, Nu]
 unfold T2
 rw [hd]
 constructor
 ·intro hc
  unfold Lib.contains at hc
  rw [decide_eq_true_eq] at hc
  rcases Lib.index_spec mS.data.toList (32 :: bg s ++ [32]) with ⟨h1, _⟩ | ⟨i, h1, h2, h3, _⟩
  ·omega
  unfold Lib.occAt at h3
  rw [List.isPrefixOf_iff_prefix] at h3
  obtain ⟨r, hr⟩ := h3
  have hi : i < 200 := by
   have hl := congrArg List.length hr
   have := Nat.le_of_ble_eq_true Ln
   simp only [List.length_append,List.length_cons,List.length_drop] at hl; omega
  have h4 := List.all_eq_true.1 Tl i (List.mem_range.2 hi)
  have e1 : mS.data.toList.drop (i + 1) = bg s ++ 32 :: r := by
   have : mS.data.toList.drop (i + 1) = (mS.data.toList.drop i).drop 1 := by rw [List.drop_drop]
   rw [this, ← hr]; simp
  rw [← hr, e1, PJ dV] at h4
  simpa using h4
 ·intro hc
  exact List.all_eq_true.1 Lm _ hc
theorem lS (s : ByteArray) : jD s = (decide (1 ≤ s.size) && decide (s.size ≤ 32) && tW (cD s 0) && fZ ki s && !(PI.any fun k => decide (k = s))) := by
 unfold jD
 cases h : fZ ki s with
 | false => simp
 | true => rw [Lo s h]
def eX (o : List ByteArray) (c : UInt8) : List ByteArray := if c = 47 then o ++ [⟨#[]⟩] else o.set (o.length - 1) ((o[o.length - 1]?).getD ⟨#[]⟩ ++ ⟨#[c]⟩)
def eY (l : List UInt8) : List ByteArray := l.foldl eX [⟨#[]⟩]
def oW (cur : List UInt8) : List (List UInt8) → List (List UInt8)
 | [] => [cur]
 | h :: t => (cur ++ h) :: t
def EM (l : List UInt8) : ByteArray := ⟨l.toArray⟩
theorem ub (r : List UInt8) : Lib.split (47 :: r) [47] = [] :: Lib.split r [47] := by
 have cV : Lib.index (47 :: r) [47] = 0 := by rw [Lib.index]; simp [List.isPrefixOf]
 unfold Lib.split
 rw [Lib.count_cons_eq, Nat.add_comm, Lib.splitK, cV]
 simp
theorem uc (b : UInt8) (r : List UInt8) (h : b ≠ 47) : Lib.split (b :: r) [47] = oW [b] (Lib.split r [47]) := by
 have hp : ([47] : List UInt8).isPrefixOf (b :: r) = false := by simp [List.isPrefixOf, Ne.symm h]
 have cV : Lib.index (b :: r) [47] = if Lib.index r [47] == -1 then -1 else Lib.index r [47] + 1 := by rw [Lib.index, hp]; simp
 unfold Lib.split
 rw [Lib.count_cons_ne b 47 r h]
 cases hk : Lib.count r [47] with
 | zero => rfl
 | succ k =>
  rw [Lib.splitK, Lib.splitK, cV]
  by_cases hm : Lib.index r [47] = -1
  ·rw [hm]; rfl
  ·have cH := Lib.index_ge r [47]
   obtain ⟨j, hj⟩ : ∃ j : Nat, Lib.index r [47] = j := ⟨(Lib.index r [47]).toNat, by omega⟩
   have h1 : ((j : Int) == -1) = false := by rw [beq_eq_false_iff_ne]; omega
   have h2 : ((j : Int) + 1 == -1) = false := by rw [beq_eq_false_iff_ne]; omega
   have h3 : ((j : Int) + 1).toNat = j + 1 := by omega
   rw [hj, h1]
   simp only [Bool.false_eq_true,if_false,h2,h3,Int.toNat_natCast,oW,List.length_cons,List.length_nil,Nat.add_zero]
   rw [show j + 1 + (0 + 1) = (j + (0 + 1)) + 1 by omega, List.drop_succ_cons]
   rfl
theorem Lp (a b : List UInt8) : EM a ++ EM b = EM (a ++ b) := by
 apply ByteArray.ext
 rw [ByteArray.data_append]
 simp [EM]
theorem wS : ∀ (l : List UInt8) (pre : List ByteArray) (cur : List UInt8), l.foldl eX (pre ++ [EM cur]) = pre ++ (oW cur (Lib.split l [47])).map EM
 | [], pre, cur => by
  have : Lib.split [] [47] = [[]] := rfl
  rw [this]; simp [oW]
 | b :: r, pre, cur => by
  rw [List.foldl_cons]
  by_cases h : b = 47
  ·subst h
   have hs : eX (pre ++ [EM cur]) 47 = (pre ++ [EM cur]) ++ [EM []] := by simp [eX, EM]
   rw [hs, wS r, ub]
   have : oW [] (Lib.split r [47]) = Lib.split r [47] := by
    cases hq : Lib.split r [47] with
    | nil => exfalso; unfold Lib.split at hq; cases hk : Lib.count r [47] <;> rw [hk] at hq <;> rw [Lib.splitK] at hq <;> first | cases hq | (split at hq <;> cases hq)
    | cons a t => rfl
   rw [this]
   simp [oW]
  ·have hs : eX (pre ++ [EM cur]) b = pre ++ [EM (cur ++ [b])] := by
    unfold eX
    rw [if_neg h, List.length_append, List.length_singleton, Nat.add_sub_cancel]
    rw [List.getElem?_append_right (Nat.le_refl _), Nat.sub_self]
    simp only [List.getElem?_cons_zero,Option.getD_some]
    rw [List.set_append_right _ _ (Nat.le_refl _), Nat.sub_self, List.set_cons_zero]
    exact congrArg (fun z => pre ++ [z]) (Lp cur [b])
   rw [hs, wS r, uc b r h]
   cases hq : Lib.split r [47] with
   | nil => simp [oW]
   | cons a t => simp [oW]
theorem EN (s : ByteArray) : EM s.data.toList = s := by obtain ⟨⟨l⟩⟩ := s; rfl
theorem lT (s : ByteArray) : eY (bg s) = pieces s := by
 have h := wS (bg s) [] []
 have h2 : oW [] (Lib.split (bg s) [47]) = Lib.split (bg s) [47] := by
  cases hq : Lib.split (bg s) [47] with
  | nil => exfalso; unfold Lib.split at hq; cases hk : Lib.count (bg s) [47] <;> rw [hk] at hq <;> rw [Lib.splitK] at hq <;> first | cases hq | (split at hq <;> cases hq)
  | cons a t => rfl
 rw [h2, List.nil_append] at h
 have h3 := Lib.splitB_data ⟨#[47]⟩ 0 (Lib.countB s ⟨#[47]⟩) s
 have h4 : (pieces s).map (fun x => x.data.toList) = Lib.split (bg s) [47] := h3
 rw [show eY (bg s) = _ from h, ← h4, List.map_map]
 conv => rhs; rw [← List.map_id (pieces s)]
 exact List.map_congr_left fun x _ => EN x
theorem oX (l : List UInt8) (c : UInt8) : eY (l ++ [c]) = eX (eY l) c := by unfold eY; rw [List.foldl_append]; rfl
theorem pX (s : ByteArray) : lz s = (decide (1 ≤ s.size) && decide (cD s 0 = 118)) := by
 obtain ⟨⟨l⟩⟩ := s
 cases l with
 | nil => rfl
 | cons b l =>
  have hb : cD ⟨⟨b :: l⟩⟩ 0 = (b.toNat : Int) := rfl
  have hs : (⟨⟨b :: l⟩⟩ : ByteArray).size = l.length + 1 := rfl
  rw [hb, hs]
  show ((118 : UInt8) == b && ([] : List UInt8).isPrefixOf l) = _
  simp only [List.isPrefixOf_nil_left,Bool.and_true]
  rw [Bool.eq_iff_iff]
  simp only [beq_iff_eq,Bool.and_eq_true,decide_eq_true_eq]
  constructor
  ·rintro rfl; exact ⟨by omega, rfl⟩
  ·rintro ⟨-, h⟩
   apply UInt8.toNat_inj.1
   have : b.toNat = 118 := by omega
   rw [this]; rfl
theorem nM {s : ByteArray} (h : lz s = true) (k : Nat) : (gg s)[k]? = s[k + 1]? := by
 have hd : (gg s).data.toList = s.data.toList.drop 1 := by
  show Lib.trimPrefix s.data.toList [118] = _
  unfold Lib.trimPrefix
  rw [if_pos (show Lib.hasPrefix s.data.toList [118] = true from h)]; rfl
 have g : ∀ (t : ByteArray) (j : Nat), t[j]? = t.data.toList[j]? := fun t j => by
  obtain ⟨⟨l⟩⟩ := t
  by_cases hj : j < l.length
  ·rw [getElem?_pos (⟨⟨l⟩⟩ : ByteArray) j (by exact hj)]
   show some _ = l[j]?
   rw [List.getElem?_eq_getElem hj]; rfl
  ·rw [getElem?_neg (⟨⟨l⟩⟩ : ByteArray) j (by exact hj)]
   show none = l[j]?
   rw [List.getElem?_eq_none (by omega)]
 rw [g, g, hd, List.getElem?_drop, Nat.add_comm]
theorem lU {s : ByteArray} (h : lz s = true) : (gg s).size = s.size - 1 := by
 have hd : (gg s).data.toList = s.data.toList.drop 1 := by
  show Lib.trimPrefix s.data.toList [118] = _
  unfold Lib.trimPrefix
  rw [if_pos (show Lib.hasPrefix s.data.toList [118] = true from h)]; rfl
 rw [Lib.size_eq, hd, List.length_drop, ← Lib.size_eq]
theorem EO {s : ByteArray} (h : lz s = true) (k : Nat) : cD (gg s) k = cD s (k + 1) := by unfold cD; rw [nM h]
def qY (s : ByteArray) : Bool := !(decide (s.size < 2) || decide (4 < s.size) || !decide (cD s 0 = 118) || (decide (cD s 1 = 48) && decide (2 < s.size)))
theorem iG (s : ByteArray) : ch s = (qY s && fZ eC (gg s)) := by
 unfold ch qY
 cases hv : lz s with
 | false =>
  rw [pX] at hv
  by_cases h1 : s.size < 2 <;> simp_all <;> (intros; omega)
 | true =>
  have h1 := lU hv
  have h2 := EO hv 0
  rw [pX] at hv
  simp only [Bool.and_eq_true,decide_eq_true_eq] at hv
  unfold lA
  rw [h1, h2]
  cases fZ eC (gg s)
  ·simp
  ·rw [Bool.eq_iff_iff]
   simp [hv.2]
   omega
end Go.Proofs.YtnfeacnbgbggfaaGreatDoor
end

section
namespace Go.Proofs.YtnfeacnbgbggfaaGreatDoor
open Go.Eng
open Nat renaming reduceAdd → zA, reduceLT → zB, reduceLeDiff → zC, reduceMul → zD, reduceEqDiff → zE, reduceSub → zF
variable [aE]
set_option maxHeartbeats 4000000
set_option maxRecDepth 100000
theorem wT  : ∃ r_, (fun w => w = .slice (PI.map str)) r_ ∧ aQ Tryz.prog 192 [] r_ := by
 refine dZ tt_ok [] 2 [.tmp 0] (fn := Tryz.f192) Tryz.func192 rfl Tryz.call192 ⟨rfl, rfl, by simp⟩ fun K hK => ?_
 simp only [go_sem,reduceIte,zA,zB,zC,zD,zE,zF,reduceCtorEq]
 exact hK _ rfl
theorem Bx (l : List ByteArray) (s : ByteArray) (hl : l.length ≤ 1048576) : ∃ r_, (fun w => w = bl (l.any fun k => decide (k = s))) r_ ∧ aQ Tryz.prog 191 [.slice (l.map str), str s] r_ := by
 refine dZ tt_ok [] 18 [.tmp 4] (fn := Tryz.f191) Tryz.func191 rfl Tryz.call191 ⟨rfl, rfl, by simp⟩ fun K hK => ?_
 simp only [List.length_map,go_sem,reduceIte,zA,zB,zC,zD,zE,zF,reduceCtorEq]
 refine bx tt_ok [] [5] 0 [0,1] (fun vs => ((l.length : Int) - Go.Eng.intOf (vs.headD .undef)).toNat) (fun vs => ∃ i : Nat, vs = [num i] ∧ i ≤ l.length ∧ ∀ j < i, ∀ x, l[j]? = some x → decide (x = s) = false) (by omega) (by simp only [List.length_map,go_sem,reduceIte,zA,zB,zC,zD,zE,zF,reduceCtorEq]) (⟨0, rfl, Nat.zero_le _, fun j hj => absurd hj (Nat.not_lt_zero j)⟩) fun vs hI Z1 cd => ?_
 obtain ⟨i, rfl, hi, aV⟩ := hI
 simp only [List.length_map,go_sem,reduceIte,zA,zB,zC,zD,zE,zF,reduceCtorEq]
 refine aN (fun ga => ?_) (fun ga => ?_)
 ·have az : i < l.length := by simpa using ga
  have hw := ay i (by omega)
  obtain ⟨x, hx⟩ : ∃ x, l[i]? = some x := ⟨_, List.getElem?_eq_getElem az⟩
  simp only [hw,List.getElem?_map,hx,List.length_map,go_sem,reduceIte,zA,zB,zC,zD,zE,zF,reduceCtorEq]
  refine aN (fun lE => ?_) (fun lE => ?_)
  ·have au : true = l.any fun k => decide (k = s) := (wo hx (by simpa [aJ] using lE)).symm
   simp only [hw,List.getElem?_map,hx,List.length_map,go_sem,reduceIte,zA,zB,zC,zD,zE,zF,reduceCtorEq]
   exact hK _ (congrArg bl au)
  ·simp only [hw,List.getElem?_map,hx,List.length_map,go_sem,reduceIte,zA,zB,zC,zD,zE,zF,reduceCtorEq]
   refine cd _ (cC (by omega) (by simp only [hw,List.getElem?_map,hx,List.length_map,go_sem,reduceIte,zA,zB,zC,zD,zE,zF,reduceCtorEq]) ?_ ?_) <;> simp only [fh,lk,reduceIte,zE]
   ·refine ⟨i + 1, rfl, az, fun j hj => ?_⟩
    rcases Nat.lt_or_ge j i with h | h
    ·exact aV j h
    ·obtain rfl : j = i := by omega
     intro y hy
     rw [hx] at hy; cases hy; simpa [aJ] using lE
   ·simp only [Go.Eng.intOf,List.headD_cons]; omega
 ·have cH : ¬ i < l.length := by simpa using ga
  have au : false = l.any fun k => decide (k = s) := (any_none fun j hj => aV j (by omega)).symm
  simp only [List.length_map,go_sem,reduceIte,zA,zB,zC,zD,zE,zF,reduceCtorEq]
  exact hK _ (congrArg bl au)
theorem By (s : ByteArray) : ∃ r_, (fun w => w = bl (jD s)) r_ ∧ aQ Tryz.prog 180 [str s] r_ := by
 refine dZ tt_ok [] 26 [.tmp 2] (fn := Tryz.f180) Tryz.func180 rfl Tryz.call180 ⟨rfl, rfl, by simp⟩ fun K hK => ?_
 have fL : Tryz.prog.underlying 9 = some .string := by kernel_rfl
 have sl : ∀ (a : ByteArray) (ty : TypeId), cI Tryz.prog (Builtin.len_ #[9] ty) [.sc (.string a)] = some (num a.size) := fun a ty => ct (P := Tryz.prog) (tt := tt) (T := 9) a fL ty
 simp only [sl,go_sem,reduceIte,zA,zB,zC,zD,zE,zF,reduceCtorEq]
 refine aN (fun kM => ?_) (fun kM => ?_)
 ·simp only [sl,go_sem,reduceIte,zA,zB,zC,zD,zE,zF,reduceCtorEq]
  refine aN (fun uO => ?_) (fun uO => ?_)
  ·obtain ⟨v0, lB⟩ := bW (s := s) (i := 0) (by have := of_decide_eq_true kM; omega)
   have aY := cL (P := Tryz.prog) s fL .i64 (0 : Int) (by omega) (c := v0) (show s[((0 : Nat) : Int).toNat]? = some v0 from lB)
   have V0 : cD s 0 = v0.toNat := c8 lB
   simp only [aY,sl,go_sem,reduceIte,zA,zB,zC,zD,zE,zF,reduceCtorEq]
   refine cF (pG _) ?_
   rintro _ rfl
   simp only [aY,sl,go_sem,reduceIte,zA,zB,zC,zD,zE,zF,reduceCtorEq]
   refine aN (fun Bz => ?_) (fun Bz => ?_)
   ·simp only [aY,sl,go_sem,reduceIte,zA,zB,zC,zD,zE,zF,reduceCtorEq]
    refine cF (GL s (by have := of_decide_eq_true uO; omega)) ?_
    rintro _ rfl
    simp only [aY,sl,go_sem,reduceIte,zA,zB,zC,zD,zE,zF,reduceCtorEq]
    refine aN (fun BA => ?_) (fun BA => ?_)
    ·simp only [aY,sl,go_sem,reduceIte,zA,zB,zC,zD,zE,zF,reduceCtorEq]
     refine cF (wT) ?_
     rintro _ rfl
     simp only [aY,sl,go_sem,reduceIte,zA,zB,zC,zD,zE,zF,reduceCtorEq]
     refine cF (Bx PI s (by decide)) ?_
     rintro _ rfl
     simp only [aY,sl,go_sem,reduceIte,zA,zB,zC,zD,zE,zF,reduceCtorEq]
     exact hK _ (congrArg bl (by rw [lS]; simp_all <;> (intros; omega)))
    ·simp only [aY,sl,go_sem,reduceIte,zA,zB,zC,zD,zE,zF,reduceCtorEq]
     exact hK _ (congrArg bl (by rw [lS]; simp_all <;> (intros; omega)))
   ·simp only [aY,sl,go_sem,reduceIte,zA,zB,zC,zD,zE,zF,reduceCtorEq]
    exact hK _ (congrArg bl (by rw [lS]; simp_all <;> (intros; omega)))
  ·simp only [sl,go_sem,reduceIte,zA,zB,zC,zD,zE,zF,reduceCtorEq]
   exact hK _ (congrArg bl (by rw [lS]; simp_all <;> (intros; omega)))
 ·simp only [sl,go_sem,reduceIte,zA,zB,zC,zD,zE,zF,reduceCtorEq]
  exact hK _ (congrArg bl (by rw [lS]; simp_all <;> (intros; omega)))
theorem zi (s : ByteArray) (hs : s.size ≤ 1048576) : ∃ r_, (fun w => w = bl (mA s)) r_ ∧ aQ Tryz.prog 155 [str s] r_ := by
 refine dZ tt_ok [] 24 [.tmp 2] (fn := Tryz.f155) Tryz.func155 rfl Tryz.call155 ⟨rfl, rfl, by simp⟩ fun K hK => ?_
 have fL : Tryz.prog.underlying 9 = some .string := by kernel_rfl
 have sl : ∀ (a : ByteArray) (ty : TypeId), cI Tryz.prog (Builtin.len_ #[9] ty) [.sc (.string a)] = some (num a.size) := fun a ty => ct (P := Tryz.prog) (tt := tt) (T := 9) a fL ty
 simp only [sl,go_sem,reduceIte,zA,zB,zC,zD,zE,zF,reduceCtorEq]
 refine bx tt_ok [] [3] 0 [0] (fun vs => ((s.size : Int) - Go.Eng.intOf (vs.headD .undef)).toNat) (fun vs => ∃ i : Nat, vs = [num i] ∧ i ≤ s.size ∧ ∀ j < i, ∀ b, s[j]? = some b → sM b.toNat = true) (by omega) (by simp only [sl,go_sem,reduceIte,zA,zB,zC,zD,zE,zF,reduceCtorEq]) (⟨0, rfl, Nat.zero_le _, fun j hj => absurd hj (Nat.not_lt_zero j)⟩) fun vs hI Z1 cd => ?_
 obtain ⟨i, rfl, hi, dV⟩ := hI
 simp only [sl,go_sem,reduceIte,zA,zB,zC,zD,zE,zF,reduceCtorEq]
 refine aN (fun AS => ?_) (fun AS => ?_)
 ·have az : i < s.size := by simpa using AS
  have hw := ay i (by omega)
  obtain ⟨c, kj⟩ := bW (s := s) (i := i) az
  have cV := cL (P := Tryz.prog) s fL .i64 (i : Int) (by omega) (c := c) (show s[((i : Nat) : Int).toNat]? = some c from kj)
  simp only [hw,cV,sl,go_sem,reduceIte,zA,zB,zC,zD,zE,zF,reduceCtorEq]
  refine cF (pG _) ?_
  rintro _ rfl
  simp only [hw,cV,sl,go_sem,reduceIte,zA,zB,zC,zD,zE,zF,reduceCtorEq]
  refine aN (fun Tm => ?_) (fun Tm => ?_)
  ·simp only [hw,cV,sl,go_sem,reduceIte,zA,zB,zC,zD,zE,zF,reduceCtorEq]
   refine cF (mf _) ?_
   rintro _ rfl
   simp only [hw,cV,sl,go_sem,reduceIte,zA,zB,zC,zD,zE,zF,reduceCtorEq]
   refine aN (fun gV => ?_) (fun gV => ?_)
   ·have au : false = mA s := by unfold mA; rw [iA (p := sM) kj (by unfold sM; simp_all), Bool.and_false]
    simp only [hw,cV,sl,go_sem,reduceIte,zA,zB,zC,zD,zE,zF,reduceCtorEq]
    exact hK _ (congrArg bl au)
   ·simp only [hw,cV,sl,go_sem,reduceIte,zA,zB,zC,zD,zE,zF,reduceCtorEq]
    refine cd _ (cC (by omega) (by simp only [hw,cV,sl,go_sem,reduceIte,zA,zB,zC,zD,zE,zF,reduceCtorEq]) ?_ ?_) <;> simp only [fh,lk,reduceIte,zE]
    ·refine ⟨i + 1, rfl, az, fun j hj b hb => ?_⟩
     rcases Nat.lt_or_ge j i with h | h
     ·exact dV j h b hb
     ·obtain rfl : j = i := by omega
      rw [kj] at hb; cases hb; unfold sM; simp_all
    ·simp only [Go.Eng.intOf,List.headD_cons]; omega
  ·simp only [hw,cV,sl,go_sem,reduceIte,zA,zB,zC,zD,zE,zF,reduceCtorEq]
   refine cd _ (cC (by omega) (by simp only [hw,cV,sl,go_sem,reduceIte,zA,zB,zC,zD,zE,zF,reduceCtorEq]) ?_ ?_) <;> simp only [fh,lk,reduceIte,zE]
   ·refine ⟨i + 1, rfl, az, fun j hj b hb => ?_⟩
    rcases Nat.lt_or_ge j i with h | h
    ·exact dV j h b hb
    ·obtain rfl : j = i := by omega
     rw [kj] at hb; cases hb; unfold sM; simp_all
   ·simp only [Go.Eng.intOf,List.headD_cons]; omega
 ·have cH : ¬ i < s.size := by simpa using AS
  have aV : fZ sM s = true := jC fun j hj b hb => dV j (by omega) b hb
  have au : jD s = mA s := by unfold mA; rw [aV, Bool.and_true]
  simp only [sl,go_sem,reduceIte,zA,zB,zC,zD,zE,zF,reduceCtorEq]
  refine cF (By s) ?_
  rintro _ rfl
  simp only [sl,go_sem,reduceIte,zA,zB,zC,zD,zE,zF,reduceCtorEq]
  exact hK _ (congrArg bl au)
end Go.Proofs.YtnfeacnbgbggfaaGreatDoor
end

section
namespace Go.Proofs.YtnfeacnbgbggfaaGreatDoor
open Go.Eng
open Nat renaming reduceAdd → zA, reduceLT → zB, reduceLeDiff → zC, reduceMul → zD, reduceEqDiff → zE, reduceSub → zF
variable [aE]
set_option maxHeartbeats 4000000
set_option maxRecDepth 100000
theorem zj (t : ByteArray) : ∀ k, (∀ j < k, eC (cD t j) = true) → 0 ≤ dG t k ∧ dG t k < 10 ^ k
 | 0, _ => ⟨Int.le_refl _, by simp [dG]⟩
 | k + 1, h => by
  obtain ⟨h1, h2⟩ := zj t k fun j hj => h j (by omega)
  have h3 := h k (by omega)
  unfold eC at h3
  simp only [Bool.and_eq_true,decide_eq_true_eq] at h3
  rw [dG, Int.pow_succ]
  omega
theorem u7 {t : ByteArray} {k : Nat} (hk : k ≤ 3) (h : ∀ j < k, eC (cD t j) = true) : 0 ≤ dG t k ∧ dG t k < 1000 := by
 obtain ⟨h1, h2⟩ := zj t k h
 refine ⟨h1, Int.lt_of_lt_of_le h2 ?_⟩
 have : k = 0 ∨ k = 1 ∨ k = 2 ∨ k = 3 := by omega
 rcases this with rfl | rfl | rfl | rfl <;> decide
theorem BB {s : ByteArray} (h : qY s = true) : lz s = true ∧ 2 ≤ s.size ∧ s.size ≤ 4 := by
 unfold qY at h
 rw [pX]
 by_cases h1 : s.size < 2 <;> by_cases h2 : 4 < s.size <;> simp_all <;> omega
theorem Ic {o : List ByteArray} {z : ByteArray} {c : UInt8} (h : o[o.length - 1]? = some z) (hc : c ≠ 47) : eX o c = o.set (o.length - 1) (z ++ ⟨#[c]⟩) := by
 unfold eX; rw [if_neg hc, h]; rfl
theorem u9 {s : ByteArray} {i : Nat} {c : UInt8} (h : s[i]? = some c) : (bg s).take (i + 1) = (bg s).take i ++ [c] := by
 unfold bg; rw [List.take_add_one, jB h]; rfl
theorem zl (s : ByteArray) : ∃ r_, (fun w => w = num (if ch s = true then iH s else -1)) r_ ∧ aQ Tryz.prog 156 [str s] r_ := by
 refine dZ tt_ok [] 48 [.tmp 2] (fn := Tryz.f156) Tryz.func156 rfl Tryz.call156 ⟨rfl, rfl, by simp⟩ fun K hK => ?_
 have fL : Tryz.prog.underlying 9 = some .string := by kernel_rfl
 have sl : ∀ (a : ByteArray) (ty : TypeId), cI Tryz.prog (Builtin.len_ #[9] ty) [.sc (.string a)] = some (num a.size) := fun a ty => ct (P := Tryz.prog) (tt := tt) (T := 9) a fL ty
 have CA : Tryz.prog.underlying 5 = some (.int .u8) := by kernel_rfl
 have CB : Tryz.prog.underlying 3 = some (.int .i64) := by kernel_rfl
 have cv := fun (k : IntKind) (n : Int) => ep (P := Tryz.prog) (src := 5) (dst := 3) CA CB k n
 simp only [sl,cv,go_sem,reduceIte,zA,zB,zC,zD,zE,zF,reduceCtorEq]
 refine aN (fun kM => ?_) (fun kM => ?_)
 ·have dV : ch s = false := by rw [iG]; unfold qY; simp_all <;> (intros; omega)
  have au : -1 = if ch s = true then iH s else -1 := by rw [dV]; rfl
  simp only [sl,cv,go_sem,reduceIte,zA,zB,zC,zD,zE,zF,reduceCtorEq]
  exact hK _ (congrArg num au)
 ·simp only [sl,cv,go_sem,reduceIte,zA,zB,zC,zD,zE,zF,reduceCtorEq]
  refine aN (fun uO => ?_) (fun uO => ?_)
  ·have dV : ch s = false := by rw [iG]; unfold qY; simp_all <;> (intros; omega)
   have au : -1 = if ch s = true then iH s else -1 := by rw [dV]; rfl
   simp only [sl,cv,go_sem,reduceIte,zA,zB,zC,zD,zE,zF,reduceCtorEq]
   exact hK _ (congrArg num au)
  ·have gE : 2 ≤ s.size := by simp_all <;> omega
   obtain ⟨v0, lB⟩ := bW (s := s) (i := 0) (by omega)
   have aY := cL (P := Tryz.prog) s fL .i64 (0 : Int) (by omega) (c := v0) (show s[((0 : Nat) : Int).toNat]? = some v0 from lB)
   have V0 : cD s 0 = v0.toNat := c8 lB
   simp only [aY,sl,cv,go_sem,reduceIte,zA,zB,zC,zD,zE,zF,reduceCtorEq]
   refine aN (fun Bz => ?_) (fun Bz => ?_)
   ·have dV : ch s = false := by rw [iG]; unfold qY; simp_all <;> (intros; omega)
    have au : -1 = if ch s = true then iH s else -1 := by rw [dV]; rfl
    simp only [aY,sl,cv,go_sem,reduceIte,zA,zB,zC,zD,zE,zF,reduceCtorEq]
    exact hK _ (congrArg num au)
   ·obtain ⟨v1, My⟩ := bW (s := s) (i := 1) (by omega)
    have eW := cL (P := Tryz.prog) s fL .i64 (1 : Int) (by omega) (c := v1) (show s[((1 : Nat) : Int).toNat]? = some v1 from My)
    have re : cD s 1 = v1.toNat := c8 My
    simp only [aY,eW,sl,cv,go_sem,reduceIte,zA,zB,zC,zD,zE,zF,reduceCtorEq]
    refine aN (fun BA => ?_) (fun BA => ?_)
    ·simp only [aY,eW,sl,cv,go_sem,reduceIte,zA,zB,zC,zD,zE,zF,reduceCtorEq]
     refine aN (fun WJ => ?_) (fun WJ => ?_)
     ·have dV : ch s = false := by rw [iG]; unfold qY; simp_all <;> (intros; omega)
      have au : -1 = if ch s = true then iH s else -1 := by rw [dV]; rfl
      simp only [aY,eW,sl,cv,go_sem,reduceIte,zA,zB,zC,zD,zE,zF,reduceCtorEq]
      exact hK _ (congrArg num au)
     ·have Tn : qY s = true := by unfold qY; simp_all <;> (intros; omega)
      obtain ⟨hv, gE, ZB⟩ := BB Tn
      obtain ⟨t, ht⟩ : ∃ t, t = gg s := ⟨_, rfl⟩
      have WK : t.size = s.size - 1 := by rw [ht]; exact lU hv
      have zv : ch s = fZ eC t := by rw [iG, Tn, ht]; rfl
      simp only [aY,eW,sl,cv,go_sem,reduceIte,zA,zB,zC,zD,zE,zF,reduceCtorEq]
      refine bx tt_ok [] [4,3] 0 [0,27] (fun vs => ((s.size : Int) - Go.Eng.intOf (vs.headD .undef)).toNat) (fun vs => ∃ i : Nat, vs = [num i, num (dG t (i - 1))] ∧ 1 ≤ i ∧ i ≤ s.size ∧ ∀ j < i - 1, eC (cD t j) = true) (by omega) (by simp only [aY,eW,sl,cv,go_sem,reduceIte,zA,zB,zC,zD,zE,zF,reduceCtorEq]) (⟨1, rfl, Nat.le_refl _, by omega, fun j hj => absurd hj (Nat.not_lt_zero j)⟩) fun vs hI Z1 cd => ?_
      obtain ⟨i, rfl, nQ, hi, dV⟩ := hI
      simp only [aY,eW,sl,cv,go_sem,reduceIte,zA,zB,zC,zD,zE,zF,reduceCtorEq]
      refine aN (fun BC => ?_) (fun BC => ?_)
      ·have az : i < s.size := by simpa using BC
       have hw := ay i (by omega)
       obtain ⟨c, kj⟩ := bW (s := s) (i := i) az
       have cV := cL (P := Tryz.prog) s fL .i64 (i : Int) (by omega) (c := c) (show s[((i : Nat) : Int).toNat]? = some c from kj)
       have PK : t[i - 1]? = some c := by rw [ht, nM hv, Nat.sub_add_cancel nQ]; exact kj
       have Fb : cD t (i - 1) = c.toNat := c8 PK
       simp only [aY,eW,hw,cV,sl,cv,go_sem,reduceIte,zA,zB,zC,zD,zE,zF,reduceCtorEq]
       refine cF (mf _) ?_
       rintro _ rfl
       simp only [aY,eW,hw,cV,sl,cv,go_sem,reduceIte,zA,zB,zC,zD,zE,zF,reduceCtorEq]
       refine aN (fun jj => ?_) (fun jj => ?_)
       ·have Rn : eC (c.toNat : Int) = false := by simpa using jj
        have AH : ch s = false := by rw [zv]; exact iA PK Rn
        have au : -1 = if ch s = true then iH s else -1 := by rw [AH]; rfl
        simp only [aY,eW,hw,cV,sl,cv,go_sem,reduceIte,zA,zB,zC,zD,zE,zF,reduceCtorEq]
        exact hK _ (congrArg num au)
       ·have Ke : eC (c.toNat : Int) = true := by simpa using jj
        have Ie := Ke
        unfold eC at Ie
        simp only [Bool.and_eq_true,decide_eq_true_eq] at Ie
        obtain ⟨Rb, M9⟩ := u7 (t := t) (k := i - 1) (by omega) dV
        have hu : IntKind.u8.wrap ((c.toNat : Int) - 48) = (c.toNat : Int) - 48 := by have h := c.toNat_lt; simp only [IntKind.wrap,IntKind.bits,IntKind.signed]; simp; omega
        have sR : IntKind.i64.wrap ((c.toNat : Int) - 48) = (c.toNat : Int) - 48 := IntWalk.i64_in _ (by omega)
        have sS : IntKind.i64.wrap (10 * dG t (i - 1)) = 10 * dG t (i - 1) := IntWalk.i64_in _ (by omega)
        have A0 : IntKind.i64.wrap (10 * dG t (i - 1) + ((c.toNat : Int) - 48)) = dG t i := by
         conv => rhs; rw [show i = i - 1 + 1 by omega, dG, Fb]
         exact IntWalk.i64_in _ (by omega)
        simp only [aY,eW,hw,cV,hu,sR,sS,A0,sl,cv,go_sem,reduceIte,zA,zB,zC,zD,zE,zF,reduceCtorEq]
        refine cd _ (cC (by omega) (by simp only [aY,eW,hw,cV,hu,sR,sS,A0,sl,cv,go_sem,reduceIte,zA,zB,zC,zD,zE,zF,reduceCtorEq]) ?_ ?_) <;> simp only [fh,lk,reduceIte,zE]
        ·refine ⟨i + 1, by rw [Nat.add_sub_cancel], by omega, az, fun j hj => ?_⟩
         rw [Nat.add_sub_cancel] at hj
         rcases Nat.lt_or_ge j (i - 1) with h | h
         ·exact dV j h
         ·obtain rfl : j = i - 1 := by omega
          rw [Fb]; simpa using jj
        ·simp only [Go.Eng.intOf,List.headD_cons]; omega
      ·have cH : i = s.size := Nat.le_antisymm hi (Nat.le_of_not_lt (by simpa using BC))
       have yL : fZ eC t = true := jC fun j hj b hb => by have h := dV j (by omega); rwa [c8 hb] at h
       have au : dG t (i - 1) = if ch s = true then iH s else -1 := by
        rw [zv, yL, if_pos rfl]
        unfold iH
        rw [← ht, WK, cH]
       simp only [aY,eW,sl,cv,go_sem,reduceIte,zA,zB,zC,zD,zE,zF,reduceCtorEq]
       exact hK _ (congrArg num au)
    ·have Tn : qY s = true := by unfold qY; simp_all <;> (intros; omega)
     obtain ⟨hv, gE, ZB⟩ := BB Tn
     obtain ⟨t, ht⟩ : ∃ t, t = gg s := ⟨_, rfl⟩
     have WK : t.size = s.size - 1 := by rw [ht]; exact lU hv
     have zv : ch s = fZ eC t := by rw [iG, Tn, ht]; rfl
     simp only [aY,eW,sl,cv,go_sem,reduceIte,zA,zB,zC,zD,zE,zF,reduceCtorEq]
     refine bx tt_ok [] [4,3] 0 [0,27] (fun vs => ((s.size : Int) - Go.Eng.intOf (vs.headD .undef)).toNat) (fun vs => ∃ i : Nat, vs = [num i, num (dG t (i - 1))] ∧ 1 ≤ i ∧ i ≤ s.size ∧ ∀ j < i - 1, eC (cD t j) = true) (by omega) (by simp only [aY,eW,sl,cv,go_sem,reduceIte,zA,zB,zC,zD,zE,zF,reduceCtorEq]) (⟨1, rfl, Nat.le_refl _, by omega, fun j hj => absurd hj (Nat.not_lt_zero j)⟩) fun vs hI Z2 nw => ?_
     obtain ⟨i, rfl, nQ, hi, dV⟩ := hI
     simp only [aY,eW,sl,cv,go_sem,reduceIte,zA,zB,zC,zD,zE,zF,reduceCtorEq]
     refine aN (fun BC => ?_) (fun BC => ?_)
     ·have az : i < s.size := by simpa using BC
      have hw := ay i (by omega)
      obtain ⟨c, kj⟩ := bW (s := s) (i := i) az
      have cV := cL (P := Tryz.prog) s fL .i64 (i : Int) (by omega) (c := c) (show s[((i : Nat) : Int).toNat]? = some c from kj)
      have PK : t[i - 1]? = some c := by rw [ht, nM hv, Nat.sub_add_cancel nQ]; exact kj
      have Fb : cD t (i - 1) = c.toNat := c8 PK
      simp only [aY,eW,hw,cV,sl,cv,go_sem,reduceIte,zA,zB,zC,zD,zE,zF,reduceCtorEq]
      refine cF (mf _) ?_
      rintro _ rfl
      simp only [aY,eW,hw,cV,sl,cv,go_sem,reduceIte,zA,zB,zC,zD,zE,zF,reduceCtorEq]
      refine aN (fun jj => ?_) (fun jj => ?_)
      ·have Rn : eC (c.toNat : Int) = false := by simpa using jj
       have AH : ch s = false := by rw [zv]; exact iA PK Rn
       have au : -1 = if ch s = true then iH s else -1 := by rw [AH]; rfl
       simp only [aY,eW,hw,cV,sl,cv,go_sem,reduceIte,zA,zB,zC,zD,zE,zF,reduceCtorEq]
       exact hK _ (congrArg num au)
      ·have Ke : eC (c.toNat : Int) = true := by simpa using jj
       have Ie := Ke
       unfold eC at Ie
       simp only [Bool.and_eq_true,decide_eq_true_eq] at Ie
       obtain ⟨Rb, M9⟩ := u7 (t := t) (k := i - 1) (by omega) dV
       have hu : IntKind.u8.wrap ((c.toNat : Int) - 48) = (c.toNat : Int) - 48 := by have h := c.toNat_lt; simp only [IntKind.wrap,IntKind.bits,IntKind.signed]; simp; omega
       have sR : IntKind.i64.wrap ((c.toNat : Int) - 48) = (c.toNat : Int) - 48 := IntWalk.i64_in _ (by omega)
       have sS : IntKind.i64.wrap (10 * dG t (i - 1)) = 10 * dG t (i - 1) := IntWalk.i64_in _ (by omega)
       have A0 : IntKind.i64.wrap (10 * dG t (i - 1) + ((c.toNat : Int) - 48)) = dG t i := by
        conv => rhs; rw [show i = i - 1 + 1 by omega, dG, Fb]
        exact IntWalk.i64_in _ (by omega)
       simp only [aY,eW,hw,cV,hu,sR,sS,A0,sl,cv,go_sem,reduceIte,zA,zB,zC,zD,zE,zF,reduceCtorEq]
       refine nw _ (cC (by omega) (by simp only [aY,eW,hw,cV,hu,sR,sS,A0,sl,cv,go_sem,reduceIte,zA,zB,zC,zD,zE,zF,reduceCtorEq]) ?_ ?_) <;> simp only [fh,lk,reduceIte,zE]
       ·refine ⟨i + 1, by rw [Nat.add_sub_cancel], by omega, az, fun j hj => ?_⟩
        rw [Nat.add_sub_cancel] at hj
        rcases Nat.lt_or_ge j (i - 1) with h | h
        ·exact dV j h
        ·obtain rfl : j = i - 1 := by omega
         rw [Fb]; simpa using jj
       ·simp only [Go.Eng.intOf,List.headD_cons]; omega
     ·have cH : i = s.size := Nat.le_antisymm hi (Nat.le_of_not_lt (by simpa using BC))
      have yL : fZ eC t = true := jC fun j hj b hb => by have h := dV j (by omega); rwa [c8 hb] at h
      have au : dG t (i - 1) = if ch s = true then iH s else -1 := by
       rw [zv, yL, if_pos rfl]
       unfold iH
       rw [← ht, WK, cH]
      simp only [aY,eW,sl,cv,go_sem,reduceIte,zA,zB,zC,zD,zE,zF,reduceCtorEq]
      exact hK _ (congrArg num au)
end Go.Proofs.YtnfeacnbgbggfaaGreatDoor
end

section
namespace Go.Proofs.YtnfeacnbgbggfaaGreatDoor
open Go.Eng
open Nat renaming reduceAdd → zA, reduceLT → zB, reduceLeDiff → zC, reduceMul → zD, reduceEqDiff → zE, reduceSub → zF
variable [aE]
set_option maxHeartbeats 4000000
set_option maxRecDepth 100000
theorem Lq (c : UInt8) : strOfNums [(c.toNat : Int)] = ⟨#[c]⟩ := oS [c]
theorem EP {s : ByteArray} {i : Nat} {c : UInt8} {xs : List ByteArray} {y : ByteArray} (hc : s[i]? = some c) (hx : eY ((bg s).take i) = xs ++ [y]) (h : (c.toNat : Int) = 47) : eY ((bg s).take (i + 1)) = (xs ++ [y]) ++ [⟨#[]⟩] := by
 have e : c = 47 := UInt8.toNat_inj.1 (by rw [show (47 : UInt8).toNat = 47 from rfl]; omega)
 rw [u9 hc, oX, hx, e]; rfl
theorem Ig {s : ByteArray} {i : Nat} {c : UInt8} {xs : List ByteArray} {y : ByteArray} (hc : s[i]? = some c) (hx : eY ((bg s).take i) = xs ++ [y]) (h : ¬ (c.toNat : Int) = 47) : eY ((bg s).take (i + 1)) = xs ++ [y ++ ⟨#[c]⟩] := by
 have e : c ≠ 47 := fun e => h (by rw [e]; rfl)
 rw [u9 hc, oX, hx, Ic (z := y) (by simp) e]
 simp
theorem Ih {s : ByteArray} (h : bB s = true) : ∃ j : Nat, j < s.size ∧ s[j]? = some 47 := by
 unfold bB at h
 simp only [Bool.and_eq_true,decide_eq_true_eq] at h
 obtain ⟨⟨-, h2⟩, -⟩ := h
 rw [ed] at h2
 have hc : Lib.countB s ⟨#[47]⟩ = s.data.toList.count 47 := by
  unfold Lib.countB
  exact Lib.count_one 47 s.data.toList
 have hm : (47 : UInt8) ∈ s.data.toList := List.count_pos_iff.1 (by omega)
 obtain ⟨j, hj⟩ := List.mem_iff_getElem?.1 hm
 have qb : j < s.size := by have := (List.getElem?_eq_some_iff.1 hj).1; simpa using this
 obtain ⟨c, kj⟩ := bW qb
 have := jB kj
 rw [hj] at this; cases this
 exact ⟨j, qb, kj⟩
theorem BD (s : ByteArray) : 0 < (pieces s).length := by rw [ed]; omega
theorem BE {s z : ByteArray} (h : z ∈ pieces s) : z.size ≤ s.size := by
 have key : ∀ (l : List UInt8) (o : List ByteArray) (n : Nat), (∀ x ∈ o, x.size ≤ n) → ∀ x ∈ l.foldl eX o, x.size ≤ n + l.length := by
  intro l
  induction l with
  | nil => intro o n h x hx; simpa using h x hx
  | cons b l ih =>
   intro o n h x hx
   rw [List.foldl_cons] at hx
   have := ih (eX o b) (n + 1) (fun y hy => by
    unfold eX at hy
    split at hy
    ·rcases List.mem_append.1 hy with hy | hy
     ·exact Nat.le_succ_of_le (h y hy)
     ·rw [List.mem_singleton.1 hy]; exact Nat.zero_le _
    ·rcases List.mem_or_eq_of_mem_set hy with hy | hy
     ·exact Nat.le_succ_of_le (h y hy)
     ·rw [hy, ByteArray.size_append]
      have hs : (⟨#[b]⟩ : ByteArray).size = 1 := rfl
      have : ((o[o.length - 1]?).getD ⟨#[]⟩).size ≤ n := by
       cases hq : o[o.length - 1]? with
       | none => exact Nat.zero_le _
       | some q => exact h q (List.mem_of_getElem? hq)
      omega) x hx
   rw [List.length_cons]; omega
 rw [← lT] at h
 have := key (bg s) [⟨#[]⟩] 0 (fun x hx => by rw [List.mem_singleton.1 hx]; exact Nat.zero_le _) z h
 rw [Nat.zero_add] at this
 exact this
theorem wU {z : ByteArray} (h : ch z = true) : 0 ≤ iH z := by
 rw [iG] at h
 simp only [Bool.and_eq_true] at h
 obtain ⟨-, -, h4⟩ := BB h.1
 exact (nu h.2 _ (Nat.le_refl _)).1
theorem Ii (s : ByteArray) (hs : s.size ≤ 1048576) : ∃ r_, (fun w => w = .slice ((pieces s).map str)) r_ ∧ aQ Tryz.prog 154 [str s] r_ := by
 refine dZ tt_ok [] 37 [.tmp 2] (fn := Tryz.f154) Tryz.func154 rfl Tryz.call154 ⟨rfl, rfl, by simp⟩ fun K hK => ?_
 have fL : Tryz.prog.underlying 9 = some .string := by kernel_rfl
 have sl : ∀ (a : ByteArray) (ty : TypeId), cI Tryz.prog (Builtin.len_ #[9] ty) [.sc (.string a)] = some (num a.size) := fun a ty => ct (P := Tryz.prog) (tt := tt) (T := 9) a fL ty
 have IT := fun (n : Int) => xi (P := Tryz.prog) (mem := []) (s := 159) (d := 9) (e := 5) (rows := [.sc (.int .u8 n)]) (ns := [n]) (by kernel_rfl) (by kernel_rfl) fL rfl
 have tz : ∀ c : Int, (strOfNums [c]).size = 1 := fun c => rfl
 simp only [sl,IT,go_sem,reduceIte,zA,zB,zC,zD,zE,zF,reduceCtorEq]
 refine cY tt_ok [] (fun a : Nat × Nat × List ByteArray × ByteArray => [(0, str s), (3, .ms 0 a.2.1 0 (a.2.1 + 1)), (4, num a.1)]) (fun a : Nat × Nat × List ByteArray × ByteArray => [.rows a.2.1 1 ((a.2.2.1 ++ [a.2.2.2]).map str)]) (fun a => s.size - a.1) (fun a => a.1 ≤ s.size ∧ a.2.2.1.length = a.2.1 ∧ a.2.1 ≤ a.1 ∧ a.2.2.2.size ≤ a.1 ∧ (∀ x ∈ a.2.2.1, x.size ≤ s.size) ∧ eY ((bg s).take a.1) = a.2.2.1 ++ [a.2.2.2]) ((0, 0, [], ⟨#[]⟩)) 1 (bj (by omega) (by simp only [sl,IT,List.map_cons,List.map_nil,List.nil_append,Int.cast_ofNat_Int,go_sem,reduceIte,zA,zB,zC,zD,zE,zF,reduceCtorEq] <;> rfl)) (⟨Nat.zero_le _, rfl, Nat.le_refl _, Nat.le_refl _, (fun x hx => by cases hx), rfl⟩) ?_
 rintro ⟨i, k, xs, y⟩ ⟨hi, xu, UU, ZC, aV, Lr⟩
 try dsimp only at hi xu UU ZC aV Lr
 try dsimp only
 intro Z1 cd
 simp only [sl,IT,go_sem,reduceIte,zA,zB,zC,zD,zE,zF,reduceCtorEq]
 refine aN (fun ga => ?_) (fun ga => ?_)
 ·have az : i < s.size := by simpa using ga
  have hw := ay i (by omega)
  obtain ⟨c, kj⟩ := bW (s := s) (i := i) az
  have cV := cL (P := Tryz.prog) s fL .i64 (i : Int) (by omega) (c := c) (show s[((i : Nat) : Int).toNat]? = some c from kj)
  have eu : IntKind.i64.wrap (((k + 1 : Nat) : Int) - 1) = ((k : Nat) : Int) := jA _ k (by omega) (by omega)
  have fC : ((k : Nat) : Int) < ((k + 1 : Nat) : Int) := by omega
  have Uh : (xs ++ [y])[k]? = some y := by rw [List.getElem?_append_right (by omega), xu, Nat.sub_self]; rfl
  have eO : k + 1 + 1 ≤ 34359738368 := by omega
  have CH := fun a b => om Tryz.prog 9 a b y (strOfNums [(c.toNat : Int)]) (by rw [tz, show IntKind.i64.max = 9223372036854775807 from rfl]; omega)
  simp only [hw,cV,eu,fC,eO,xu,List.getElem?_map,Uh,CH,List.length_map,List.length_append,List.length_cons,List.length_nil,Nat.zero_add,sl,IT,go_sem,reduceIte,zA,zB,zC,zD,zE,zF,reduceCtorEq]
  refine aN (fun ly => ?_) (fun ly => ?_)
  ·let nv : Nat × Nat × List ByteArray × ByteArray := (i + 1, k + 1, xs ++ [y], ⟨#[]⟩)
   have Ij : ∀ x ∈ nv.2.2.1, x.size ≤ s.size := fun x hx => by
    rcases List.mem_append.1 hx with h | h
    ·exact aV x h
    ·rw [List.mem_singleton.1 h]; omega
   have Ik : eY ((bg s).take nv.1) = nv.2.2.1 ++ [nv.2.2.2] := EP kj Lr (by simpa using ly)
   simp only [hw,cV,eu,fC,eO,xu,List.getElem?_map,Uh,CH,List.length_map,List.length_append,List.length_cons,List.length_nil,Nat.zero_add,sl,IT,go_sem,reduceIte,zA,zB,zC,zD,zE,zF,reduceCtorEq]
   refine cd _ ⟨nv, ?_, ?_, bj (by omega) (by (simp [nv, my, lk, bz, bR, ai, aB, List.map_append]; first | done | (rw [List.set_append_right _ _ (by rw [List.length_map]; omega), List.length_map, xu, Nat.sub_self]; rfl)))⟩
   ·refine ⟨az, ?_, ?_, ?_, ?_⟩
    ·dsimp only [nv]; first | exact xu | (rw [List.length_append, xu]; rfl)
    ·dsimp only [nv]; omega
    ·dsimp only [nv]; first | exact Nat.zero_le _ | (rw [ByteArray.size_append, tz]; omega)
    ·exact ⟨Ij, Ik⟩
   ·dsimp only [nv]; omega
  ·let nv : Nat × Nat × List ByteArray × ByteArray := (i + 1, k, xs, y ++ strOfNums [(c.toNat : Int)])
   have Ij : ∀ x ∈ nv.2.2.1, x.size ≤ s.size := aV
   have Ik : eY ((bg s).take nv.1) = nv.2.2.1 ++ [nv.2.2.2] := by show _ = xs ++ [y ++ strOfNums [(c.toNat : Int)]]; rw [Lq]; exact Ig kj Lr (by simpa using ly)
   simp only [hw,cV,eu,fC,eO,xu,List.getElem?_map,Uh,CH,List.length_map,List.length_append,List.length_cons,List.length_nil,Nat.zero_add,sl,IT,go_sem,reduceIte,zA,zB,zC,zD,zE,zF,reduceCtorEq]
   refine bu tt_ok aG [⟨.n, 0, [], [], []⟩, ⟨.n, 0, [], [], []⟩, ⟨.n, 0, [], [], []⟩, ⟨.n, 0, [], [], []⟩, ⟨.n, 0, [], [], []⟩, ⟨.n, 0, [], [], []⟩, ⟨.n, 0, [], [], []⟩, ⟨.n, 0, [], [], []⟩, ⟨.r, 0, [], [], []⟩, ⟨.r, 0, [], [], []⟩, ⟨.n, 0, [], [], []⟩, ⟨.n, 0, [], [], []⟩, ⟨.n, 0, [], [], []⟩, ⟨.n, 0, [], [], []⟩, ⟨.n, 0, [], [], []⟩, ⟨.n, 0, [], [], []⟩, ⟨.r, 0, [], [], []⟩, ⟨.w, 0, [], [], []⟩] 1 (by kernel_rfl) ?_
   simp only [hw,cV,eu,fC,eO,xu,List.getElem?_map,Uh,CH,List.length_map,List.length_append,List.length_cons,List.length_nil,Nat.zero_add,sl,IT,go_sem,reduceIte,zA,zB,zC,zD,zE,zF,reduceCtorEq]
   refine cd _ ⟨nv, ?_, ?_, bj (by omega) (by (simp [nv, my, lk, bz, bR, ai, aB, List.map_append]; first | done | (rw [List.set_append_right _ _ (by rw [List.length_map]; omega), List.length_map, xu, Nat.sub_self]; rfl)))⟩
   ·refine ⟨az, ?_, ?_, ?_, ?_⟩
    ·dsimp only [nv]; first | exact xu | (rw [List.length_append, xu]; rfl)
    ·dsimp only [nv]; omega
    ·dsimp only [nv]; first | exact Nat.zero_le _ | (rw [ByteArray.size_append, tz]; omega)
    ·exact ⟨Ij, Ik⟩
   ·dsimp only [nv]; omega
 ·have cH : ¬ i < s.size := by simpa using ga
  have kr : pieces s = xs ++ [y] := by rw [← lT, ← Lr, List.take_of_length_le]; exact Nat.le_of_not_lt cH
  simp only [sl,IT,go_sem,reduceIte,zA,zB,zC,zD,zE,zF,reduceCtorEq]
  exact Gx (by simp [xu]) (hK _ (by rw [kr]))
theorem va (s : ByteArray) (hs : s.size ≤ 1048576) : ∃ r_, (fun w => w = .bP [num (bN s), num (bC s)]) r_ ∧ aQ Tryz.prog 133 [str s] r_ := by
 refine dZ tt_ok [] 39 [.tmp 2, .tmp 3] (fn := Tryz.f133) Tryz.func133 rfl Tryz.call133 ⟨rfl, rfl, by simp⟩ fun K hK => ?_
 have fL : Tryz.prog.underlying 9 = some .string := by kernel_rfl
 have sl : ∀ (a : ByteArray) (ty : TypeId), cI Tryz.prog (Builtin.len_ #[9] ty) [.sc (.string a)] = some (num a.size) := fun a ty => ct (P := Tryz.prog) (tt := tt) (T := 9) a fL ty
 simp only [sl,List.length_map,go_sem,reduceIte,zA,zB,zC,zD,zE,zF,reduceCtorEq]
 refine aN (fun ga => ?_) (fun ga => ?_)
 ·have dV : bB s = false := by unfold bB; simp_all <;> (intros; omega)
  simp only [sl,List.length_map,go_sem,reduceIte,zA,zB,zC,zD,zE,zF,reduceCtorEq]
  refine hK _ ?_
  first
   | (unfold bN bC; rw [dV]; rfl)
   | (unfold bN bC; rw [bK, nU]; simp_all; done)
   | (unfold bN bC; rw [bK, nU]; simp_all; rfl)
 ·simp only [sl,List.length_map,go_sem,reduceIte,zA,zB,zC,zD,zE,zF,reduceCtorEq]
  refine cF (Ii s (by omega)) ?_
  rintro _ rfl
  obtain ⟨P, hP⟩ : ∃ P, P = pieces s := ⟨_, rfl⟩
  have V1 := uQ s
  have V2 := BD s
  have ZD : ∀ x ∈ P, x.size ≤ s.size := fun x hx => BE (hP ▸ hx)
  rw [← hP]
  rw [← hP] at V1 V2
  obtain ⟨z, hz⟩ : ∃ z, P[P.length - 1]? = some z := ⟨_, List.getElem?_eq_getElem (by omega)⟩
  have nU : uP s = z := yM (by rw [← hP]; exact hz)
  have eu : IntKind.i64.wrap ((P.length : Int) - 1) = ((P.length - 1 : Nat) : Int) := jA _ _ (by omega) (by omega)
  simp only [List.getElem?_map,hz,eu,sl,List.length_map,go_sem,reduceIte,zA,zB,zC,zD,zE,zF,reduceCtorEq]
  refine bx tt_ok [] [5] 0 [4,9] (fun vs => ((P.length : Int) - Go.Eng.intOf (vs.headD .undef)).toNat) (fun vs => ∃ i : Nat, vs = [num i] ∧ i ≤ P.length ∧ ∀ j < i, ∀ x, P[j]? = some x → mA x = true) (by omega) (by simp only [List.getElem?_map,hz,eu,sl,List.length_map,go_sem,reduceIte,zA,zB,zC,zD,zE,zF,reduceCtorEq]) (⟨0, rfl, Nat.zero_le _, fun j hj => absurd hj (Nat.not_lt_zero j)⟩) fun vs hI Z1 cd => ?_
  obtain ⟨i, rfl, hi, aV⟩ := hI
  simp only [List.getElem?_map,hz,eu,sl,List.length_map,go_sem,reduceIte,zA,zB,zC,zD,zE,zF,reduceCtorEq]
  refine aN (fun ly => ?_) (fun ly => ?_)
  ·have az : i < P.length := by simpa using ly
   have hw := ay i (by omega)
   obtain ⟨x, hx⟩ : ∃ x, P[i]? = some x := ⟨_, List.getElem?_eq_getElem az⟩
   simp only [List.getElem?_map,hz,eu,hw,hx,sl,List.length_map,go_sem,reduceIte,zA,zB,zC,zD,zE,zF,reduceCtorEq]
   refine cF (zi x (by have := ZD x (List.mem_of_getElem? hx); omega)) ?_
   rintro _ rfl
   simp only [List.getElem?_map,hz,eu,hw,hx,sl,List.length_map,go_sem,reduceIte,zA,zB,zC,zD,zE,zF,reduceCtorEq]
   refine aN (fun iI => ?_) (fun iI => ?_)
   ·have dV : bB s = false := by
     have ha : P.all mA = false := A1 hx (by simpa using iI)
     unfold bB; rw [← hP, ha]; simp
    simp only [List.getElem?_map,hz,eu,hw,hx,sl,List.length_map,go_sem,reduceIte,zA,zB,zC,zD,zE,zF,reduceCtorEq]
    refine hK _ ?_
    first
     | (unfold bN bC; rw [dV]; rfl)
     | (unfold bN bC; rw [bK, nU]; simp_all; done)
     | (unfold bN bC; rw [bK, nU]; simp_all; rfl)
   ·simp only [List.getElem?_map,hz,eu,hw,hx,sl,List.length_map,go_sem,reduceIte,zA,zB,zC,zD,zE,zF,reduceCtorEq]
    refine cd _ (cC (by omega) (by simp only [List.getElem?_map,hz,eu,hw,hx,sl,List.length_map,go_sem,reduceIte,zA,zB,zC,zD,zE,zF,reduceCtorEq]) ?_ ?_) <;> simp only [fh,lk,reduceIte,zE]
    ·refine ⟨i + 1, rfl, az, fun j hj => ?_⟩
     rcases Nat.lt_or_ge j i with h | h
     ·exact aV j h
     ·obtain rfl : j = i := by omega
      intro y hy
      rw [hx] at hy; cases hy; simpa using iI
    ·simp only [Go.Eng.intOf,List.headD_cons]; omega
  ·have cH : ¬ i < P.length := by simpa using ly
   have ha : P.all mA = true := G0 fun j hj => aV j (by omega)
   simp only [List.getElem?_map,hz,eu,sl,List.length_map,go_sem,reduceIte,zA,zB,zC,zD,zE,zF,reduceCtorEq]
   refine cF (zl z) ?_
   rintro _ rfl
   simp only [List.getElem?_map,hz,eu,sl,List.length_map,go_sem,reduceIte,zA,zB,zC,zD,zE,zF,reduceCtorEq]
   refine aN (fun PL => ?_) (fun PL => ?_)
   ·have dV : bB s = false := by
     unfold bB; rw [nU, ← hP]
     by_cases hv : ch z = true
     ·have := wU hv; simp_all; omega
     ·simp [hv]
    simp only [List.getElem?_map,hz,eu,sl,List.length_map,go_sem,reduceIte,zA,zB,zC,zD,zE,zF,reduceCtorEq]
    refine hK _ ?_
    first
     | (unfold bN bC; rw [dV]; rfl)
     | (unfold bN bC; rw [bK, nU]; simp_all; done)
     | (unfold bN bC; rw [bK, nU]; simp_all; rfl)
   ·simp only [List.getElem?_map,hz,eu,sl,List.length_map,go_sem,reduceIte,zA,zB,zC,zD,zE,zF,reduceCtorEq]
    refine aN (fun qU => ?_) (fun qU => ?_)
    ·have dV : bB s = false := by
      unfold bB; rw [nU, ← hP]
      by_cases hv : ch z = true
      ·have := wU hv; simp_all; omega
      ·simp [hv]
     simp only [List.getElem?_map,hz,eu,sl,List.length_map,go_sem,reduceIte,zA,zB,zC,zD,zE,zF,reduceCtorEq]
     refine hK _ ?_
     first
      | (unfold bN bC; rw [dV]; rfl)
      | (unfold bN bC; rw [bK, nU]; simp_all; done)
      | (unfold bN bC; rw [bK, nU]; simp_all; rfl)
    ·have ZE : ch z = true := by
      by_cases hv : ch z = true
      ·exact hv
      ·exfalso; simp_all
     have bK : bB s = true := by unfold bB; rw [nU, ← hP, ha, ZE]; simp_all; omega
     simp only [List.getElem?_map,hz,eu,sl,List.length_map,go_sem,reduceIte,zA,zB,zC,zD,zE,zF,reduceCtorEq]
     refine hK _ ?_
     first
      | (unfold bN bC; rw [dV]; rfl)
      | (unfold bN bC; rw [bK, nU]; simp_all; done)
      | (unfold bN bC; rw [bK, nU]; simp_all; rfl)
theorem BF (s : ByteArray) (hs : s.size ≤ 1048576) : ∃ r_, (fun w => w = bl (bB s)) r_ ∧ aQ Tryz.prog 132 [str s] r_ := by
 refine dZ tt_ok [] 12 [.tmp 2] (fn := Tryz.f132) Tryz.func132 rfl Tryz.call132 ⟨rfl, rfl, by simp⟩ fun K hK => ?_
 simp only [go_sem,reduceIte,zA,zB,zC,zD,zE,zF,reduceCtorEq]
 refine cF (va s hs) ?_
 rintro _ rfl
 simp only [go_sem,reduceIte,zA,zB,zC,zD,zE,zF,reduceCtorEq]
 exact hK _ (congrArg bl (by unfold bC; by_cases h : bB s = true <;> simp [h]))
end Go.Proofs.YtnfeacnbgbggfaaGreatDoor
end

section
namespace Go.Proofs.YtnfeacnbgbggfaaGreatDoor
open Go.Eng
open Nat renaming reduceAdd → zA, reduceLT → zB, reduceLeDiff → zC, reduceMul → zD, reduceEqDiff → zE, reduceSub → zF
variable [aE]
set_option maxHeartbeats 4000000
set_option maxRecDepth 100000
theorem pY (T : TypeId) (x y : Operand) (a b : ByteArray) : aS Tryz.prog (fI .gtr T x y) (str a) (str b) = some (bl (!Op.bytesLess a.toList b.toList && !decide (a = b))) := by
 simp [aS, bw, fI, binOp, Op.stringOp, eqGuard, aF, dF, bind, pure, Sem.bind, aJ]
theorem Ls {a b : ByteArray} (h : jO a b = false) (hn : a ≠ b) : km a b = 1 := by unfold km; rw [h, if_neg (by simp), if_neg hn]
theorem Lt {a b : ByteArray} (h : jO a b = false) (hn : a = b) : km a b = 0 := by unfold km; rw [h, if_neg (by simp), if_pos hn]
theorem C7 {a b : ByteArray} (h : jO a b = true) : km a b = -1 := by unfold km; rw [h]; rfl
theorem Rl.tA {a b : Rl} {n : Int} (h : km a.path b.path = n) (hn : n ≠ 0) : a.cmp b = n := by unfold Rl.cmp; rw [h, if_pos hn]
theorem Rl.Lu {a b : Rl} (h : km a.path b.path = 0) : a.cmp b = a.aA.cmp b.aA := by unfold Rl.cmp; rw [h]; rfl
theorem Il (s : ByteArray) (hs : s.size ≤ 1048576) : ∃ r_, (fun w => ∃ nm : ByteArray, w = .bP [str nm, num (bN s), num (bC s)]) r_ ∧ aQ Tryz.prog 108 [str s] r_ := by
 refine dZ tt_ok [] 31 [.tmp 2, .tmp 3, .tmp 4] (fn := Tryz.f108) Tryz.func108 rfl Tryz.call108 ⟨rfl, rfl, by simp⟩ fun K hK => ?_
 have fL : Tryz.prog.underlying 9 = some .string := by kernel_rfl
 have sl : ∀ (a : ByteArray) (ty : TypeId), cI Tryz.prog (Builtin.len_ #[9] ty) [.sc (.string a)] = some (num a.size) := fun a ty => ct (P := Tryz.prog) (tt := tt) (T := 9) a fL ty
 simp only [sl,go_sem,reduceIte,zA,zB,zC,zD,zE,zF,reduceCtorEq]
 refine cF (BF s hs) ?_
 rintro _ rfl
 simp only [sl,go_sem,reduceIte,zA,zB,zC,zD,zE,zF,reduceCtorEq]
 refine aN (fun dp => ?_) (fun dp => ?_)
 ·have dV : bB s = false := by simp_all
  have e1 : bN s = 0 := by unfold bN; rw [dV]; rfl
  have e2 : bC s = 4 := by unfold bC; rw [dV]; rfl
  simp only [sl,go_sem,reduceIte,zA,zB,zC,zD,zE,zF,reduceCtorEq]
  first
   | exact hK _ ⟨⟨#[]⟩, by rw [e1, e2] <;> rfl⟩
   | exact hK _ ⟨_, by rw [e2] <;> rfl⟩
 ·have bK : bB s = true := by simpa using dp
  have e2 : bC s = 0 := by unfold bC; rw [bK]; rfl
  obtain ⟨j0, ZF, ZG⟩ := Ih bK
  have Mz : IntKind.i64.wrap ((s.size : Int) - 1) = (s.size : Int) - 1 := IntWalk.i64_in _ (by omega)
  simp only [Mz,sl,go_sem,reduceIte,zA,zB,zC,zD,zE,zF,reduceCtorEq]
  refine cF (va s hs) ?_
  rintro _ rfl
  simp only [Mz,sl,go_sem,reduceIte,zA,zB,zC,zD,zE,zF,reduceCtorEq]
  refine aN (fun lE => ?_) (fun lE => ?_)
  ·(rw [e2] at lE; simp at lE)
  ·simp only [Mz,sl,go_sem,reduceIte,zA,zB,zC,zD,zE,zF,reduceCtorEq]
   refine bx tt_ok [] [7] 0 [0,2,3,4,5,10,17] (fun vs => (Go.Eng.intOf (vs.headD .undef)).toNat) (fun vs => ∃ i : Nat, vs = [num i] ∧ i < s.size ∧ ∃ j : Nat, j ≤ i ∧ s[j]? = some 47) (by omega) (by simp only [Mz,sl,go_sem,reduceIte,zA,zB,zC,zD,zE,zF,reduceCtorEq]) (⟨s.size - 1, by rw [Int.ofNat_sub (by omega)]; rfl, by omega, j0, by omega, ZG⟩) fun vs hI Z1 cd => ?_
   obtain ⟨i, rfl, hi, j, hj, PM⟩ := hI
   obtain ⟨c, kj⟩ := bW (s := s) (i := i) hi
   have cV := cL (P := Tryz.prog) s fL .i64 (i : Int) (by omega) (c := c) (show s[((i : Nat) : Int).toNat]? = some c from kj)
   simp only [Mz,cV,sl,go_sem,reduceIte,zA,zB,zC,zD,zE,zF,reduceCtorEq]
   refine aN (fun oP => ?_) (fun oP => ?_)
   ·have bL : ¬ (c.toNat : Int) = 47 := by simpa using oP
    have rP : j ≠ i := fun e => by subst e; rw [kj] at PM; cases PM; exact bL rfl
    have hw : IntKind.i64.wrap ((i : Int) - 1) = ((i - 1 : Nat) : Int) := jA _ _ (by omega) (by omega)
    simp only [Mz,cV,hw,sl,go_sem,reduceIte,zA,zB,zC,zD,zE,zF,reduceCtorEq]
    refine cd _ (cC (by omega) (by simp only [Mz,cV,hw,sl,go_sem,reduceIte,zA,zB,zC,zD,zE,zF,reduceCtorEq]) ?_ ?_) <;> simp only [fh,lk,reduceIte,zE]
    ·exact ⟨i - 1, rfl, by omega, j, by omega, PM⟩
    ·simp only [Go.Eng.intOf,List.headD_cons]; omega
   ·have Oz : aS Tryz.prog (fun a h => Instr.sliceAt 9 a none (some h) none) (.sc (.string s)) (.sc (.int .i64 (i : Int))) = some (.sc (.string (s.extract 0 (i : Int).toNat))) := xL (P := Tryz.prog) (tt := tt) (mem := []) (T := 9) s fL .i64 (i : Int) (by omega) (by omega)
    simp only [Mz,cV,Oz,sl,go_sem,reduceIte,zA,zB,zC,zD,zE,zF,reduceCtorEq]
    first
     | exact hK _ ⟨⟨#[]⟩, by rw [e1, e2] <;> rfl⟩
     | exact hK _ ⟨_, by rw [e2] <;> rfl⟩
theorem Im (a b : er) : ∃ r_, (fun w => w = num (a.cmp b)) r_ ∧ aQ Tryz.prog 120 [bM a, bM b] r_ := by
 refine dZ tt_ok [] 44 [.tmp 4] (fn := Tryz.f120) Tryz.func120 rfl Tryz.call120 ⟨rfl, rfl, by simp⟩ fun K hK => ?_
 simp only [bM]
 simp only [go_sem,reduceIte,zA,zB,zC,zD,zE,zF,reduceCtorEq]
 refine bx tt_ok [] [7] 4 [5,6] (fun vs => ((3 : Int) - Go.Eng.intOf (vs.headD .undef)).toNat) (fun vs => ∃ i : Nat, vs = [num i] ∧ i ≤ 3 ∧ ∀ j < i, fk (a.part j) (b.part j) = 0) (by omega) (by simp only [go_sem,reduceIte,zA,zB,zC,zD,zE,zF,reduceCtorEq]) (⟨0, rfl, Nat.zero_le _, fun j hj => absurd hj (Nat.not_lt_zero j)⟩) fun vs hI Z1 cd => ?_
 obtain ⟨i, rfl, hi, aV⟩ := hI
 simp only [go_sem,reduceIte,zA,zB,zC,zD,zE,zF,reduceCtorEq]
 refine aN (fun iI => ?_) (fun iI => ?_)
 ·have az : i < 3 := by have := of_decide_eq_true iI; omega
  rw [iI]
  have cP : (i : Int) < 3 := by omega
  have hw := ay i (by omega)
  have MA := a.Sl i az
  have MB := b.Sl i az
  have sY : ((3 : Nat) : Int) = 3 := rfl
  simp only [hw,cP,MA,MB,sY,Int.natCast_nonneg,Int.toNat_natCast,go_sem,reduceIte,zA,zB,zC,zD,zE,zF,reduceCtorEq]
  refine bu tt_ok aG [⟨.n, 0, [], [], []⟩, ⟨.n, 0, [], [], []⟩, ⟨.r, 0, [], [], []⟩, ⟨.r, 0, [], [], []⟩, ⟨.n, 0, [], [], []⟩, ⟨.n, 0, [], [], []⟩, ⟨.r, 0, [], [], []⟩, ⟨.r, 0, [], [], []⟩, ⟨.n, 0, [], [], []⟩] 0 (by kernel_rfl) ?_
  simp only [hw,cP,MA,MB,sY,Int.natCast_nonneg,Int.toNat_natCast,go_sem,reduceIte,zA,zB,zC,zD,zE,zF,reduceCtorEq]
  refine aN (fun EL => ?_) (fun EL => ?_)
  ·have To : fk (a.part i) (b.part i) = -1 := by unfold fk; simp_all
   have au : -1 = a.cmp b := by rw [er.AU az aV (by rw [To]; decide), To]
   simp only [hw,cP,MA,MB,sY,Int.natCast_nonneg,Int.toNat_natCast,go_sem,reduceIte,zA,zB,zC,zD,zE,zF,reduceCtorEq]
   exact hK _ (congrArg num au)
  ·simp only [hw,cP,MA,MB,sY,Int.natCast_nonneg,Int.toNat_natCast,go_sem,reduceIte,zA,zB,zC,zD,zE,zF,reduceCtorEq]
   refine bu tt_ok aG [⟨.n, 0, [], [], []⟩, ⟨.n, 0, [], [], []⟩, ⟨.r, 0, [], [], []⟩, ⟨.r, 0, [], [], []⟩, ⟨.n, 0, [], [], []⟩, ⟨.n, 0, [], [], []⟩, ⟨.r, 0, [], [], []⟩, ⟨.r, 0, [], [], []⟩, ⟨.n, 0, [], [], []⟩] 0 (by kernel_rfl) ?_
   simp only [hw,cP,MA,MB,sY,Int.natCast_nonneg,Int.toNat_natCast,go_sem,reduceIte,zA,zB,zC,zD,zE,zF,reduceCtorEq]
   refine aN (fun Tp => ?_) (fun Tp => ?_)
   ·have To : fk (a.part i) (b.part i) = 1 := by unfold fk; simp_all
    have au : 1 = a.cmp b := by rw [er.AU az aV (by rw [To]; decide), To]
    simp only [hw,cP,MA,MB,sY,Int.natCast_nonneg,Int.toNat_natCast,go_sem,reduceIte,zA,zB,zC,zD,zE,zF,reduceCtorEq]
    exact hK _ (congrArg num au)
   ·simp only [hw,cP,MA,MB,sY,Int.natCast_nonneg,Int.toNat_natCast,go_sem,reduceIte,zA,zB,zC,zD,zE,zF,reduceCtorEq]
    refine cd _ (cC (by omega) (by simp only [hw,cP,MA,MB,sY,Int.natCast_nonneg,Int.toNat_natCast,go_sem,reduceIte,zA,zB,zC,zD,zE,zF,reduceCtorEq]) ?_ ?_) <;> simp only [fh,lk,reduceIte,zE]
    ·refine ⟨i + 1, rfl, az, fun j hj => ?_⟩
     rcases Nat.lt_or_ge j i with h | h
     ·exact aV j h
     ·obtain rfl : j = i := by omega
      unfold fk
      have h1 := of_decide_eq_false EL; have h2 := of_decide_eq_false Tp
      rw [if_neg h1, if_neg h2]
    ·simp only [Go.Eng.intOf,List.headD_cons]; omega
 ·have cH : i = 3 := by have := of_decide_eq_false iI; omega
  subst cH
  have au : 0 = a.cmp b := (er.cmp_eq aV).symm
  simp only [go_sem,reduceIte,zA,zB,zC,zD,zE,zF,reduceCtorEq]
  exact hK _ (congrArg num au)
theorem lV (a b : Rl) : ∃ r_, (fun w => w = num (a.cmp b)) r_ ∧ aQ Tryz.prog 90 [ag a, ag b] r_ := by
 refine dZ tt_ok [] 20 [.tmp 4] (fn := Tryz.f90) Tryz.func90 rfl Tryz.call90 ⟨rfl, rfl, by simp⟩ fun K hK => ?_
 simp only [ag,ab]
 simp only [pY,go_sem,reduceIte,zA,zB,zC,zD,zE,zF,reduceCtorEq]
 refine aN (fun ga => ?_) (fun ga => ?_)
 ·have au : -1 = a.cmp b := (Rl.tA (C7 (by unfold jO; simpa using ga)) (by decide)).symm
  simp only [pY,go_sem,reduceIte,zA,zB,zC,zD,zE,zF,reduceCtorEq]
  exact hK _ (congrArg num au)
 ·simp only [pY,go_sem,reduceIte,zA,zB,zC,zD,zE,zF,reduceCtorEq]
  refine aN (fun cX => ?_) (fun cX => ?_)
  ·have au : 1 = a.cmp b := (Rl.tA (Ls (by unfold jO; simpa using ga) (by simp_all)) (by decide)).symm
   simp only [pY,go_sem,reduceIte,zA,zB,zC,zD,zE,zF,reduceCtorEq]
   exact hK _ (congrArg num au)
  ·have au : a.aA.cmp b.aA = a.cmp b := (Rl.Lu (Lt (by unfold jO; simpa using ga) (by simp_all))).symm
   simp only [pY,go_sem,reduceIte,zA,zB,zC,zD,zE,zF,reduceCtorEq]
   refine cF (by have h := Im a.aA b.aA; simp only [bM] at h; exact h) ?_
   rintro _ rfl
   simp only [pY,go_sem,reduceIte,zA,zB,zC,zD,zE,zF,reduceCtorEq]
   exact hK _ (congrArg num au)
theorem C8 (s : ByteArray) (hs : s.size ≤ 1048576) : ∃ r_, (fun w => w = num (if bB s = true then bN s else -1)) r_ ∧ aQ Tryz.prog 73 [str s] r_ := by
 refine dZ tt_ok [] 15 [.tmp 2] (fn := Tryz.f73) Tryz.func73 rfl Tryz.call73 ⟨rfl, rfl, by simp⟩ fun K hK => ?_
 simp only [go_sem,reduceIte,zA,zB,zC,zD,zE,zF,reduceCtorEq]
 refine cF (Il s hs) ?_
 rintro _ ⟨nm, rfl⟩
 simp only [go_sem,reduceIte,zA,zB,zC,zD,zE,zF,reduceCtorEq]
 refine aN (fun lD => ?_) (fun lD => ?_)
 ·simp only [go_sem,reduceIte,zA,zB,zC,zD,zE,zF,reduceCtorEq]
  exact hK _ (congrArg num (by unfold bC at *; by_cases h : bB s = true <;> simp_all))
 ·simp only [go_sem,reduceIte,zA,zB,zC,zD,zE,zF,reduceCtorEq]
  exact hK _ (congrArg num (by unfold bC at *; by_cases h : bB s = true <;> simp_all))
theorem nN (s : ByteArray) : ∃ r_, (fun w => w = bl (jm s)) r_ ∧ aQ Tryz.prog 96 [str s] r_ := by
 refine dZ tt_ok [] 11 [.tmp 2] (fn := Tryz.f96) Tryz.func96 rfl Tryz.call96 ⟨rfl, rfl, by simp⟩ fun K hK => ?_
 have fL : Tryz.prog.underlying 9 = some .string := by kernel_rfl
 have sl : ∀ (a : ByteArray) (ty : TypeId), cI Tryz.prog (Builtin.len_ #[9] ty) [.sc (.string a)] = some (num a.size) := fun a ty => ct (P := Tryz.prog) (tt := tt) (T := 9) a fL ty
 simp only [sl,go_sem,reduceIte,zA,zB,zC,zD,zE,zF,reduceCtorEq]
 refine aN (fun kM => ?_) (fun kM => ?_)
 ·simp only [sl,go_sem,reduceIte,zA,zB,zC,zD,zE,zF,reduceCtorEq]
  exact hK _ (congrArg bl (by unfold jm; simp_all <;> (intros; omega)))
 ·simp only [sl,go_sem,reduceIte,zA,zB,zC,zD,zE,zF,reduceCtorEq]
  exact hK _ (congrArg bl (by unfold jm; simp_all <;> (intros; omega)))
end Go.Proofs.YtnfeacnbgbggfaaGreatDoor
end

section
namespace Go.Proofs.YtnfeacnbgbggfaaGreatDoor
open Go.Eng
open Nat renaming reduceAdd → zA, reduceLT → zB, reduceLeDiff → zC, reduceMul → zD, reduceEqDiff → zE, reduceSub → zF
variable [aE]
set_option maxHeartbeats 4000000
set_option maxRecDepth 100000
theorem Lv {s : ByteArray} (h : bB s = true) : 0 ≤ bN s := by
  unfold bN; rw [if_pos h]
  unfold bB at h
  simp only [Bool.and_eq_true] at h
  exact wU h.1.1.1
theorem Io {s : ByteArray} (h : (if bB s = true then bN s else -1) < 0) : bC s = 4 := by
  unfold bC
  by_cases hm : bB s = true
  · rw [if_pos hm] at h; have := Lv hm; omega
  · rw [if_neg hm]
theorem Ip {s : ByteArray} (h : ¬ (if bB s = true then bN s else -1) < 0) : bC s = 0 ∧ (if bB s = true then bN s else -1) = bN s := by
  unfold bC
  by_cases hm : bB s = true
  · rw [if_pos hm, if_pos hm]; exact ⟨rfl, rfl⟩
  · rw [if_neg hm] at h; exact absurd (by decide) h
theorem Tq {q : Rq} {b : Option Rq} (h : bC q.path = 4) : mi q b = 4 := by unfold mi; rw [if_pos (by rw [h]; decide)]
theorem MC {q : Rq} {b : Option Rq} (h : bC q.path = 0) (h2 : (decide (q.set.length = 0) || !decide (q.set = canon q.set)) = true) : mi q b = 1 := by
  unfold mi
  rw [if_neg (by rw [h]; simp), h2]; simp
theorem Iq {q p : Rq} (h : bC q.path = 0) (h2 : (decide (q.set.length = 0) || !decide (q.set = canon q.set)) = false) : mi q (some p) = if IQ q.path p.path = true then 1 else 0 := by
  unfold mi
  rw [if_neg (by rw [h]; simp), h2]; simp
theorem MD {q : Rq} (h : bC q.path = 0) (h2 : (decide (q.set.length = 0) || !decide (q.set = canon q.set)) = false) : mi q none = 0 := by
  unfold mi
  rw [if_neg (by rw [h]; simp), h2]; simp
theorem C9 (a : ByteArray) : jO a a = false := by rw [nr]; exact decide_eq_false (List.lt_irrefl _)
theorem vb {a b : ByteArray} : km a b = 0 ↔ a = b := by
  unfold km
  refine ⟨fun h => ?_, fun h => by rw [h, C9]; simp⟩
  by_cases h1 : jO a b = true
  · rw [if_pos h1] at h; cases h
  · rw [if_neg h1] at h
    by_cases h2 : a = b
    · exact h2
    · rw [if_neg h2] at h; cases h
theorem mu {a b : Int} : fk a b = 0 ↔ a = b := by unfold fk; split <;> (try split) <;> omega
theorem er.oY {a b : er} : a.cmp b = 0 ↔ a = b := by
  constructor
  · intro h
    unfold er.cmp at h
    by_cases h1 : fk a.mj b.mj = 0
    · rw [if_neg (by simpa using h1)] at h
      by_cases h2 : fk a.mn b.mn = 0
      · rw [if_neg (by simpa using h2)] at h
        exact er.ext' (mu.1 h1) (mu.1 h2) (mu.1 h)
      · rw [if_pos h2] at h; exact absurd h h2
    · rw [if_pos h1] at h; exact absurd h h1
  · rintro rfl
    have e : ∀ x, fk x x = 0 := fun x => mu.2 rfl
    unfold er.cmp
    rw [e, e, e]; rfl
theorem Rl.oY {a b : Rl} : a.cmp b = 0 ↔ a.key = b.key := by
  have hk : a.key = b.key ↔ a.path = b.path ∧ a.aA = b.aA := by simp [Rl.key]
  rw [hk]
  unfold Rl.cmp
  by_cases h1 : km a.path b.path = 0
  · rw [if_neg (by simpa using h1), er.oY]
    exact ⟨fun h => ⟨vb.1 h1, h⟩, fun h => h.2⟩
  · rw [if_pos h1]
    exact ⟨fun h => absurd h h1, fun h => absurd (vb.2 h.1) h1⟩
theorem Tr {r : Rl} (h : bC r.path = 4) : gi r = 4 := by unfold gi; rw [if_pos (by rw [h]; decide)]
theorem ME {r : Rl} (h : bC r.path = 0) (h2 : (!r.aA.ok || !decide (r.aA.mj = bN r.path)) = true) : gi r = 2 := by unfold gi; rw [if_neg (by rw [h]; simp), if_pos h2]
theorem Ts {r : Rl} (h : bC r.path = 0) (h2 : (!r.aA.ok || !decide (r.aA.mj = bN r.path)) = false) (h3 : fo r.reqs ≠ 0) : gi r = fo r.reqs := by unfold gi; rw [if_neg (by rw [h]; simp), if_neg (by rw [h2]; simp), if_pos h3]
theorem Da {r : Rl} (h : bC r.path = 0) (h2 : (!r.aA.ok || !decide (r.aA.mj = bN r.path)) = false) (h3 : fo r.reqs = 0) : gi r = if (jm r.ar && (jm r.fY && jm r.ce)) = true then 0 else 1 := by unfold gi; rw [if_neg (by rw [h]; simp), if_neg (by rw [h2]; simp), if_neg (by rw [h3]; simp)]
theorem Lw (l : List Rq) (hl : l.length ≤ 1048576) (hb : ∀ q ∈ l, qD q) : ∃ r_, (fun w => w = num (fo l)) r_ ∧ aQ Tryz.prog 95 [ah l] r_ := by
  refine dZ tt_ok [] 58 [.tmp 2] (fn := Tryz.f95) Tryz.func95 rfl Tryz.call95 ⟨rfl, rfl, by simp⟩ fun K hK => ?_
  simp only [ah]
  simp only [List.length_map,aR,go_sem,reduceIte,zA,zB,zC,zD,zE,zF,reduceCtorEq]
  refine aN (fun GR => ?_) (fun GR => ?_)
  · skip
    have au : 7 = fo l := by unfold fo; rw [if_pos (by have := of_decide_eq_true GR; omega)]
    simp only [List.length_map,aR,go_sem,reduceIte,zA,zB,zC,zD,zE,zF,reduceCtorEq]
    exact hK _ (congrArg num au)
  · skip
    simp only [List.length_map,aR,go_sem,reduceIte,zA,zB,zC,zD,zE,zF,reduceCtorEq]
    refine bx tt_ok [] [3] 0 [0,6] (fun vs => ((l.length : Int) - Go.Eng.intOf (vs.headD .undef)).toNat) (fun vs => ∃ i : Nat, vs = [num i] ∧ i ≤ l.length ∧ eM none l = eM (bQ l i) (l.drop i)) (by omega) (by simp only [List.length_map,aR,go_sem,reduceIte,zA,zB,zC,zD,zE,zF,reduceCtorEq]) (⟨0, rfl, Nat.zero_le _, rfl⟩) fun vs hI Z1 cd => ?_
    obtain ⟨i, rfl, hi, gR⟩ := hI
    simp only [List.length_map,aR,go_sem,reduceIte,zA,zB,zC,zD,zE,zF,reduceCtorEq]
    refine aN (fun dp => ?_) (fun dp => ?_)
    · skip
      have az : i < l.length := by simpa using dp
      have hw := ay i (by omega)
      obtain ⟨x, hx⟩ : ∃ x, l[i]? = some x := ⟨_, List.getElem?_eq_getElem az⟩
      have O4 := hb x (List.mem_of_getElem? hx)
      simp only [hw,List.getElem?_map,hx,aj,al,List.length_map,aR,go_sem,reduceIte,zA,zB,zC,zD,zE,zF,reduceCtorEq]
      refine cF (C8 x.path O4.1) ?_
      rintro _ rfl
      simp only [hw,List.getElem?_map,hx,aj,al,List.length_map,aR,go_sem,reduceIte,zA,zB,zC,zD,zE,zF,reduceCtorEq]
      refine aN (fun nt => ?_) (fun nt => ?_)
      · skip
        have hE : mi x (bQ l i) = 4 := Tq (Io (of_decide_eq_true nt))
        have au : 4 = fo l := by unfold fo; rw [if_neg (by have := of_decide_eq_false GR; omega), gR, lC hx (by rw [hE]; decide), hE]
        simp only [hw,List.getElem?_map,hx,aj,al,List.length_map,aR,go_sem,reduceIte,zA,zB,zC,zD,zE,zF,reduceCtorEq]
        exact hK _ (congrArg num au)
      · skip
        have BG := (Ip (of_decide_eq_false nt)).1
        simp only [hw,List.getElem?_map,hx,aj,al,List.length_map,aR,go_sem,reduceIte,zA,zB,zC,zD,zE,zF,reduceCtorEq]
        refine bu tt_ok aG [⟨.n, 0, [], [], []⟩, ⟨.n, 0, [], [], []⟩, ⟨.r, 0, [], [], []⟩, ⟨.n, 0, [], [], []⟩, ⟨.r, 0, [], [], []⟩, ⟨.n, 0, [], [], []⟩, ⟨.n, 0, [], [], []⟩, ⟨.n, 0, [], [], []⟩, ⟨.n, 0, [], [], []⟩, ⟨.n, 0, [], [], []⟩, ⟨.r, 0, [], [], []⟩, ⟨.n, 0, [], [], []⟩, ⟨.r, 0, [], [], []⟩, ⟨.n, 0, [], [], []⟩, ⟨.n, 0, [], [], []⟩, ⟨.r, 0, [], [], []⟩, ⟨.n, 0, [], [], []⟩, ⟨.r, 0, [], [], []⟩, ⟨.n, 0, [], [], []⟩, ⟨.n, 0, [], [], []⟩, ⟨.n, 0, [], [], []⟩, ⟨.n, 0, [], [], []⟩] 0 (by kernel_rfl) ?_
        simp only [hw,List.getElem?_map,hx,aj,al,List.length_map,aR,go_sem,reduceIte,zA,zB,zC,zD,zE,zF,reduceCtorEq]
        refine aN (fun Ir => ?_) (fun Ir => ?_)
        · skip
          have hz : x.set.length = 0 := by have := of_decide_eq_true Ir; omega
          have Lx : (decide (x.set.length = 0) || !decide (x.set = canon x.set)) = true := by
            first
              | (rw [hz]; rfl)
              | (rw [show decide (x.set = canon x.set) = false by simpa using mB]; simp)
          have hE : mi x (bQ l i) = 1 := MC BG Lx
          have au : 1 = fo l := by unfold fo; rw [if_neg (by have := of_decide_eq_false GR; omega), gR, lC hx (by rw [hE]; decide), hE]
          simp only [hw,List.getElem?_map,hx,aj,al,List.length_map,aR,go_sem,reduceIte,zA,zB,zC,zD,zE,zF,reduceCtorEq]
          exact hK _ (congrArg num au)
        · skip
          simp only [hw,List.getElem?_map,hx,aj,al,List.length_map,aR,go_sem,reduceIte,zA,zB,zC,zD,zE,zF,reduceCtorEq]
          refine cG (by have h := EK x.set O4.2; simp only [al] at h; exact h) ?_
          rintro _ rfl
          simp only [hw,List.getElem?_map,hx,aj,al,List.length_map,aR,go_sem,reduceIte,zA,zB,zC,zD,zE,zF,reduceCtorEq]
          refine cG (by have h := wq x.set (canon x.set) O4.2; simp only [al] at h; exact h) ?_
          rintro _ rfl
          simp only [hw,List.getElem?_map,hx,aj,al,List.length_map,aR,go_sem,reduceIte,zA,zB,zC,zD,zE,zF,reduceCtorEq]
          refine aN (fun mB => ?_) (fun mB => ?_)
          · skip
            have Lx : (decide (x.set.length = 0) || !decide (x.set = canon x.set)) = true := by
              first
                | (rw [hz]; rfl)
                | (rw [show decide (x.set = canon x.set) = false by simpa using mB]; simp)
            have hE : mi x (bQ l i) = 1 := MC BG Lx
            have au : 1 = fo l := by unfold fo; rw [if_neg (by have := of_decide_eq_false GR; omega), gR, lC hx (by rw [hE]; decide), hE]
            simp only [hw,List.getElem?_map,hx,aj,al,List.length_map,aR,go_sem,reduceIte,zA,zB,zC,zD,zE,zF,reduceCtorEq]
            exact hK _ (congrArg num au)
          · skip
            have hz : x.set.length ≠ 0 := by have := of_decide_eq_false Ir; omega
            have Lx : (decide (x.set.length = 0) || !decide (x.set = canon x.set)) = false := by rw [decide_eq_false hz, show decide (x.set = canon x.set) = true by simpa using mB]; rfl
            simp only [hw,List.getElem?_map,hx,aj,al,List.length_map,aR,go_sem,reduceIte,zA,zB,zC,zD,zE,zF,reduceCtorEq]
            refine bu tt_ok aG [⟨.n, 0, [], [], []⟩, ⟨.n, 0, [], [], []⟩, ⟨.n, 0, [], [], []⟩, ⟨.n, 0, [], [], []⟩, ⟨.n, 0, [], [], []⟩, ⟨.r, 0, [], [], []⟩, ⟨.n, 0, [], [], []⟩, ⟨.r, 0, [], [], []⟩, ⟨.n, 0, [], [], []⟩, ⟨.n, 0, [], [], []⟩, ⟨.n, 0, [], [], []⟩, ⟨.r, 0, [], [], []⟩, ⟨.n, 0, [], [], []⟩, ⟨.r, 0, [], [], []⟩, ⟨.n, 0, [], [], []⟩, ⟨.n, 0, [], [], []⟩] 0 (by kernel_rfl) ?_
            simp only [hw,List.getElem?_map,hx,aj,al,List.length_map,aR,go_sem,reduceIte,zA,zB,zC,zD,zE,zF,reduceCtorEq]
            refine aN (fun gp => ?_) (fun gp => ?_)
            · skip
              have FA : i ≠ 0 := by have := of_decide_eq_true gp; omega
              obtain ⟨p, hp⟩ : ∃ p, l[i - 1]? = some p := ⟨_, List.getElem?_eq_getElem (by omega)⟩
              have Ee : bQ l i = some p := by rw [pI FA, hp]
              have eu : IntKind.i64.wrap ((i : Int) - 1) = ((i - 1 : Nat) : Int) := jA _ _ (by omega) (by omega)
              simp only [hw,List.getElem?_map,hx,aj,al,eu,hp,List.length_map,aR,go_sem,reduceIte,zA,zB,zC,zD,zE,zF,reduceCtorEq]
              refine aN (fun qW => ?_) (fun qW => ?_)
              · skip
                have hE : mi x (bQ l i) = 1 := by rw [Ee, Iq BG Lx, if_pos (by unfold IQ jO; rw [← aJ]; exact qW)]
                have au : 1 = fo l := by unfold fo; rw [if_neg (by have := of_decide_eq_false GR; omega), gR, lC hx (by rw [hE]; decide), hE]
                simp only [hw,List.getElem?_map,hx,aj,al,eu,hp,List.length_map,aR,go_sem,reduceIte,zA,zB,zC,zD,zE,zF,reduceCtorEq]
                exact hK _ (congrArg num au)
              · skip
                have IP : mi x (bQ l i) = 0 := by
                  first
                    | (rw [Ee, Iq BG Lx, if_neg (by unfold IQ jO; rw [← aJ]; rw [qW]; simp)]; done)
                    | (have h0 : i = 0 := by have := of_decide_eq_false gp; omega
                       rw [h0]; exact MD BG Lx)
                simp only [hw,List.getElem?_map,hx,aj,al,eu,hp,List.length_map,aR,go_sem,reduceIte,zA,zB,zC,zD,zE,zF,reduceCtorEq]
                refine cd _ (cC (by omega) (by simp only [hw,List.getElem?_map,hx,aj,al,eu,hp,List.length_map,aR,go_sem,reduceIte,zA,zB,zC,zD,zE,zF,reduceCtorEq]) ?_ ?_) <;> simp only [fh,lk,reduceIte,zE]
                · exact ⟨i + 1, rfl, az, by rw [gR]; exact sW hx IP⟩
                · simp only [Go.Eng.intOf,List.headD_cons]; omega
            · skip
              have IP : mi x (bQ l i) = 0 := by
                first
                  | (rw [Ee, Iq BG Lx, if_neg (by unfold IQ jO; rw [← aJ]; rw [qW]; simp)]; done)
                  | (have h0 : i = 0 := by have := of_decide_eq_false gp; omega
                     rw [h0]; exact MD BG Lx)
              simp only [hw,List.getElem?_map,hx,aj,al,List.length_map,aR,go_sem,reduceIte,zA,zB,zC,zD,zE,zF,reduceCtorEq]
              refine cd _ (cC (by omega) (by simp only [hw,List.getElem?_map,hx,aj,al,List.length_map,aR,go_sem,reduceIte,zA,zB,zC,zD,zE,zF,reduceCtorEq]) ?_ ?_) <;> simp only [fh,lk,reduceIte,zE]
              · exact ⟨i + 1, rfl, az, by rw [gR]; exact sW hx IP⟩
              · simp only [Go.Eng.intOf,List.headD_cons]; omega
    · skip
      have cH : ¬ i < l.length := by simpa using dp
      have au : 0 = fo l := by unfold fo; rw [if_neg (by have := of_decide_eq_false GR; omega), gR, List.drop_eq_nil_of_le (by omega)]; rfl
      simp only [List.length_map,aR,go_sem,reduceIte,zA,zB,zC,zD,zE,zF,reduceCtorEq]
      exact hK _ (congrArg num au)
theorem zm (r : Rl) (hb : IS r) : ∃ r_, (fun w => w = num (gi r)) r_ ∧ aQ Tryz.prog 59 [ag r] r_ := by
  refine dZ tt_ok [] 43 [.tmp 2] (fn := Tryz.f59) Tryz.func59 rfl Tryz.call59 ⟨rfl, rfl, by simp⟩ fun K hK => ?_
  simp only [ag,ab,ah]
  obtain ⟨re, rV, Qg⟩ := hb
  simp only [go_sem,reduceIte,zA,zB,zC,zD,zE,zF,reduceCtorEq]
  refine cF (C8 r.path re) ?_
  rintro _ rfl
  obtain ⟨M, hM⟩ : ∃ M, M = (if bB r.path = true then bN r.path else -1) := ⟨_, rfl⟩
  rw [← hM]
  simp only [go_sem,reduceIte,zA,zB,zC,zD,zE,zF,reduceCtorEq]
  refine aN (fun ga => ?_) (fun ga => ?_)
  · skip
    have au : 4 = gi r := (Tr (Io (by rw [← hM]; exact of_decide_eq_true ga))).symm
    simp only [go_sem,reduceIte,zA,zB,zC,zD,zE,zF,reduceCtorEq]
    exact hK _ (congrArg num au)
  · skip
    obtain ⟨BG, Ui⟩ := Ip (s := r.path) (by rw [← hM]; exact of_decide_eq_false ga)
    rw [← hM] at Ui
    simp only [go_sem,reduceIte,zA,zB,zC,zD,zE,zF,reduceCtorEq]
    refine cF (by have h := D6 r.aA; simp only [bM] at h; exact h) ?_
    rintro _ rfl
    simp only [go_sem,reduceIte,zA,zB,zC,zD,zE,zF,reduceCtorEq]
    refine aN (fun sZ => ?_) (fun sZ => ?_)
    · skip
      have hv : (!r.aA.ok || !decide (r.aA.mj = bN r.path)) = true := by rw [← Ui]; simp_all
      have au : 2 = gi r := (ME BG hv).symm
      simp only [go_sem,reduceIte,zA,zB,zC,zD,zE,zF,reduceCtorEq]
      exact hK _ (congrArg num au)
    · skip
      simp only [go_sem,reduceIte,zA,zB,zC,zD,zE,zF,reduceCtorEq]
      refine aN (fun Hk => ?_) (fun Hk => ?_)
      · skip
        have hv : (!r.aA.ok || !decide (r.aA.mj = bN r.path)) = true := by rw [← Ui]; simp_all
        have au : 2 = gi r := (ME BG hv).symm
        simp only [go_sem,reduceIte,zA,zB,zC,zD,zE,zF,reduceCtorEq]
        exact hK _ (congrArg num au)
      · skip
        have hv : (!r.aA.ok || !decide (r.aA.mj = bN r.path)) = false := by rw [← Ui]; simp_all
        simp only [go_sem,reduceIte,zA,zB,zC,zD,zE,zF,reduceCtorEq]
        refine cF (by have h := Lw r.reqs rV Qg; simp only [ah] at h; exact h) ?_
        rintro _ rfl
        simp only [go_sem,reduceIte,zA,zB,zC,zD,zE,zF,reduceCtorEq]
        refine aN (fun fm => ?_) (fun fm => ?_)
        · skip
          have au : fo r.reqs = gi r := (Ts BG hv (by simpa using fm)).symm
          simp only [go_sem,reduceIte,zA,zB,zC,zD,zE,zF,reduceCtorEq]
          exact hK _ (congrArg num au)
        · skip
          simp only [go_sem,reduceIte,zA,zB,zC,zD,zE,zF,reduceCtorEq]
          refine cF (nN _) ?_
          rintro _ rfl
          simp only [go_sem,reduceIte,zA,zB,zC,zD,zE,zF,reduceCtorEq]
          refine aN (fun Tt => ?_) (fun Tt => ?_)
          · skip
            have hd : (jm r.ar && (jm r.fY && jm r.ce)) = false := by simp_all
            have au : 1 = gi r := by rw [Da BG hv (by simpa using fm), hd]; rfl
            simp only [go_sem,reduceIte,zA,zB,zC,zD,zE,zF,reduceCtorEq]
            exact hK _ (congrArg num au)
          · skip
            simp only [go_sem,reduceIte,zA,zB,zC,zD,zE,zF,reduceCtorEq]
            refine cF (nN _) ?_
            rintro _ rfl
            simp only [go_sem,reduceIte,zA,zB,zC,zD,zE,zF,reduceCtorEq]
            refine aN (fun PN => ?_) (fun PN => ?_)
            · skip
              have hd : (jm r.ar && (jm r.fY && jm r.ce)) = false := by simp_all
              have au : 1 = gi r := by rw [Da BG hv (by simpa using fm), hd]; rfl
              simp only [go_sem,reduceIte,zA,zB,zC,zD,zE,zF,reduceCtorEq]
              exact hK _ (congrArg num au)
            · skip
              simp only [go_sem,reduceIte,zA,zB,zC,zD,zE,zF,reduceCtorEq]
              refine cF (nN _) ?_
              rintro _ rfl
              simp only [go_sem,reduceIte,zA,zB,zC,zD,zE,zF,reduceCtorEq]
              refine aN (fun OK => ?_) (fun OK => ?_)
              · skip
                have hd : (jm r.ar && (jm r.fY && jm r.ce)) = false := by simp_all
                have au : 1 = gi r := by rw [Da BG hv (by simpa using fm), hd]; rfl
                simp only [go_sem,reduceIte,zA,zB,zC,zD,zE,zF,reduceCtorEq]
                exact hK _ (congrArg num au)
              · skip
                have hd : (jm r.ar && (jm r.fY && jm r.ce)) = true := by simp_all
                have au : 0 = gi r := by rw [Da BG hv (by simpa using fm), hd]; rfl
                simp only [go_sem,reduceIte,zA,zB,zC,zD,zE,zF,reduceCtorEq]
                exact hK _ (congrArg num au)
theorem pZ (l : List Rl) (I : List V) (hb : w6 l) : ∃ r_, (fun w => w = num (ey l)) r_ ∧ aQ Tryz.prog 49 [bA l I] r_ := by
  refine dZ tt_ok [] 55 [.tmp 2] (fn := Tryz.f49) Tryz.func49 rfl Tryz.call49 ⟨rfl, rfl, by simp⟩ fun K hK => ?_
  simp only [bA,bh]
  obtain ⟨hl, hb⟩ := hb
  simp only [List.length_map,go_sem,reduceIte,zA,zB,zC,zD,zE,zF,reduceCtorEq]
  refine aN (fun dp => ?_) (fun dp => ?_)
  · skip
    have au : 7 = ey l := by unfold ey; rw [if_pos (by have := of_decide_eq_true dp; omega)]
    simp only [List.length_map,go_sem,reduceIte,zA,zB,zC,zD,zE,zF,reduceCtorEq]
    exact hK _ (congrArg num au)
  · skip
    simp only [List.length_map,go_sem,reduceIte,zA,zB,zC,zD,zE,zF,reduceCtorEq]
    refine bx tt_ok [] [4] 1 [3,10] (fun vs => ((l.length : Int) - Go.Eng.intOf (vs.headD .undef)).toNat) (fun vs => ∃ i : Nat, vs = [num i] ∧ i ≤ l.length ∧ c5 none l = c5 (bQ l i) (l.drop i)) (by omega) (by simp only [List.length_map,go_sem,reduceIte,zA,zB,zC,zD,zE,zF,reduceCtorEq]) (⟨0, rfl, Nat.zero_le _, rfl⟩) fun vs hI Z1 cd => ?_
    obtain ⟨i, rfl, hi, gR⟩ := hI
    simp only [List.length_map,go_sem,reduceIte,zA,zB,zC,zD,zE,zF,reduceCtorEq]
    refine aN (fun cX => ?_) (fun cX => ?_)
    · skip
      have az : i < l.length := by simpa using cX
      have hw := ay i (by omega)
      obtain ⟨x, hx⟩ : ∃ x, l[i]? = some x := ⟨_, List.getElem?_eq_getElem az⟩
      simp only [hw,List.getElem?_map,hx,ag,ab,ah,List.length_map,go_sem,reduceIte,zA,zB,zC,zD,zE,zF,reduceCtorEq]
      refine cF (by have h := zm x (hb x (List.mem_of_getElem? hx)); simp only [ag,ab,ah] at h; exact h) ?_
      rintro _ rfl
      simp only [hw,List.getElem?_map,hx,ag,ab,ah,List.length_map,go_sem,reduceIte,zA,zB,zC,zD,zE,zF,reduceCtorEq]
      refine aN (fun iI => ?_) (fun iI => ?_)
      · skip
        have au : gi x = ey l := by unfold ey; rw [if_neg (by have := of_decide_eq_false dp; omega), gR, CF hx (by simpa using iI)]
        simp only [hw,List.getElem?_map,hx,ag,ab,ah,List.length_map,go_sem,reduceIte,zA,zB,zC,zD,zE,zF,reduceCtorEq]
        exact hK _ (congrArg num au)
      · skip
        obtain ⟨p, WL⟩ : ∃ p, i ≠ 0 → l[i - 1]? = some p ∧ bQ l i = some p := by
          obtain ⟨p, hp⟩ : ∃ p, l[i - 1]? = some p := ⟨_, List.getElem?_eq_getElem (by omega)⟩
          exact ⟨p, fun h => ⟨hp, by rw [pI h, hp]⟩⟩
        simp only [hw,List.getElem?_map,hx,ag,ab,ah,List.length_map,go_sem,reduceIte,zA,zB,zC,zD,zE,zF,reduceCtorEq]
        refine bu tt_ok aG [⟨.n, 0, [], [], []⟩, ⟨.n, 0, [], [], []⟩, ⟨.n, 0, [], [], []⟩, ⟨.n, 0, [], [], []⟩, ⟨.n, 0, [], [], []⟩, ⟨.n, 0, [], [], []⟩, ⟨.r, 0, [], [], []⟩, ⟨.r, 0, [], [], []⟩, ⟨.n, 0, [], [], []⟩, ⟨.n, 0, [], [], []⟩, ⟨.r, 0, [], [], []⟩, ⟨.r, 0, [], [], []⟩, ⟨.n, 0, [], [], []⟩, ⟨.n, 0, [], [], []⟩, ⟨.n, 0, [], [], []⟩] 0 (by kernel_rfl) ?_
        simp only [hw,List.getElem?_map,hx,ag,ab,ah,List.length_map,go_sem,reduceIte,zA,zB,zC,zD,zE,zF,reduceCtorEq]
        refine aN (fun gp => ?_) (fun gp => ?_)
        · skip
          have FA : i ≠ 0 := by have := of_decide_eq_true gp; omega
          obtain ⟨hp, Ee⟩ := WL FA
          have eu : IntKind.i64.wrap ((i : Int) - 1) = ((i - 1 : Nat) : Int) := jA _ _ (by omega) (by omega)
          simp only [hw,List.getElem?_map,hx,ag,ab,ah,eu,hp,List.length_map,go_sem,reduceIte,zA,zB,zC,zD,zE,zF,reduceCtorEq]
          refine cG (by have h := lV p x; simp only [ag,ab,ah] at h; exact h) ?_
          rintro _ rfl
          simp only [hw,List.getElem?_map,hx,ag,ab,ah,eu,hp,List.length_map,go_sem,reduceIte,zA,zB,zC,zD,zE,zF,reduceCtorEq]
          refine aN (fun Br => ?_) (fun Br => ?_)
          · skip
            have au : 5 = ey l := by unfold ey; rw [if_neg (by have := of_decide_eq_false dp; omega), gR, sX hx (by simpa using iI) Ee, if_pos (Rl.oY.1 (by simpa using Br))]
            simp only [hw,List.getElem?_map,hx,ag,ab,ah,eu,hp,List.length_map,go_sem,reduceIte,zA,zB,zC,zD,zE,zF,reduceCtorEq]
            exact hK _ (congrArg num au)
          · skip
            have eQ : p.key ≠ x.key := fun e => by have := of_decide_eq_false Br; exact this (Rl.oY.2 e)
            simp only [hw,List.getElem?_map,hx,ag,ab,ah,eu,hp,List.length_map,go_sem,reduceIte,zA,zB,zC,zD,zE,zF,reduceCtorEq]
            refine bu tt_ok aG [⟨.n, 0, [], [], []⟩, ⟨.n, 0, [], [], []⟩, ⟨.n, 0, [], [], []⟩, ⟨.n, 0, [], [], []⟩, ⟨.n, 0, [], [], []⟩, ⟨.n, 0, [], [], []⟩, ⟨.r, 0, [], [], []⟩, ⟨.r, 0, [], [], []⟩, ⟨.n, 0, [], [], []⟩, ⟨.n, 0, [], [], []⟩, ⟨.r, 0, [], [], []⟩, ⟨.r, 0, [], [], []⟩, ⟨.n, 0, [], [], []⟩, ⟨.n, 0, [], [], []⟩, ⟨.n, 0, [], [], []⟩] 0 (by kernel_rfl) ?_
            simp only [hw,List.getElem?_map,hx,ag,ab,ah,eu,hp,List.length_map,go_sem,reduceIte,zA,zB,zC,zD,zE,zF,reduceCtorEq]
            refine aN (fun gq => ?_) (fun gq => ?_)
            · skip
              have nQ : i ≠ 0 := by have := of_decide_eq_true gq; omega
              obtain ⟨jc, PO⟩ := WL nQ
              have tB : IntKind.i64.wrap ((i : Int) - 1) = ((i - 1 : Nat) : Int) := jA _ _ (by omega) (by omega)
              simp only [hw,List.getElem?_map,hx,ag,ab,ah,eu,hp,tB,jc,List.length_map,go_sem,reduceIte,zA,zB,zC,zD,zE,zF,reduceCtorEq]
              refine cG (by have h := lV p x; simp only [ag,ab,ah] at h; exact h) ?_
              rintro _ rfl
              simp only [hw,List.getElem?_map,hx,ag,ab,ah,eu,hp,tB,jc,List.length_map,go_sem,reduceIte,zA,zB,zC,zD,zE,zF,reduceCtorEq]
              refine aN (fun pJ => ?_) (fun pJ => ?_)
              · skip
                have PQ : p.key ≠ x.key := by first | exact eQ | (exfalso; rw [gp] at gq; cases gq)
                have au : 1 = ey l := by unfold ey; rw [if_neg (by have := of_decide_eq_false dp; omega), gR, sX hx (by simpa using iI) PO, if_neg PQ, if_pos (of_decide_eq_true pJ)]
                simp only [hw,List.getElem?_map,hx,ag,ab,ah,eu,hp,tB,jc,List.length_map,go_sem,reduceIte,zA,zB,zC,zD,zE,zF,reduceCtorEq]
                exact hK _ (congrArg num au)
              · skip
                have yi : ∀ p, bQ l i = some p → p.key ≠ x.key ∧ ¬ 0 < p.cmp x := by
                  intro q hq
                  first
                    | (have h1 := of_decide_eq_false pJ; rw [Ee] at hq; cases hq; exact ⟨eQ, h1⟩)
                    | (have h1 := of_decide_eq_false gp; have h0 : i = 0 := (by omega); rw [h0] at hq; cases hq)
                    | (have h1 := of_decide_eq_false gq; exfalso; omega)
                simp only [hw,List.getElem?_map,hx,ag,ab,ah,eu,hp,tB,jc,List.length_map,go_sem,reduceIte,zA,zB,zC,zD,zE,zF,reduceCtorEq]
                refine cd _ (cC (by omega) (by simp only [hw,List.getElem?_map,hx,ag,ab,ah,eu,hp,tB,jc,List.length_map,go_sem,reduceIte,zA,zB,zC,zD,zE,zF,reduceCtorEq]) ?_ ?_) <;> simp only [fh,lk,reduceIte,zE]
                · exact ⟨i + 1, rfl, az, by rw [gR]; exact ml hx (by simpa using iI) yi⟩
                · simp only [Go.Eng.intOf,List.headD_cons]; omega
            · skip
              have yi : ∀ p, bQ l i = some p → p.key ≠ x.key ∧ ¬ 0 < p.cmp x := by
                intro q hq
                first
                  | (have h1 := of_decide_eq_false pJ; rw [Ee] at hq; cases hq; exact ⟨eQ, h1⟩)
                  | (have h1 := of_decide_eq_false gp; have h0 : i = 0 := (by omega); rw [h0] at hq; cases hq)
                  | (have h1 := of_decide_eq_false gq; exfalso; omega)
              simp only [hw,List.getElem?_map,hx,ag,ab,ah,eu,hp,List.length_map,go_sem,reduceIte,zA,zB,zC,zD,zE,zF,reduceCtorEq]
              refine cd _ (cC (by omega) (by simp only [hw,List.getElem?_map,hx,ag,ab,ah,eu,hp,List.length_map,go_sem,reduceIte,zA,zB,zC,zD,zE,zF,reduceCtorEq]) ?_ ?_) <;> simp only [fh,lk,reduceIte,zE]
              · exact ⟨i + 1, rfl, az, by rw [gR]; exact ml hx (by simpa using iI) yi⟩
              · simp only [Go.Eng.intOf,List.headD_cons]; omega
        · skip
          simp only [hw,List.getElem?_map,hx,ag,ab,ah,List.length_map,go_sem,reduceIte,zA,zB,zC,zD,zE,zF,reduceCtorEq]
          refine bu tt_ok aG [⟨.n, 0, [], [], []⟩, ⟨.n, 0, [], [], []⟩, ⟨.n, 0, [], [], []⟩, ⟨.n, 0, [], [], []⟩, ⟨.n, 0, [], [], []⟩, ⟨.n, 0, [], [], []⟩, ⟨.r, 0, [], [], []⟩, ⟨.r, 0, [], [], []⟩, ⟨.n, 0, [], [], []⟩, ⟨.n, 0, [], [], []⟩, ⟨.r, 0, [], [], []⟩, ⟨.r, 0, [], [], []⟩, ⟨.n, 0, [], [], []⟩, ⟨.n, 0, [], [], []⟩, ⟨.n, 0, [], [], []⟩] 0 (by kernel_rfl) ?_
          simp only [hw,List.getElem?_map,hx,ag,ab,ah,List.length_map,go_sem,reduceIte,zA,zB,zC,zD,zE,zF,reduceCtorEq]
          refine aN (fun gq => ?_) (fun gq => ?_)
          · skip
            have nQ : i ≠ 0 := by have := of_decide_eq_true gq; omega
            obtain ⟨jc, PO⟩ := WL nQ
            have tB : IntKind.i64.wrap ((i : Int) - 1) = ((i - 1 : Nat) : Int) := jA _ _ (by omega) (by omega)
            simp only [hw,List.getElem?_map,hx,ag,ab,ah,tB,jc,List.length_map,go_sem,reduceIte,zA,zB,zC,zD,zE,zF,reduceCtorEq]
            refine cG (by have h := lV p x; simp only [ag,ab,ah] at h; exact h) ?_
            rintro _ rfl
            simp only [hw,List.getElem?_map,hx,ag,ab,ah,tB,jc,List.length_map,go_sem,reduceIte,zA,zB,zC,zD,zE,zF,reduceCtorEq]
            refine aN (fun pJ => ?_) (fun pJ => ?_)
            · skip
              have PQ : p.key ≠ x.key := by first | exact eQ | (exfalso; rw [gp] at gq; cases gq)
              have au : 1 = ey l := by unfold ey; rw [if_neg (by have := of_decide_eq_false dp; omega), gR, sX hx (by simpa using iI) PO, if_neg PQ, if_pos (of_decide_eq_true pJ)]
              simp only [hw,List.getElem?_map,hx,ag,ab,ah,tB,jc,List.length_map,go_sem,reduceIte,zA,zB,zC,zD,zE,zF,reduceCtorEq]
              exact hK _ (congrArg num au)
            · skip
              have yi : ∀ p, bQ l i = some p → p.key ≠ x.key ∧ ¬ 0 < p.cmp x := by
                intro q hq
                first
                  | (have h1 := of_decide_eq_false pJ; rw [Ee] at hq; cases hq; exact ⟨eQ, h1⟩)
                  | (have h1 := of_decide_eq_false gp; have h0 : i = 0 := (by omega); rw [h0] at hq; cases hq)
                  | (have h1 := of_decide_eq_false gq; exfalso; omega)
              simp only [hw,List.getElem?_map,hx,ag,ab,ah,tB,jc,List.length_map,go_sem,reduceIte,zA,zB,zC,zD,zE,zF,reduceCtorEq]
              refine cd _ (cC (by omega) (by simp only [hw,List.getElem?_map,hx,ag,ab,ah,tB,jc,List.length_map,go_sem,reduceIte,zA,zB,zC,zD,zE,zF,reduceCtorEq]) ?_ ?_) <;> simp only [fh,lk,reduceIte,zE]
              · exact ⟨i + 1, rfl, az, by rw [gR]; exact ml hx (by simpa using iI) yi⟩
              · simp only [Go.Eng.intOf,List.headD_cons]; omega
          · skip
            have yi : ∀ p, bQ l i = some p → p.key ≠ x.key ∧ ¬ 0 < p.cmp x := by
              intro q hq
              first
                | (have h1 := of_decide_eq_false pJ; rw [Ee] at hq; cases hq; exact ⟨eQ, h1⟩)
                | (have h1 := of_decide_eq_false gp; have h0 : i = 0 := (by omega); rw [h0] at hq; cases hq)
                | (have h1 := of_decide_eq_false gq; exfalso; omega)
            simp only [hw,List.getElem?_map,hx,ag,ab,ah,List.length_map,go_sem,reduceIte,zA,zB,zC,zD,zE,zF,reduceCtorEq]
            refine cd _ (cC (by omega) (by simp only [hw,List.getElem?_map,hx,ag,ab,ah,List.length_map,go_sem,reduceIte,zA,zB,zC,zD,zE,zF,reduceCtorEq]) ?_ ?_) <;> simp only [fh,lk,reduceIte,zE]
            · exact ⟨i + 1, rfl, az, by rw [gR]; exact ml hx (by simpa using iI) yi⟩
            · simp only [Go.Eng.intOf,List.headD_cons]; omega
    · skip
      have cH : ¬ i < l.length := by simpa using cX
      have au : 0 = ey l := by unfold ey; rw [if_neg (by have := of_decide_eq_false dp; omega), gR, List.drop_eq_nil_of_le (by omega)]; rfl
      simp only [List.length_map,go_sem,reduceIte,zA,zB,zC,zD,zE,zF,reduceCtorEq]
      exact hK _ (congrArg num au)
end Go.Proofs.YtnfeacnbgbggfaaGreatDoor
end

section
namespace Go.Proofs.YtnfeacnbgbggfaaGreatDoor
open Go.Eng
open Nat renaming reduceAdd → zA, reduceLT → zB, reduceLeDiff → zC, reduceMul → zD, reduceEqDiff → zE, reduceSub → zF
variable [aE]
set_option maxHeartbeats 4000000
set_option maxRecDepth 100000
theorem ER {l : List Rl} {s : dA} (h : ∀ j < l.length, ∀ x, l[j]? = some x → x.key ≠ s) : (l.find? fun r => decide (r.key = s)) = none := by
 rw [List.find?_eq_none]
 intro x hx
 obtain ⟨j, hj⟩ := List.mem_iff_getElem?.1 hx
 have := h j (List.getElem?_eq_some_iff.1 hj).1 x hj
 simpa using this
theorem Ly {l : List Rl} {s : dA} {i : Nat} {x : Rl} (hx : l[i]? = some x) (hk : x.key = s) (h : ∀ j < i, ∀ x, l[j]? = some x → x.key ≠ s) : (l.find? fun r => decide (r.key = s)) = some x := by
 have az := (List.getElem?_eq_some_iff.1 hx).1
 rw [List.find?_eq_some_iff_getElem]
 refine ⟨by simpa using hk, i, az, (List.getElem?_eq_some_iff.1 hx).2, fun j hj => ?_⟩
 have := h j hj _ (List.getElem?_eq_getElem (by omega))
 simpa using this
theorem PR {l : List Rl} {s : dA} (h : ey l ≠ 0) : qV l s = none := by unfold qV aq; rw [if_neg h]; rfl
theorem Is {l : List Rl} {s : dA} (h : ey l = 0) : qV l s = l.find? fun r => decide (r.key = s) := by unfold qV aq; rw [if_pos h]
theorem vd (v : er) (h : v.ok = true) : ∃ r_, (fun w => w = num (v.place)) r_ ∧ aQ Tryz.prog 87 [bM v] r_ := by
 refine dZ tt_ok [] 9 [.tmp 2] (fn := Tryz.f87) Tryz.func87 rfl Tryz.call87 ⟨rfl, rfl, by simp⟩ fun K hK => ?_
 simp only [bM]
 obtain ⟨w1, w2, -, -⟩ := kn h
 simp only [w1,w2,go_sem,reduceIte,zA,zB,zC,zD,zE,zF,reduceCtorEq]
 exact hK _ rfl
theorem zn (l : List Rl) (I : List V) (hb : w6 l) (p : ByteArray) (v : er) : ∃ r_, (fun w => w = .bP [ag ((qV l ⟨p, v⟩).getD nG), bl (qV l ⟨p, v⟩).isSome]) r_ ∧ aQ Tryz.prog 35 [bA l I, str p, bM v] r_ := by
 refine dZ tt_ok [] 44 [.cell 6 40, .tmp 7] (fn := Tryz.f35) Tryz.func35 rfl Tryz.call35 ⟨rfl, rfl, by simp⟩ fun K hK => ?_
 simp only [bA,bh,bM]
 have Bj := hb.1
 simp only [List.length_map,aJ,go_sem,reduceIte,zA,zB,zC,zD,zE,zF,reduceCtorEq]
 refine cF (by have h := pZ l I hb; simp only [bA,bh] at h; exact h) ?_
 rintro _ rfl
 simp only [List.length_map,aJ,go_sem,reduceIte,zA,zB,zC,zD,zE,zF,reduceCtorEq]
 refine aN (fun PS => ?_) (fun PS => ?_)
 ·have IJ : qV l ⟨p, v⟩ = none := PR (by simpa using PS)
  simp only [List.length_map,aJ,go_sem,reduceIte,zA,zB,zC,zD,zE,zF,reduceCtorEq]
  refine hK _ ?_
  rw [IJ]
  first
   | rfl
   | (simp [ag, ab, ah]; done)
 ·have nY : ey l = 0 := by simpa using PS
  simp only [List.length_map,aJ,go_sem,reduceIte,zA,zB,zC,zD,zE,zF,reduceCtorEq]
  refine bx tt_ok [] [8] 3 [1,3,5,6,11] (fun vs => ((l.length : Int) - Go.Eng.intOf (vs.headD .undef)).toNat) (fun vs => ∃ i : Nat, vs = [num i] ∧ i ≤ l.length ∧ ∀ j < i, ∀ x, l[j]? = some x → x.key ≠ ⟨p, v⟩) (by omega) (by simp only [List.length_map,aJ,go_sem,reduceIte,zA,zB,zC,zD,zE,zF,reduceCtorEq]) (⟨0, rfl, Nat.zero_le _, fun j hj => absurd hj (Nat.not_lt_zero j)⟩) fun vs hI Z1 cd => ?_
  obtain ⟨i, rfl, hi, aV⟩ := hI
  simp only [List.length_map,aJ,go_sem,reduceIte,zA,zB,zC,zD,zE,zF,reduceCtorEq]
  refine aN (fun lE => ?_) (fun lE => ?_)
  ·have az : i < l.length := by simpa using lE
   have hw := ay i (by omega)
   obtain ⟨x, hx⟩ : ∃ x, l[i]? = some x := ⟨_, List.getElem?_eq_getElem az⟩
   have wv := fun a b => cO a b x.aA v
   simp only [hw,List.getElem?_map,hx,ag,ab,ah,wv,List.length_map,aJ,go_sem,reduceIte,zA,zB,zC,zD,zE,zF,reduceCtorEq]
   refine bu tt_ok aG [⟨.n, 0, [], [], []⟩, ⟨.r, 0, [], [], []⟩, ⟨.n, 0, [], [], []⟩, ⟨.r, 0, [], [], []⟩, ⟨.n, 0, [], [], []⟩, ⟨.r, 0, [], [], []⟩, ⟨.n, 0, [], [], []⟩, ⟨.n, 0, [], [], []⟩, ⟨.n, 0, [], [], []⟩, ⟨.n, 0, [], [], []⟩, ⟨.r, 0, [], [], []⟩, ⟨.n, 0, [], [], []⟩, ⟨.r, 0, [], [], []⟩, ⟨.n, 0, [], [], []⟩, ⟨.r, 0, [], [], []⟩, ⟨.r, 0, [], [], []⟩, ⟨.n, 0, [], [], []⟩, ⟨.n, 0, [], [], []⟩] 0 (by kernel_rfl) ?_
   simp only [hw,List.getElem?_map,hx,ag,ab,ah,wv,List.length_map,aJ,go_sem,reduceIte,zA,zB,zC,zD,zE,zF,reduceCtorEq]
   refine aN (fun Tu => ?_) (fun Tu => ?_)
   ·simp only [hw,List.getElem?_map,hx,ag,ab,ah,wv,List.length_map,aJ,go_sem,reduceIte,zA,zB,zC,zD,zE,zF,reduceCtorEq]
    refine aN (fun qU => ?_) (fun qU => ?_)
    ·have ZH : x.key = ⟨p, v⟩ := by simp_all [Rl.key]
     have IJ : qV l ⟨p, v⟩ = some x := by rw [Is nY]; exact Ly hx ZH aV
     simp only [hw,List.getElem?_map,hx,ag,ab,ah,wv,List.length_map,aJ,go_sem,reduceIte,zA,zB,zC,zD,zE,zF,reduceCtorEq]
     refine hK _ ?_
     rw [IJ]
     first
      | rfl
      | (simp [ag, ab, ah]; done)
    ·have eQ : x.key ≠ ⟨p, v⟩ := fun e => by simp_all [Rl.key]
     simp only [hw,List.getElem?_map,hx,ag,ab,ah,wv,List.length_map,aJ,go_sem,reduceIte,zA,zB,zC,zD,zE,zF,reduceCtorEq]
     refine cd _ (cC (by omega) (by simp only [hw,List.getElem?_map,hx,ag,ab,ah,wv,List.length_map,aJ,go_sem,reduceIte,zA,zB,zC,zD,zE,zF,reduceCtorEq]) ?_ ?_) <;> simp only [fh,lk,reduceIte,zE]
     ·refine ⟨i + 1, rfl, az, fun j hj => ?_⟩
      rcases Nat.lt_or_ge j i with h | h
      ·exact aV j h
      ·obtain rfl : j = i := by omega
       intro y hy
       rw [hx] at hy; cases hy; exact eQ
     ·simp only [Go.Eng.intOf,List.headD_cons]; omega
   ·have eQ : x.key ≠ ⟨p, v⟩ := fun e => by simp_all [Rl.key]
    simp only [hw,List.getElem?_map,hx,ag,ab,ah,wv,List.length_map,aJ,go_sem,reduceIte,zA,zB,zC,zD,zE,zF,reduceCtorEq]
    refine cd _ (cC (by omega) (by simp only [hw,List.getElem?_map,hx,ag,ab,ah,wv,List.length_map,aJ,go_sem,reduceIte,zA,zB,zC,zD,zE,zF,reduceCtorEq]) ?_ ?_) <;> simp only [fh,lk,reduceIte,zE]
    ·refine ⟨i + 1, rfl, az, fun j hj => ?_⟩
     rcases Nat.lt_or_ge j i with h | h
     ·exact aV j h
     ·obtain rfl : j = i := by omega
      intro y hy
      rw [hx] at hy; cases hy; exact eQ
    ·simp only [Go.Eng.intOf,List.headD_cons]; omega
  ·have cH : ¬ i < l.length := by simpa using lE
   have IJ : qV l ⟨p, v⟩ = none := by rw [Is nY]; exact ER fun j hj => aV j (by omega)
   simp only [List.length_map,aJ,go_sem,reduceIte,zA,zB,zC,zD,zE,zF,reduceCtorEq]
   refine hK _ ?_
   rw [IJ]
   first
    | rfl
    | (simp [ag, ab, ah]; done)
end Go.Proofs.YtnfeacnbgbggfaaGreatDoor
end

section
namespace Go.Proofs.YtnfeacnbgbggfaaGreatDoor
open Go.Eng
variable [aE]
set_option maxHeartbeats 4000000
set_option maxRecDepth 100000
theorem PT {r : Rl} (h : gi r = 0) : r.aA.ok = true := by
 cases ho : r.aA.ok with
 | true => rfl
 | false =>
  exfalso
  unfold gi at h
  by_cases h1 : bC r.path ≠ 0
  ·rw [if_pos h1] at h; cases h
  ·rw [if_neg h1, if_pos (by rw [ho]; rfl)] at h; cases h
theorem PU {l : List Rl} (h : ey l = 0) {x : Rl} (hx : x ∈ l) : gi x = 0 := rA (l := l) (by unfold aq; rw [if_pos h]; exact hx)
end Go.Proofs.YtnfeacnbgbggfaaGreatDoor
end

section
namespace Go.Proofs.YtnfeacnbgbggfaaGreatDoor
open Go.Eng
variable [aE]
set_option maxHeartbeats 4000000
set_option maxRecDepth 100000
end Go.Proofs.YtnfeacnbgbggfaaGreatDoor
end

section
namespace Go.Proofs.YtnfeacnbgbggfaaGreatDoor
open Go.Eng

variable [aE]
theorem It {a b : ByteArray} (h : jO a b = true) : jO b a = false := by
 rw [nr, decide_eq_true_eq] at h
 rw [nr]
 exact decide_eq_false fun h2 => List.lt_asymm h h2
theorem Iu {a b : ByteArray} (h1 : jO b a = false) (h2 : jO a b = false) : a = b := by
 rw [nr, decide_eq_false_iff_not] at h1 h2
 obtain ⟨⟨x⟩⟩ := a
 obtain ⟨⟨y⟩⟩ := b
 have : x = y := List.le_antisymm (List.not_lt.1 h1) (List.not_lt.1 h2)
 rw [this]
end Go.Proofs.YtnfeacnbgbggfaaGreatDoor
end

section
namespace Go.Proofs.YtnfeacnbgbggfaaGreatDoor
open Go.Eng
open Nat renaming reduceAdd → zA, reduceLT → zB, reduceLeDiff → zC, reduceMul → zD, reduceEqDiff → zE, reduceSub → zF
variable [aE]
set_option maxHeartbeats 4000000
set_option maxRecDepth 100000
theorem Iv {α : Type} {p : α → Bool} {l : List α} (h : ∀ j < l.length, ∀ x, l[j]? = some x → p x = false) : false = l.any p := by
 refine (List.any_eq_false.2 fun x hx => ?_).symm
 obtain ⟨j, hj⟩ := List.mem_iff_getElem?.1 hx
 rw [h j (List.getElem?_eq_some_iff.1 hj).1 x hj]; simp
theorem Db {α : Type} {p : α → Bool} {l : List α} {i : Nat} {x : α} (h : l[i]? = some x) (hp : p x = true) : true = l.any p := (List.any_eq_true.2 ⟨x, List.mem_of_getElem? h, hp⟩).symm
theorem Lz {s : List dA} {i : Nat} {a b : dA} (ha : s[i]? = some a) (hb : s[i + 1]? = some b) (h : jO a.path b.path = false) : false = gX s := by
 cases hi : gX s with
 | false => rfl
 | true => rw [(lQ s).1 hi i a b ha hb] at h; cases h
theorem PV {a b : ByteArray} (h : (Op.bytesLess b.toList a.toList || b.toList == a.toList) = false) : jO a b = true := by
 rw [aJ] at h
 simp only [Bool.or_eq_false_iff,decide_eq_false_iff_not] at h
 cases h1 : jO a b with
 | true => rfl
 | false => exact absurd (Iu h1 h.1) h.2
theorem PW {a b : ByteArray} (h : (Op.bytesLess b.toList a.toList || b.toList == a.toList) = true) : jO a b = false := by
 cases h1 : jO a b with
 | false => rfl
 | true =>
  rw [aJ] at h
  simp only [Bool.or_eq_true,decide_eq_true_eq] at h
  rcases h with h | h
  ·have h2 := It h1; unfold jO at h2; rw [h] at h2; cases h2
  ·subst h; rw [C9] at h1; cases h1
theorem zo (q : Rq) (r : Rl) (hq : qD q) (hv : r.aA.ok = true) : ∃ r_, (fun w => w = bl (eg q r)) r_ ∧ aQ Tryz.prog 91 [aj q, ag r] r_ := by
 refine dZ tt_ok [] 18 [.tmp 4] (fn := Tryz.f91) Tryz.func91 rfl Tryz.call91 ⟨rfl, rfl, by simp⟩ fun K hK => ?_
 simp only [aj,ag,ab]
 simp only [aJ,go_sem,reduceIte,zA,zB,zC,zD,zE,zF,reduceCtorEq]
 refine bu tt_ok aG [⟨.n, 0, [], [], []⟩, ⟨.r, 0, [], [], []⟩, ⟨.n, 0, [], [], []⟩, ⟨.r, 0, [], [], []⟩, ⟨.n, 0, [], [], []⟩, ⟨.n, 0, [], [], []⟩, ⟨.n, 0, [], [], []⟩, ⟨.r, 0, [], [], []⟩, ⟨.n, 0, [], [], []⟩, ⟨.r, 0, [], [], []⟩, ⟨.n, 0, [], [], []⟩, ⟨.n, 0, [], [], []⟩, ⟨.n, 0, [], [], []⟩, ⟨.n, 0, [], [], []⟩] 0 (by kernel_rfl) ?_
 simp only [aJ,go_sem,reduceIte,zA,zB,zC,zD,zE,zF,reduceCtorEq]
 refine aN (fun ta => ?_) (fun ta => ?_)
 ·simp only [aJ,go_sem,reduceIte,zA,zB,zC,zD,zE,zF,reduceCtorEq]
  refine cG (by have h := vd r.aA hv; simp only [bM] at h; exact h) ?_
  rintro _ rfl
  simp only [aJ,go_sem,reduceIte,zA,zB,zC,zD,zE,zF,reduceCtorEq]
  refine cG (by have h := Cz q.set r.aA.place hq.2; simp only [al] at h; exact h) ?_
  rintro _ rfl
  simp only [aJ,go_sem,reduceIte,zA,zB,zC,zD,zE,zF,reduceCtorEq]
  exact hK _ (congrArg bl (by unfold eg; simp_all))
 ·simp only [aJ,go_sem,reduceIte,zA,zB,zC,zD,zE,zF,reduceCtorEq]
  exact hK _ (congrArg bl (by unfold eg; simp_all))
theorem zp (l : List Rq) (r : Rl) (hl : l.length ≤ 1048576) (hb : ∀ q ∈ l, qD q) (hv : r.aA.ok = true) : ∃ r_, (fun w => w = bl (l.any fun q => eg q r)) r_ ∧ aQ Tryz.prog 50 [ah l, ag r] r_ := by
 refine dZ tt_ok [] 18 [.tmp 4] (fn := Tryz.f50) Tryz.func50 rfl Tryz.call50 ⟨rfl, rfl, by simp⟩ fun K hK => ?_
 simp only [ag,ab]
 simp only [List.length_map,go_sem,reduceIte,zA,zB,zC,zD,zE,zF,reduceCtorEq]
 refine bx tt_ok [] [5] 1 [0,3] (fun vs => ((l.length : Int) - Go.Eng.intOf (vs.headD .undef)).toNat) (fun vs => ∃ i : Nat, vs = [num i] ∧ i ≤ l.length ∧ ∀ j < i, ∀ x, l[j]? = some x → eg x r = false) (by omega) (by simp only [List.length_map,go_sem,reduceIte,zA,zB,zC,zD,zE,zF,reduceCtorEq]) (⟨0, rfl, Nat.zero_le _, fun j hj => absurd hj (Nat.not_lt_zero j)⟩) fun vs hI Z1 cd => ?_
 obtain ⟨i, rfl, hi, aV⟩ := hI
 simp only [List.length_map,go_sem,reduceIte,zA,zB,zC,zD,zE,zF,reduceCtorEq]
 refine aN (fun ga => ?_) (fun ga => ?_)
 ·have az : i < l.length := by simpa using ga
  have hw := ay i (by omega)
  obtain ⟨x, hx⟩ : ∃ x, l[i]? = some x := ⟨_, List.getElem?_eq_getElem az⟩
  simp only [hw,List.getElem?_map,hx,aj,List.length_map,go_sem,reduceIte,zA,zB,zC,zD,zE,zF,reduceCtorEq]
  refine bu tt_ok aG [⟨.n, 0, [], [], []⟩, ⟨.n, 0, [], [], []⟩, ⟨.r, 0, [], [], []⟩, ⟨.r, 0, [], [], []⟩, ⟨.r, 0, [], [], []⟩, ⟨.n, 0, [], [], []⟩] 0 (by kernel_rfl) ?_
  simp only [hw,List.getElem?_map,hx,aj,List.length_map,go_sem,reduceIte,zA,zB,zC,zD,zE,zF,reduceCtorEq]
  refine cG (by have h := zo x r (hb x (List.mem_of_getElem? hx)) hv; simp only [aj,ag,ab,al,ah] at h; exact h) ?_
  rintro _ rfl
  simp only [hw,List.getElem?_map,hx,aj,List.length_map,go_sem,reduceIte,zA,zB,zC,zD,zE,zF,reduceCtorEq]
  refine aN (fun lE => ?_) (fun lE => ?_)
  ·have au : true = l.any fun q => eg q r := Db hx (by simpa using lE)
   simp only [hw,List.getElem?_map,hx,aj,List.length_map,go_sem,reduceIte,zA,zB,zC,zD,zE,zF,reduceCtorEq]
   exact hK _ (congrArg bl au)
  ·simp only [hw,List.getElem?_map,hx,aj,List.length_map,go_sem,reduceIte,zA,zB,zC,zD,zE,zF,reduceCtorEq]
   refine cd _ (cC (by omega) (by simp only [hw,List.getElem?_map,hx,aj,List.length_map,go_sem,reduceIte,zA,zB,zC,zD,zE,zF,reduceCtorEq]) ?_ ?_) <;> simp only [fh,lk,reduceIte,zE]
   ·refine ⟨i + 1, rfl, az, fun j hj => ?_⟩
    rcases Nat.lt_or_ge j i with h | h
    ·exact aV j h
    ·obtain rfl : j = i := by omega
     intro y hy
     rw [hx] at hy; cases hy; simpa using lE
   ·simp only [Go.Eng.intOf,List.headD_cons]; omega
 ·have cH : ¬ i < l.length := by simpa using ga
  have au : false = l.any fun q => eg q r := Iv fun j hj => aV j (by omega)
  simp only [List.length_map,go_sem,reduceIte,zA,zB,zC,zD,zE,zF,reduceCtorEq]
  exact hK _ (congrArg bl au)
theorem LA (q : Rq) (hq : qD q) (s : List dA) (hl : s.length ≤ 1048576) (hv : ∀ y ∈ s, y.aA.ok = true) : ∃ r_, (fun w => w = bl (s.any fun y => decide (y.path = q.path) && has q.set y.aA.place)) r_ ∧ aQ Tryz.prog 54 [aj q, aX s] r_ := by
 refine dZ tt_ok [] 31 [.tmp 4] (fn := Tryz.f54) Tryz.func54 rfl Tryz.call54 ⟨rfl, rfl, by simp⟩ fun K hK => ?_
 simp only [aj]
 simp only [List.length_map,aJ,go_sem,reduceIte,zA,zB,zC,zD,zE,zF,reduceCtorEq]
 refine bx tt_ok [] [5] 1 [1,2] (fun vs => ((s.length : Int) - Go.Eng.intOf (vs.headD .undef)).toNat) (fun vs => ∃ i : Nat, vs = [num i] ∧ i ≤ s.length ∧ ∀ j < i, ∀ x, s[j]? = some x → (decide (x.path = q.path) && has q.set x.aA.place) = false) (by omega) (by simp only [List.length_map,aJ,go_sem,reduceIte,zA,zB,zC,zD,zE,zF,reduceCtorEq]) (⟨0, rfl, Nat.zero_le _, fun j hj => absurd hj (Nat.not_lt_zero j)⟩) fun vs hI Z1 cd => ?_
 obtain ⟨i, rfl, hi, aV⟩ := hI
 simp only [List.length_map,aJ,go_sem,reduceIte,zA,zB,zC,zD,zE,zF,reduceCtorEq]
 refine aN (fun ga => ?_) (fun ga => ?_)
 ·have az : i < s.length := by simpa using ga
  have hw := ay i (by omega)
  obtain ⟨x, hx⟩ : ∃ x, s[i]? = some x := ⟨_, List.getElem?_eq_getElem az⟩
  simp only [hw,List.getElem?_map,hx,aH,List.length_map,aJ,go_sem,reduceIte,zA,zB,zC,zD,zE,zF,reduceCtorEq]
  refine bu tt_ok aG [⟨.n, 0, [], [], []⟩, ⟨.n, 0, [], [], []⟩, ⟨.r, 0, [], [], []⟩, ⟨.n, 0, [], [], []⟩, ⟨.r, 0, [], [], []⟩, ⟨.n, 0, [], [], []⟩, ⟨.r, 0, [], [], []⟩, ⟨.n, 0, [], [], []⟩, ⟨.n, 0, [], [], []⟩, ⟨.n, 0, [], [], []⟩, ⟨.r, 0, [], [], []⟩, ⟨.n, 0, [], [], []⟩, ⟨.n, 0, [], [], []⟩, ⟨.r, 0, [], [], []⟩, ⟨.n, 0, [], [], []⟩, ⟨.r, 0, [], [], []⟩, ⟨.n, 0, [], [], []⟩, ⟨.n, 0, [], [], []⟩, ⟨.n, 0, [], [], []⟩] 0 (by kernel_rfl) ?_
  simp only [hw,List.getElem?_map,hx,aH,List.length_map,aJ,go_sem,reduceIte,zA,zB,zC,zD,zE,zF,reduceCtorEq]
  refine aN (fun GU => ?_) (fun GU => ?_)
  ·simp only [hw,List.getElem?_map,hx,aH,List.length_map,aJ,go_sem,reduceIte,zA,zB,zC,zD,zE,zF,reduceCtorEq]
   refine cG (by have h := vd x.aA (hv x (List.mem_of_getElem? hx)); simp only [bM] at h; exact h) ?_
   rintro _ rfl
   simp only [hw,List.getElem?_map,hx,aH,List.length_map,aJ,go_sem,reduceIte,zA,zB,zC,zD,zE,zF,reduceCtorEq]
   refine cG (by have h := Cz q.set x.aA.place hq.2; simp only [al] at h; exact h) ?_
   rintro _ rfl
   simp only [hw,List.getElem?_map,hx,aH,List.length_map,aJ,go_sem,reduceIte,zA,zB,zC,zD,zE,zF,reduceCtorEq]
   refine aN (fun WM => ?_) (fun WM => ?_)
   ·have au : true = s.any fun y => decide (y.path = q.path) && has q.set y.aA.place := Db hx (by simp_all)
    simp only [hw,List.getElem?_map,hx,aH,List.length_map,aJ,go_sem,reduceIte,zA,zB,zC,zD,zE,zF,reduceCtorEq]
    exact hK _ (congrArg bl au)
   ·simp only [hw,List.getElem?_map,hx,aH,List.length_map,aJ,go_sem,reduceIte,zA,zB,zC,zD,zE,zF,reduceCtorEq]
    refine cd _ (cC (by omega) (by simp only [hw,List.getElem?_map,hx,aH,List.length_map,aJ,go_sem,reduceIte,zA,zB,zC,zD,zE,zF,reduceCtorEq]) ?_ ?_) <;> simp only [fh,lk,reduceIte,zE]
    ·refine ⟨i + 1, rfl, az, fun j hj => ?_⟩
     rcases Nat.lt_or_ge j i with h | h
     ·exact aV j h
     ·obtain rfl : j = i := by omega
      intro y hy
      rw [hx] at hy; cases hy; simp_all
    ·simp only [Go.Eng.intOf,List.headD_cons]; omega
  ·simp only [hw,List.getElem?_map,hx,aH,List.length_map,aJ,go_sem,reduceIte,zA,zB,zC,zD,zE,zF,reduceCtorEq]
   refine cd _ (cC (by omega) (by simp only [hw,List.getElem?_map,hx,aH,List.length_map,aJ,go_sem,reduceIte,zA,zB,zC,zD,zE,zF,reduceCtorEq]) ?_ ?_) <;> simp only [fh,lk,reduceIte,zE]
   ·refine ⟨i + 1, rfl, az, fun j hj => ?_⟩
    rcases Nat.lt_or_ge j i with h | h
    ·exact aV j h
    ·obtain rfl : j = i := by omega
     intro y hy
     rw [hx] at hy; cases hy; simp_all
   ·simp only [Go.Eng.intOf,List.headD_cons]; omega
 ·have cH : ¬ i < s.length := by simpa using ga
  have au : false = s.any fun y => decide (y.path = q.path) && has q.set y.aA.place := Iv fun j hj => aV j (by omega)
  simp only [List.length_map,aJ,go_sem,reduceIte,zA,zB,zC,zD,zE,zF,reduceCtorEq]
  exact hK _ (congrArg bl au)
theorem Iw (s : List dA) (hl : s.length ≤ 1048576) : ∃ r_, (fun w => w = bl (gX s)) r_ ∧ aQ Tryz.prog 53 [aX s] r_ := by
 refine dZ tt_ok [] 22 [.tmp 2] (fn := Tryz.f53) Tryz.func53 rfl Tryz.call53 ⟨rfl, rfl, by simp⟩ fun K hK => ?_
 simp only [List.length_map,aR,go_sem,reduceIte,zA,zB,zC,zD,zE,zF,reduceCtorEq]
 refine bx tt_ok [] [3] 0 [0] (fun vs => ((s.length : Int) + 1 - Go.Eng.intOf (vs.headD .undef)).toNat) (fun vs => ∃ i : Nat, vs = [num (i + 1 : Nat)] ∧ i ≤ s.length ∧ ∀ j < i, ∀ a b, s[j]? = some a → s[j + 1]? = some b → jO a.path b.path = true) (by omega) (by simp only [List.length_map,aR,go_sem,reduceIte,zA,zB,zC,zD,zE,zF,reduceCtorEq]) (⟨0, rfl, Nat.zero_le _, fun j hj => absurd hj (Nat.not_lt_zero j)⟩) fun vs hI Z1 cd => ?_
 obtain ⟨i, rfl, hi, aV⟩ := hI
 simp only [List.length_map,aR,go_sem,reduceIte,zA,zB,zC,zD,zE,zF,reduceCtorEq]
 refine aN (fun AS => ?_) (fun AS => ?_)
 ·have WN : i + 1 < s.length := by have := of_decide_eq_true AS; omega
  have az : i < s.length := by omega
  have hw := ay (i + 1) (by omega)
  have eu : IntKind.i64.wrap (((i + 1 : Nat) : Int) - 1) = (i : Int) := jA _ i (by omega) (by omega)
  obtain ⟨x, hx⟩ : ∃ x, s[i]? = some x := ⟨_, List.getElem?_eq_getElem az⟩
  obtain ⟨y, hy⟩ : ∃ y, s[i + 1]? = some y := ⟨_, List.getElem?_eq_getElem WN⟩
  simp only [hw,eu,List.getElem?_map,hx,hy,aH,List.length_map,aR,go_sem,reduceIte,zA,zB,zC,zD,zE,zF,reduceCtorEq]
  refine bu tt_ok aG [⟨.n, 0, [], [], []⟩, ⟨.n, 0, [], [], []⟩, ⟨.r, 0, [], [], []⟩, ⟨.n, 0, [], [], []⟩, ⟨.r, 0, [], [], []⟩, ⟨.n, 0, [], [], []⟩, ⟨.n, 0, [], [], []⟩, ⟨.n, 0, [], [], []⟩, ⟨.r, 0, [], [], []⟩, ⟨.n, 0, [], [], []⟩, ⟨.r, 0, [], [], []⟩, ⟨.n, 0, [], [], []⟩] 0 (by kernel_rfl) ?_
  simp only [hw,eu,List.getElem?_map,hx,hy,aH,List.length_map,aR,go_sem,reduceIte,zA,zB,zC,zD,zE,zF,reduceCtorEq]
  refine aN (fun gV => ?_) (fun gV => ?_)
  ·have au : false = gX s := Lz hx hy (PW (by simpa using gV))
   simp only [hw,eu,List.getElem?_map,hx,hy,aH,List.length_map,aR,go_sem,reduceIte,zA,zB,zC,zD,zE,zF,reduceCtorEq]
   exact hK _ (congrArg bl au)
  ·simp only [hw,eu,List.getElem?_map,hx,hy,aH,List.length_map,aR,go_sem,reduceIte,zA,zB,zC,zD,zE,zF,reduceCtorEq]
   refine cd _ (cC (by omega) (by simp only [hw,eu,List.getElem?_map,hx,hy,aH,List.length_map,aR,go_sem,reduceIte,zA,zB,zC,zD,zE,zF,reduceCtorEq]) ?_ ?_) <;> simp only [fh,lk,reduceIte,zE]
   ·refine ⟨i + 1, rfl, by omega, fun j hj => ?_⟩
    rcases Nat.lt_or_ge j i with h | h
    ·exact aV j h
    ·obtain rfl : j = i := by omega
     intro a b ha hb
     rw [hx] at ha; rw [hy] at hb; cases ha; cases hb
     exact PV (by simpa using gV)
   ·simp only [Go.Eng.intOf,List.headD_cons]; omega
 ·have cH : ¬ i + 1 < s.length := by have := of_decide_eq_false AS; omega
  have au : true = gX s := ((lQ s).2 fun j a b ha hb => aV j (by have := (List.getElem?_eq_some_iff.1 hb).1; omega) a b ha hb).symm
  simp only [List.length_map,aR,go_sem,reduceIte,zA,zB,zC,zD,zE,zF,reduceCtorEq]
  exact hK _ (congrArg bl au)
theorem ES (s t : List dA) (hl : s.length ≤ 1048576) : ∃ r_, (fun w => w = bl (decide (s = t))) r_ ∧ aQ Tryz.prog 12 [aX s, aX t] r_ := by
 refine dZ tt_ok [] 26 [.tmp 4] (fn := Tryz.f12) Tryz.func12 rfl Tryz.call12 ⟨rfl, rfl, by simp⟩ fun K hK => ?_
 simp only [List.length_map,eD,go_sem,reduceIte,zA,zB,zC,zD,zE,zF,reduceCtorEq]
 refine aN (fun dp => ?_) (fun dp => ?_)
 ·have au : false = decide (s = t) := by
   refine (decide_eq_false fun e => ?_).symm
   subst e; simp at dp
  simp only [List.length_map,eD,go_sem,reduceIte,zA,zB,zC,zD,zE,zF,reduceCtorEq]
  exact hK _ (congrArg bl au)
 ·have gR : s.length = t.length := by have := dp; simp at this; omega
  simp only [List.length_map,eD,go_sem,reduceIte,zA,zB,zC,zD,zE,zF,reduceCtorEq]
  refine bx tt_ok [] [5] 0 [0,1,10] (fun vs => ((s.length : Int) - Go.Eng.intOf (vs.headD .undef)).toNat) (fun vs => ∃ i : Nat, vs = [num i] ∧ i ≤ s.length ∧ ∀ j < i, s[j]? = t[j]?) (by omega) (by simp only [List.length_map,eD,go_sem,reduceIte,zA,zB,zC,zD,zE,zF,reduceCtorEq]) (⟨0, rfl, Nat.zero_le _, fun j hj => absurd hj (Nat.not_lt_zero j)⟩) fun vs hI Z1 cd => ?_
  obtain ⟨i, rfl, hi, aV⟩ := hI
  simp only [List.length_map,eD,go_sem,reduceIte,zA,zB,zC,zD,zE,zF,reduceCtorEq]
  refine aN (fun cX => ?_) (fun cX => ?_)
  ·have az : i < s.length := by simpa using cX
   have hw := ay i (by omega)
   obtain ⟨x, hx⟩ : ∃ x, s[i]? = some x := ⟨_, List.getElem?_eq_getElem az⟩
   obtain ⟨y, hy⟩ : ∃ y, t[i]? = some y := ⟨_, List.getElem?_eq_getElem (by omega)⟩
   simp only [hw,List.getElem?_map,hx,hy,aH,List.length_map,eD,go_sem,reduceIte,zA,zB,zC,zD,zE,zF,reduceCtorEq]
   refine bu tt_ok aG [⟨.n, 0, [], [], []⟩, ⟨.n, 0, [], [], []⟩, ⟨.r, 0, [], [], []⟩, ⟨.r, 0, [], [], []⟩, ⟨.n, 0, [], [], []⟩, ⟨.n, 0, [], [], []⟩, ⟨.r, 0, [], [], []⟩, ⟨.r, 0, [], [], []⟩, ⟨.n, 0, [], [], []⟩] 0 (by kernel_rfl) ?_
   simp only [hw,List.getElem?_map,hx,hy,aH,List.length_map,eD,go_sem,reduceIte,zA,zB,zC,zD,zE,zF,reduceCtorEq]
   refine aN (fun fm => ?_) (fun fm => ?_)
   ·have au : false = decide (s = t) := by
     refine (decide_eq_false fun e => ?_).symm
     subst e; rw [hx] at hy; cases hy; simp at fm
    simp only [hw,List.getElem?_map,hx,hy,aH,List.length_map,eD,go_sem,reduceIte,zA,zB,zC,zD,zE,zF,reduceCtorEq]
    exact hK _ (congrArg bl au)
   ·simp only [hw,List.getElem?_map,hx,hy,aH,List.length_map,eD,go_sem,reduceIte,zA,zB,zC,zD,zE,zF,reduceCtorEq]
    refine cd _ (cC (by omega) (by simp only [hw,List.getElem?_map,hx,hy,aH,List.length_map,eD,go_sem,reduceIte,zA,zB,zC,zD,zE,zF,reduceCtorEq]) ?_ ?_) <;> simp only [fh,lk,reduceIte,zE]
    ·refine ⟨i + 1, rfl, az, fun j hj => ?_⟩
     rcases Nat.lt_or_ge j i with h | h
     ·exact aV j h
     ·obtain rfl : j = i := by omega
      rw [hx, hy]
      have := fm
      simp_all
    ·simp only [Go.Eng.intOf,List.headD_cons]; omega
  ·have cH : ¬ i < s.length := by simpa using cX
   have au : true = decide (s = t) := (decide_eq_true (ko gR fun j hj => aV j (by omega))).symm
   simp only [List.length_map,eD,go_sem,reduceIte,zA,zB,zC,zD,zE,zF,reduceCtorEq]
   exact hK _ (congrArg bl au)
end Go.Proofs.YtnfeacnbgbggfaaGreatDoor
end

section
namespace Go.Proofs.YtnfeacnbgbggfaaGreatDoor
open Go.Eng
open Nat renaming reduceAdd → zA, reduceLT → zB, reduceLeDiff → zC, reduceMul → zD, reduceEqDiff → zE, reduceSub → zF
variable [aE]
set_option maxHeartbeats 4000000
set_option maxRecDepth 100000
def Dc (l : List Rl) (B : List Bool) (r : Rl) : Nat → Bool
 | 0 => false
 | k + 1 => Dc l B r k || (match l[k]?, B[k]? with | some y, some b => b && y.reqs.any fun q => eg q r | _, _ => false)
theorem Ix {l : List Rl} {B : List Bool} {k : Nat} {y : Rl} {b : Bool} (hy : l[k]? = some y) (hb : B[k]? = some b) (r : Rl) : Dc l B r (k + 1) = (Dc l B r k || (b && y.reqs.any fun q => eg q r)) := by simp only [Dc,hy,hb]
theorem wV {l : List Rl} {B : List Bool} {r : Rl} : ∀ {n : Nat}, Dc l B r n = true ↔ ∃ k < n, ∃ y, l[k]? = some y ∧ B[k]? = some true ∧ (y.reqs.any fun q => eg q r) = true
 | 0 => by simp [Dc]
 | n + 1 => by
  simp only [Dc,Bool.or_eq_true,wV (n := n)]
  constructor
  ·rintro (⟨k, hk, h⟩ | h)
   ·exact ⟨k, by omega, h⟩
   ·split at h
    ·rename_i y b hy hb
     rw [Bool.and_eq_true] at h
     refine ⟨n, by omega, y, hy, ?_, h.2⟩
     rw [hb, h.1]
    ·cases h
  ·rintro ⟨k, hk, y, hy, hb, h⟩
   rcases Nat.lt_or_ge k n with jl | jl
   ·exact .inl ⟨k, jl, y, hy, hb, h⟩
   ·obtain rfl : k = n := by omega
    right
    simp only [hy,hb,h,Bool.and_self]
def wW (B : List Bool) : Nat := (B.filter fun b => !b).length
theorem Dd : ∀ {B : List Bool} {i : Nat}, B[i]? = some false → wW (B.set i true) < wW B
 | [], i, h => by simp at h
 | b :: B, 0, h => by simp at h; subst h; simp [wW]
 | b :: B, i + 1, h => by
  have := Dd (B := B) (i := i) (by simpa using h)
  unfold wW at this ⊢
  rw [List.set_cons_succ, List.filter_cons, List.filter_cons]
  split <;> simp <;> omega
def Iy (l : List Rl) (roots : List Rq) (B : List Bool) : Prop := B.length = l.length ∧ ∀ (k : Nat) (r : Rl), l[k]? = some r → B[k]? = some true → oL l roots r
def Jq (l : List Rl) (roots : List Rq) (B : List Bool) (n : Nat) : Prop := ∀ j < n, ∀ r, l[j]? = some r → ((roots.any fun q => eg q r) || Dc l B r l.length) = true → B[j]? = some true
theorem Iy.step {l : List Rl} {roots : List Rq} {B : List Bool} (h : Iy l roots B) {i : Nat} {x : Rl} (hx : l[i]? = some x) (hr : ((roots.any fun q => eg q x) || Dc l B x l.length) = true) : Iy l roots (B.set i true) := by
 refine ⟨by rw [List.length_set]; exact h.1, fun k r hk hb => ?_⟩
 by_cases e : i = k
 ·subst e
  rw [hx] at hk; cases hk
  rcases Bool.or_eq_true _ _ ▸ hr with h1 | h1
  ·obtain ⟨q, hq, hh⟩ := List.any_eq_true.1 h1
   exact .root q x hq (List.mem_of_getElem? hx) hh
  ·obtain ⟨k, -, y, hy, rV, h2⟩ := wV.1 h1
   obtain ⟨q, hq, hh⟩ := List.any_eq_true.1 h2
   exact .step y q x (h.2 k y hy rV) hq (List.mem_of_getElem? hx) hh
 ·rw [List.getElem?_set_ne e] at hb
  exact h.2 k r hk hb
theorem Iy.fin {l : List Rl} {roots : List Rq} {B : List Bool} (h : Iy l roots B) (hc : Jq l roots B l.length) {k : Nat} {r : Rl} (hk : l[k]? = some r) : B[k]? = some true ↔ oL l roots r := by
 refine ⟨h.2 k r hk, fun hr => ?_⟩
 have key : ∀ r, oL l roots r → ∀ k : Nat, l[k]? = some r → B[k]? = some true := by
  intro r hr
  induction hr with
  | root q r hq hr hh => exact fun k hk => hc k (List.getElem?_eq_some_iff.1 hk).1 r hk (by rw [List.any_eq_true.2 ⟨q, hq, hh⟩]; rfl)
  | step a q r ha hq hr hh ih =>
   intro k hk
   obtain ⟨j, hj⟩ := List.mem_iff_getElem?.1 ha.mem
   refine hc k (List.getElem?_eq_some_iff.1 hk).1 r hk ?_
   rw [wV.2 ⟨j, (List.getElem?_eq_some_iff.1 hj).1, a, hj, ih j hj, List.any_eq_true.2 ⟨q, hq, hh⟩⟩, Bool.or_true]
 exact key r hr k hk
def mG : List Rl → List Bool → List dA
 | r :: l, b :: B => if b = true then r.key :: mG l B else mG l B
 | _, _ => []
theorem De : ∀ {l : List Rl} {B : List Bool} {p : Rl → Bool}, B.length = l.length → (∀ (k : Nat) (r : Rl), l[k]? = some r → (B[k]? = some true ↔ p r = true)) → mG l B = (l.filter p).map Rl.key
 | [], B, p, h, _ => by cases B with | nil => rfl | cons b B => cases h
 | r :: l, [], p, h, _ => by cases h
 | r :: l, b :: B, p, h, hp => by
  have h0 := hp 0 r rfl
  have ih := De (l := l) (B := B) (p := p) (by simpa using h) fun k r hk => by simpa using hp (k + 1) r (by simpa using hk)
  simp only [mG,List.filter_cons]
  simp only [List.getElem?_cons_zero,Option.some.injEq] at h0
  cases b with
  | true => rw [if_pos rfl, if_pos (h0.1 rfl), List.map_cons, ih]
  | false => rw [if_neg (by simp), if_neg (fun e => by cases h0.2 e), ih]
theorem ve : ∀ {l : List Rl} {B : List Bool} {i : Nat} {r : Rl} {b : Bool}, l[i]? = some r → B[i]? = some b → mG (l.take (i + 1)) (B.take (i + 1)) = mG (l.take i) (B.take i) ++ (if b = true then [r.key] else [])
 | [], B, i, r, b, h, _ => by simp at h
 | a :: l, [], i, r, b, _, h => by simp at h
 | a :: l, c :: B, 0, r, b, h, h2 => by simp at h h2; subst h; subst h2; cases c <;> simp [mG]
 | a :: l, c :: B, i + 1, r, b, h, h2 => by
  have ih := ve (l := l) (B := B) (i := i) (by simpa using h) (by simpa using h2)
  rw [List.take_succ_cons, List.take_succ_cons, List.take_succ_cons, List.take_succ_cons]
  simp only [mG]
  rw [ih]
  cases c <;> simp
theorem zq : ∀ (l : List Rl) (B : List Bool), (mG l B).length ≤ l.length
 | [], B => by simp [mG]
 | r :: l, [] => by simp [mG]
 | r :: l, b :: B => by
  have := zq l B
  simp only [mG]
  split <;> simp <;> omega
theorem LB (k : Nat) (hk : k ≤ 1048576) : mO tt 88 (num (k : Int)) (num (k : Int)) = some (1, (List.replicate k false).map bl, k) := by
 unfold mO
 simp only [dw,RF,Xe]
 rw [if_pos (by refine ⟨by omega, by omega, by omega, by omega, by decide, ?_⟩; simp [Value.oneCell']), List.map_replicate]
 simp only [Int.toNat_natCast]
 rfl
theorem vf (l : List Rl) (I : List V) (hb : w6 l) (roots : List Rq) (hr : roots.length ≤ 1048576) (EA : ∀ q ∈ roots, qD q) : ∃ r_, (fun w => w = aX ((bS (aq l) roots).map Rl.key)) r_ ∧ aQ Tryz.prog 14 [bA l I, ah roots] r_ := by
 refine dZ tt_ok [] 102 [.tmp 4] (fn := Tryz.f14) Tryz.func14 rfl Tryz.call14 ⟨rfl, rfl, by simp⟩ fun K hK => ?_
 simp only [bA,bh]
 have Bj := hb.1
 simp only [List.length_map,go_sem,reduceIte,zA,zB,zC,zD,zE,zF,reduceCtorEq]
 refine cF (by have h := pZ l I hb; simp only [bA,bh] at h; exact h) ?_
 rintro _ rfl
 simp only [List.length_map,go_sem,reduceIte,zA,zB,zC,zD,zE,zF,reduceCtorEq]
 refine aN (fun cX => ?_) (fun cX => ?_)
 ·have cV : ey l ≠ 0 := by simpa using cX
  have kr : bS (aq l) roots = [] := by unfold aq bS; rw [if_neg cV]; rfl
  simp only [List.length_map,go_sem,reduceIte,zA,zB,zC,zD,zE,zF,reduceCtorEq]
  first
   | (refine hK _ ?_; rw [kr]; rfl)
   | (refine hK _ ?_; rw [← kr]; rfl)
 ·have nY : ey l = 0 := by simpa using cX
  have ZI : aq l = l := if_pos nY
  have fK := LB l.length Bj
  simp only [fK,List.length_replicate,List.length_map,go_sem,reduceIte,zA,zB,zC,zD,zE,zF,reduceCtorEq]
  refine cY tt_ok [] (fun a : Bool × List Bool => [(1, .slice (roots.map aj)), (2, .ptr 0 0), (5, .ms 1 0 0 l.length), (6, bl a.1)]) (fun a : Bool × List Bool => [.box [.slice (l.map ag), .slice I], .rows 0 1 (a.2.map bl)]) (fun a => 2 * wW a.2 + a.1.toNat) (fun a => Iy l roots a.2 ∧ (a.1 = false → Jq l roots a.2 l.length)) ((true, List.replicate l.length false)) 2 (bj (by omega) (by simp only [fK,List.length_replicate,List.length_map,Int.cast_ofNat_Int,go_sem,reduceIte,zA,zB,zC,zD,zE,zF,reduceCtorEq] <;> rfl)) (⟨⟨List.length_replicate, fun k r _ h => by rw [List.getElem?_replicate] at h; split at h <;> cases h⟩, fun h => by cases h⟩) ?_
  rintro ⟨c, B⟩ ⟨hS, hC⟩
  try dsimp only at hS hC
  try dsimp only
  intro Z1 cd
  simp only [fK,List.length_replicate,List.length_map,go_sem,reduceIte,zA,zB,zC,zD,zE,zF,reduceCtorEq]
  refine aN (fun nt => ?_) (fun nt => ?_)
  ·have PK : c = true := nt
   simp only [fK,List.length_replicate,List.length_map,go_sem,reduceIte,zA,zB,zC,zD,zE,zF,reduceCtorEq]
   refine cY tt_ok [] (fun b : Nat × Bool × List Bool => [(1, .slice (roots.map aj)), (2, .ptr 0 0), (5, .ms 1 0 0 l.length), (6, bl b.2.1), (7, num b.1)]) (fun b : Nat × Bool × List Bool => [.box [.slice (l.map ag), .slice I], .rows 0 1 (b.2.2.map bl)]) (fun b => l.length - b.1) (fun b => b.1 ≤ l.length ∧ Iy l roots b.2.2 ∧ (b.2.1 = false → b.2.2 = B ∧ Jq l roots B b.1) ∧ (b.2.1 = true → wW b.2.2 < wW B)) ((0, false, B)) 2 (bj (by omega) (by simp only [fK,List.length_replicate,List.length_map,Int.cast_ofNat_Int,go_sem,reduceIte,zA,zB,zC,zD,zE,zF,reduceCtorEq] <;> rfl)) (⟨Nat.zero_le _, hS, fun _ => ⟨rfl, fun j hj => absurd hj (Nat.not_lt_zero j)⟩, fun h => by cases h⟩) ?_
   rintro ⟨i, c2, B2⟩ ⟨hi, IX, QE, ee⟩
   try dsimp only at hi IX QE ee
   try dsimp only
   intro Z2 nw
   simp only [fK,List.length_replicate,List.length_map,go_sem,reduceIte,zA,zB,zC,zD,zE,zF,reduceCtorEq]
   refine aN (fun oP => ?_) (fun oP => ?_)
   ·have az : i < l.length := by simpa using oP
    have hw := ay i (by omega)
    obtain ⟨x, hx⟩ : ∃ x, l[i]? = some x := ⟨_, List.getElem?_eq_getElem az⟩
    have rm := List.mem_of_getElem? hx
    have bK : x.aA.ok = true := PT (PU nY rm)
    have nP : (i : Int) < (l.length : Int) := by omega
    simp only [fK,List.length_replicate,hw,List.getElem?_map,hx,ag,ab,nP,List.length_map,go_sem,reduceIte,zA,zB,zC,zD,zE,zF,reduceCtorEq]
    refine cF (by have h := zp roots x hr EA bK; simp only [ag,ab,ah] at h; exact h) ?_
    rintro _ rfl
    simp only [fK,List.length_replicate,hw,List.getElem?_map,hx,ag,ab,nP,List.length_map,go_sem,reduceIte,zA,zB,zC,zD,zE,zF,reduceCtorEq]
    refine bx tt_ok [] [9,8] 2 [1,2,4,5,6,7,14,19,20,21,22,23,24,27,28,29,30,31,32,33] (fun vs => ((l.length : Int) - Go.Eng.intOf (vs.headD .undef)).toNat) (fun vs => ∃ k : Nat, vs = [num k, bl ((roots.any fun q => eg q x) || Dc l B2 x k)] ∧ k ≤ l.length) (by omega) (by simp only [fK,List.length_replicate,hw,List.getElem?_map,hx,ag,ab,nP,List.length_map,go_sem,reduceIte,zA,zB,zC,zD,zE,zF,reduceCtorEq]) (⟨0, by simp only [Dc,Bool.or_false]; rfl, Nat.zero_le _⟩) fun vs hI Z3 wG => ?_
    obtain ⟨k, rfl, hk⟩ := hI
    simp only [fK,List.length_replicate,hw,List.getElem?_map,hx,ag,ab,nP,List.length_map,go_sem,reduceIte,zA,zB,zC,zD,zE,zF,reduceCtorEq]
    refine aN (fun jj => ?_) (fun jj => ?_)
    ·have dE : k < l.length := by simpa using jj
     have zh := ay k (by omega)
     obtain ⟨y, hy⟩ : ∃ y, l[k]? = some y := ⟨_, List.getElem?_eq_getElem dE⟩
     obtain ⟨bk, dS⟩ : ∃ b, B2[k]? = some b := ⟨_, List.getElem?_eq_getElem (by rw [IX.1]; exact dE)⟩
     have Wh := hb.2 y (List.mem_of_getElem? hy)
     have WO := Ix hy dS x
     have bO : (k : Int) < (l.length : Int) := by omega
     simp only [fK,List.length_replicate,hw,List.getElem?_map,hx,ag,ab,nP,zh,hy,dS,bO,List.length_map,go_sem,reduceIte,zA,zB,zC,zD,zE,zF,reduceCtorEq]
     refine bu tt_ok aG [⟨.n, 0, [], [], []⟩, ⟨.n, 0, [], [], []⟩, ⟨.n, 0, [], [], []⟩, ⟨.n, 0, [], [], []⟩, ⟨.r, 0, [], [], []⟩, ⟨.r, 0, [], [], []⟩, ⟨.n, 0, [], [], []⟩, ⟨.n, 0, [], [], []⟩, ⟨.r, 0, [], [], []⟩, ⟨.n, 0, [], [], []⟩, ⟨.r, 0, [], [], []⟩, ⟨.n, 0, [], [], []⟩, ⟨.r, 0, [], [], []⟩, ⟨.n, 0, [], [], []⟩, ⟨.r, 0, [], [], []⟩, ⟨.n, 0, [], [], []⟩, ⟨.r, 0, [], [], []⟩, ⟨.r, 0, [], [], []⟩, ⟨.n, 0, [], [], []⟩, ⟨.n, 0, [], [], []⟩, ⟨.n, 0, [], [], []⟩, ⟨.n, 0, [], [], []⟩] 0 (by kernel_rfl) ?_
     simp only [fK,List.length_replicate,hw,List.getElem?_map,hx,ag,ab,nP,zh,hy,dS,bO,List.length_map,go_sem,reduceIte,zA,zB,zC,zD,zE,zF,reduceCtorEq]
     refine aN (fun wX => ?_) (fun wX => ?_)
     ·have Tv : true = ((roots.any fun q => eg q x) || Dc l B2 x (k + 1)) := by rw [WO, ← Bool.or_assoc, wX, Bool.true_or]
      simp only [fK,List.length_replicate,hw,List.getElem?_map,hx,ag,ab,nP,zh,hy,dS,bO,List.length_map,go_sem,reduceIte,zA,zB,zC,zD,zE,zF,reduceCtorEq]
      refine wG _ (cC (by omega) (by simp only [fK,List.length_replicate,hw,List.getElem?_map,hx,ag,ab,nP,zh,hy,dS,bO,List.length_map,go_sem,reduceIte,zA,zB,zC,zD,zE,zF,reduceCtorEq]) ?_ ?_) <;> simp only [fh,lk,reduceIte,zE]
      ·exact ⟨k + 1, by rw [← Tv] <;> rfl, dE⟩
      ·simp only [Go.Eng.intOf,List.headD_cons]; omega
     ·simp only [fK,List.length_replicate,hw,List.getElem?_map,hx,ag,ab,nP,zh,hy,dS,bO,List.length_map,go_sem,reduceIte,zA,zB,zC,zD,zE,zF,reduceCtorEq]
      refine aN (fun BH => ?_) (fun BH => ?_)
      ·have Tv : (y.reqs.any fun q => eg q x) = ((roots.any fun q => eg q x) || Dc l B2 x (k + 1)) := by rw [WO, ← Bool.or_assoc, wX, BH, Bool.false_or, Bool.true_and]
       simp only [fK,List.length_replicate,hw,List.getElem?_map,hx,ag,ab,nP,zh,hy,dS,bO,List.length_map,go_sem,reduceIte,zA,zB,zC,zD,zE,zF,reduceCtorEq]
       refine cG (by have h := zp y.reqs x Wh.2.1 Wh.2.2 bK; simp only [ag,ab,ah] at h; exact h) ?_
       rintro _ rfl
       simp only [fK,List.length_replicate,hw,List.getElem?_map,hx,ag,ab,nP,zh,hy,dS,bO,List.length_map,go_sem,reduceIte,zA,zB,zC,zD,zE,zF,reduceCtorEq]
       refine wG _ (cC (by omega) (by simp only [fK,List.length_replicate,hw,List.getElem?_map,hx,ag,ab,nP,zh,hy,dS,bO,List.length_map,go_sem,reduceIte,zA,zB,zC,zD,zE,zF,reduceCtorEq]) ?_ ?_) <;> simp only [fh,lk,reduceIte,zE]
       ·exact ⟨k + 1, by rw [← Tv] <;> rfl, dE⟩
       ·simp only [Go.Eng.intOf,List.headD_cons]; omega
      ·have Tv : false = ((roots.any fun q => eg q x) || Dc l B2 x (k + 1)) := by rw [WO, ← Bool.or_assoc, wX, BH]; rfl
       simp only [fK,List.length_replicate,hw,List.getElem?_map,hx,ag,ab,nP,zh,hy,dS,bO,List.length_map,go_sem,reduceIte,zA,zB,zC,zD,zE,zF,reduceCtorEq]
       refine wG _ (cC (by omega) (by simp only [fK,List.length_replicate,hw,List.getElem?_map,hx,ag,ab,nP,zh,hy,dS,bO,List.length_map,go_sem,reduceIte,zA,zB,zC,zD,zE,zF,reduceCtorEq]) ?_ ?_) <;> simp only [fh,lk,reduceIte,zE]
       ·exact ⟨k + 1, by rw [← Tv] <;> rfl, dE⟩
       ·simp only [Go.Eng.intOf,List.headD_cons]; omega
    ·have Ri : k = l.length := by have := of_decide_eq_false jj; omega
     subst Ri
     obtain ⟨bi, ET⟩ : ∃ b, B2[i]? = some b := ⟨_, List.getElem?_eq_getElem (by rw [IX.1]; exact az)⟩
     simp only [fK,List.length_replicate,hw,List.getElem?_map,hx,ag,ab,nP,ET,List.length_map,go_sem,reduceIte,zA,zB,zC,zD,zE,zF,reduceCtorEq]
     refine aN (fun wY => ?_) (fun wY => ?_)
     ·simp only [fK,List.length_replicate,hw,List.getElem?_map,hx,ag,ab,nP,ET,List.length_map,go_sem,reduceIte,zA,zB,zC,zD,zE,zF,reduceCtorEq]
      refine aN (fun BI => ?_) (fun BI => ?_)
      ·have yi : bi = false := by simpa using BI
       subst yi
       let mV : Nat × Bool × List Bool := (i + 1, true, B2.set i true)
       have UG := Dd ET
       have hB : mV.1 ≤ l.length ∧ Iy l roots mV.2.2 ∧ (mV.2.1 = false → mV.2.2 = B ∧ Jq l roots B mV.1) ∧ (mV.2.1 = true → wW mV.2.2 < wW B) := by
        refine ⟨az, IX.step hx wY, fun h => (by cases h), fun _ => ?_⟩
        show wW (B2.set i true) < wW B
        cases ue : c2 with
        | true => have := ee ue; omega
        | false => obtain ⟨rfl, -⟩ := QE ue; exact UG
       simp only [fK,List.length_replicate,hw,List.getElem?_map,hx,ag,ab,nP,ET,List.length_map,go_sem,reduceIte,zA,zB,zC,zD,zE,zF,reduceCtorEq]
       refine nw _ ⟨mV, ?_, ?_, bj (by omega) (by (simp [mV, my, lk, bz, bR, ai, aB, List.map_set, setRow, b8, V.cells]))⟩
       ·exact hB
       ·dsimp only [mV]; omega
      ·have Fb : bi = true := by simpa using BI
       subst Fb
       let mV : Nat × Bool × List Bool := (i + 1, c2, B2)
       have hB : mV.1 ≤ l.length ∧ Iy l roots mV.2.2 ∧ (mV.2.1 = false → mV.2.2 = B ∧ Jq l roots B mV.1) ∧ (mV.2.1 = true → wW mV.2.2 < wW B) := by
        refine ⟨az, IX, fun h => ?_, ee⟩
        obtain ⟨rfl, h2⟩ := QE h
        refine ⟨rfl, fun j hj r qN hh => ?_⟩
        rcases Nat.lt_or_ge j i with h3 | h3
        ·exact h2 j h3 r qN hh
        ·obtain rfl : j = i := by have h4 : j < i + 1 := hj; omega
         exact ET
       simp only [fK,List.length_replicate,hw,List.getElem?_map,hx,ag,ab,nP,ET,List.length_map,go_sem,reduceIte,zA,zB,zC,zD,zE,zF,reduceCtorEq]
       refine nw _ ⟨mV, ?_, ?_, bj (by omega) (by (simp [mV, my, lk, bz, bR, ai, aB, List.map_set, setRow, b8, V.cells]))⟩
       ·exact hB
       ·dsimp only [mV]; omega
     ·let mV : Nat × Bool × List Bool := (i + 1, c2, B2)
      have hB : mV.1 ≤ l.length ∧ Iy l roots mV.2.2 ∧ (mV.2.1 = false → mV.2.2 = B ∧ Jq l roots B mV.1) ∧ (mV.2.1 = true → wW mV.2.2 < wW B) := by
       refine ⟨az, IX, fun h => ?_, ee⟩
       obtain ⟨rfl, h2⟩ := QE h
       refine ⟨rfl, fun j hj r qN hh => ?_⟩
       rcases Nat.lt_or_ge j i with h3 | h3
       ·exact h2 j h3 r qN hh
       ·obtain rfl : j = i := by have h4 : j < i + 1 := hj; omega
        rw [hx] at qN; cases qN; rw [hh] at wY; cases wY
      simp only [fK,List.length_replicate,hw,List.getElem?_map,hx,ag,ab,nP,ET,List.length_map,go_sem,reduceIte,zA,zB,zC,zD,zE,zF,reduceCtorEq]
      refine nw _ ⟨mV, ?_, ?_, bj (by omega) (by (simp [mV, my, lk, bz, bR, ai, aB, List.map_set, setRow, b8, V.cells]))⟩
      ·exact hB
      ·dsimp only [mV]; omega
   ·have cH : i = l.length := by have := of_decide_eq_false oP; omega
    subst cH
    let PX : Bool × List Bool := (c2, B2)
    have hA : Iy l roots PX.2 ∧ (PX.1 = false → Jq l roots PX.2 l.length) := ⟨IX, fun h => by obtain ⟨rfl, h2⟩ := QE h; exact h2⟩
    have ZJ : 2 * wW PX.2 + PX.1.toNat < 2 * wW B + c.toNat := by
     rw [PK]
     show 2 * wW B2 + c2.toNat < 2 * wW B + 1
     cases ue : c2 with
     | true => have := ee ue; simp; omega
     | false => obtain ⟨rfl, -⟩ := QE ue; simp
    simp only [fK,List.length_replicate,List.length_map,go_sem,reduceIte,zA,zB,zC,zD,zE,zF,reduceCtorEq]
    refine cd _ ⟨PX, ?_, ?_, bj (by omega) (by (simp [PX, my, lk, bz, bR, ai, aB]))⟩
    ·exact hA
    ·exact ZJ
  ·have jo := hC nt
   simp only [fK,List.length_replicate,List.length_map,go_sem,reduceIte,zA,zB,zC,zD,zE,zF,reduceCtorEq]
   refine cY tt_ok [] (fun a : Nat × List dA => [(2, .ptr 0 0), (5, .ms 1 0 0 l.length), (10, .ms 2 a.2.length 0 a.2.length), (11, num a.1)]) (fun a : Nat × List dA => [.box [.slice (l.map ag), .slice I], .rows 0 1 (B.map bl), .rows a.2.length 4 (a.2.map aH)]) (fun a => l.length - a.1) (fun a => a.1 ≤ l.length ∧ a.2 = mG (l.take a.1) (B.take a.1)) ((0, [])) 3 (bj (by omega) (by simp only [fK,List.length_replicate,List.length_map,List.map_nil,List.length_nil,Int.cast_ofNat_Int,go_sem,reduceIte,zA,zB,zC,zD,zE,zF,reduceCtorEq] <;> rfl)) (⟨Nat.zero_le _, by simp [mG]⟩) ?_
   rintro ⟨i, R⟩ ⟨hi, hR⟩
   try dsimp only at hi hR
   try dsimp only
   intro Z4 S8
   simp only [fK,List.length_replicate,List.length_map,go_sem,reduceIte,zA,zB,zC,zD,zE,zF,reduceCtorEq]
   refine aN (fun BJ => ?_) (fun BJ => ?_)
   ·have az : i < l.length := by simpa using BJ
    have hw := ay i (by omega)
    obtain ⟨x, hx⟩ : ∃ x, l[i]? = some x := ⟨_, List.getElem?_eq_getElem az⟩
    obtain ⟨bi, ET⟩ : ∃ b, B[i]? = some b := ⟨_, List.getElem?_eq_getElem (by rw [hS.1]; exact az)⟩
    have gR := ve hx ET
    have nP : (i : Int) < (l.length : Int) := by omega
    have Pw : R.length ≤ i := by rw [hR]; exact Nat.le_trans (zq _ _) (by rw [List.length_take]; omega)
    have eO : R.length + 1 ≤ 34359738368 := by omega
    have fO : ∀ (a : ByteArray) (b c d : Int), ck [V.agg [str a, num b, num c, num d]] 0 4 = true := fun _ _ _ _ => rfl
    simp only [fK,List.length_replicate,fO,hw,List.getElem?_map,hx,ET,nP,ag,ab,eO,List.length_append,List.length_cons,List.length_nil,Nat.zero_add,List.length_map,go_sem,reduceIte,zA,zB,zC,zD,zE,zF,reduceCtorEq]
    refine aN (fun PY => ?_) (fun PY => ?_)
    ·have Fb : bi = true := PY
     let nv : Nat × List dA := (i + 1, R ++ [x.key])
     have Ib : nv.2 = mG (l.take (i + 1)) (B.take (i + 1)) := by rw [gR, ← hR, if_pos Fb]
     simp only [fK,List.length_replicate,fO,hw,List.getElem?_map,hx,ET,nP,ag,ab,eO,List.length_append,List.length_cons,List.length_nil,Nat.zero_add,List.length_map,go_sem,reduceIte,zA,zB,zC,zD,zE,zF,reduceCtorEq]
     refine bu tt_ok aG [⟨.n, 0, [], [], []⟩, ⟨.n, 0, [], [], []⟩, ⟨.r, 0, [], [1], []⟩, ⟨.n, 0, [], [], []⟩, ⟨.r, 0, [], [1,2,3], []⟩, ⟨.n, 0, [], [1,2,3,4], []⟩, ⟨.r, 0, [], [1,2,3,4,5], []⟩, ⟨.n, 0, [], [], []⟩, ⟨.r, 0, [], [7], []⟩, ⟨.n, 0, [], [], []⟩, ⟨.r, 0, [], [7,8,9], []⟩, ⟨.n, 0, [], [7,8,9,10], []⟩, ⟨.r, 0, [], [7,8,9,10,11], []⟩, ⟨.n, 0, [], [1,2,3,4,5,6,7,8,9,10,11,12], []⟩, ⟨.n, 0, [], [1,2,3,4,5,6,7,8,9,10,11,12,13], []⟩, ⟨.w, 0, [], [0,1,2,3,4,5,6,7,8,9,10,11,12,13,14], []⟩, ⟨.n, 0, [], [0,1,2,3,4,5,6,7,8,9,10,11,12,13,14,15], []⟩] 1 (by kernel_rfl) ?_
     simp only [fK,List.length_replicate,fO,hw,List.getElem?_map,hx,ET,nP,ag,ab,eO,List.length_append,List.length_cons,List.length_nil,Nat.zero_add,List.length_map,go_sem,reduceIte,zA,zB,zC,zD,zE,zF,reduceCtorEq]
     refine S8 _ ⟨nv, ?_, ?_, bj (by omega) (by (simp [nv, my, lk, bz, bR, ai, aB, List.map_append, aH, Rl.key]))⟩
     ·exact ⟨az, Ib⟩
     ·dsimp only [nv]; omega
    ·have yi : bi = false := PY
     let nv : Nat × List dA := (i + 1, R)
     have Ib : nv.2 = mG (l.take (i + 1)) (B.take (i + 1)) := by rw [gR, ← hR, yi]; simp [nv]
     simp only [fK,List.length_replicate,fO,hw,List.getElem?_map,hx,ET,nP,ag,ab,eO,List.length_append,List.length_cons,List.length_nil,Nat.zero_add,List.length_map,go_sem,reduceIte,zA,zB,zC,zD,zE,zF,reduceCtorEq]
     refine S8 _ ⟨nv, ?_, ?_, bj (by omega) (by (simp [nv, my, lk, bz, bR, ai, aB, List.map_append, aH, Rl.key]))⟩
     ·exact ⟨az, Ib⟩
     ·dsimp only [nv]; omega
   ·have WQ : List.take R.length (R.map aH) = R.map aH := List.take_of_length_le (by simp)
    have cH : i = l.length := by have := of_decide_eq_false BJ; omega
    have kr : R = (bS (aq l) roots).map Rl.key := by
     rw [hR, cH, List.take_length, List.take_of_length_le (by rw [hS.1]; exact Nat.le_refl _), ZI]
     exact De hS.1 fun k r hk => by rw [hS.fin jo hk, @decide_eq_true_iff _ (Classical.propDecidable _)]
    simp only [fK,List.length_replicate,WQ,List.length_map,go_sem,reduceIte,zA,zB,zC,zD,zE,zF,reduceCtorEq]
    first
     | (refine hK _ ?_; rw [kr]; rfl)
     | (refine hK _ ?_; rw [← kr]; rfl)
end Go.Proofs.YtnfeacnbgbggfaaGreatDoor
end

section
namespace Go.Proofs.YtnfeacnbgbggfaaGreatDoor
open Go.Eng
variable [aE]
set_option maxHeartbeats 4000000
set_option maxRecDepth 100000
end Go.Proofs.YtnfeacnbgbggfaaGreatDoor
end

section
namespace Go.Proofs.YtnfeacnbgbggfaaGreatDoor
open Go.Eng
variable [aE]
set_option maxHeartbeats 4000000
set_option maxRecDepth 100000
theorem Df {g : List Rl} (h : ∀ r ∈ g, r.reqs.length ≤ 16) (hl : g.length ≤ 256) : (g.flatMap Rl.reqs).length ≤ 4096 := by
 have h1 : (g.flatMap Rl.reqs).length ≤ 16 * g.length := by
  induction g with
  | nil => simp
  | cons a t ih =>
   have h2 := ih (fun r hr => h r (by simp [hr])) (by simp at hl; omega)
   have h3 := h a (by simp)
   rw [List.flatMap_cons, List.length_append, List.length_cons]; omega
 omega
end Go.Proofs.YtnfeacnbgbggfaaGreatDoor
end

section
namespace Go.Proofs.YtnfeacnbgbggfaaGreatDoor
open Go.Eng
open Nat renaming reduceAdd → zA, reduceLT → zB, reduceLeDiff → zC, reduceMul → zD, reduceEqDiff → zE, reduceSub → zF
variable [aE]
set_option maxHeartbeats 4000000
set_option maxRecDepth 100000
theorem MF : ∀ {m : List Rl} {b : Option Rl}, (∀ r ∈ m, gi r = 0) → m.Pairwise (fun a b => a.path.data.toList < b.path.data.toList) → (∀ p, b = some p → ∀ r ∈ m, p.path.data.toList < r.path.data.toList) → c5 b m = 0
 | [], b, _, _, _ => by unfold c5; rfl
 | r :: t, b, h, hp, hb => by
  rw [eE, if_neg (by simp [h r (by simp)])]
  obtain ⟨h1, h2⟩ := List.pairwise_cons.1 hp
  have ih : c5 (some r) t = 0 := MF (fun x hx => h x (by simp [hx])) h2 fun p e x hx => by cases e; exact h1 x hx
  cases b with
  | none => exact ih
  | some p =>
   have az := hb p rfl r (by simp)
   have hl : jO p.path r.path = true := by rw [nr]; exact decide_eq_true az
   dsimp only
   rw [if_neg (fun e => by have : p.path = r.path := congrArg dA.path e; rw [this] at az; exact List.lt_irrefl _ az), if_neg (by rw [Rl.tA (C7 hl) (by decide)]; omega)]
   exact ih
theorem Iz {l : List Rl} {s : List dA} {m : List Rl} (h : gk l s = some m) (hi : gX s = true) (hl : m.length ≤ 256) : aq m = m := by
 refine if_pos ?_
 unfold ey
 rw [if_neg (by omega)]
 exact MF (fun r hr => rA ((hZ h).2 r hr)) (nL h hi) fun p e => by cases e
theorem LC {l : List Rl} {s : List dA} {m : List Rl} (h : gk l s = some m) (hi : gX s = true) (q : Rq) : (s.any fun y => decide (y.path = q.path) && has q.set y.aA.place) = !brk m q := by
 have hu := tv (nL h hi)
 obtain ⟨hk, hg⟩ := hZ h
 rw [← hk, List.any_map]
 unfold brk
 cases hb : CY m q.path with
 | none =>
  have hn : ∀ r ∈ m, r.path ≠ q.path := fun r hr e => by rw [← e, Px hu hr] at hb; cases hb
  rw [Bool.not_true]
  refine List.any_eq_false.2 fun r hr => ?_
  simp [Rl.key, hn r hr]
 | some r =>
  obtain ⟨hr, hp⟩ := tx hb
  rw [Bool.not_not]
  have zx : r.aA.place = r.aA.pl := (if_pos (lP (hg r hr))).symm
  cases hh : has q.set r.aA.pl with
  | true => exact List.any_eq_true.2 ⟨r, hr, by simp [Rl.key, hp, zx, hh]⟩
  | false =>
   refine List.any_eq_false.2 fun x hx => ?_
   by_cases e : x.path = q.path
   ·have := hu x hx r hr (e.trans hp.symm)
    subst this
    simp [Rl.key, zx, hh]
   ·simp [Rl.key, e]
theorem Dg {roots : List Rq} {m : List Rl} : ((m.any fun r => r.reqs.any (brk m)) = true ∨ roots.any (brk m) = true) ↔ ∃ q ∈ roots ++ m.flatMap Rl.reqs, brk m q = true := by
 simp only [List.any_eq_true,List.mem_append,List.mem_flatMap]
 constructor
 ·rintro (⟨r, hr, q, hq, h⟩ | ⟨q, hq, h⟩)
  ·exact ⟨q, .inr ⟨r, hr, hq⟩, h⟩
  ·exact ⟨q, .inl hq, h⟩
 ·rintro ⟨q, hq | ⟨r, hr, hq⟩, h⟩
  ·exact .inr ⟨q, hq, h⟩
  ·exact .inl ⟨r, hr, q, hq, h⟩
theorem EU {m : List Rl} {i : Nat} {x : Rl} (h : m[i]? = some x) (roots : List Rq) : roots ++ (m.take (i + 1)).flatMap Rl.reqs = (roots ++ (m.take i).flatMap Rl.reqs) ++ x.reqs := by
 rw [List.take_add_one, h, List.flatMap_append, List.append_assoc]; simp
theorem XS {l : List Rl} {roots : List Rq} {s : List dA} (h : ey l ≠ 0) : bG l roots s = 1 := by unfold bG; rw [if_pos h]
theorem ZK {l : List Rl} {roots : List Rq} {s : List dA} (h : ey l = 0) (hi : gX s = false) : bG l roots s = 1 := by unfold bG; rw [if_neg (by simp [h]), if_neg (by simp [hi])]
theorem ZL {l : List Rl} {roots : List Rq} {s : List dA} (h : ey l = 0) (hi : gX s = true) (hm : gk l s = none) : bG l roots s = 6 := by unfold bG; rw [if_neg (by simp [h]), if_pos hi, hm]
theorem ZM {l : List Rl} {roots : List Rq} {s : List dA} {m : List Rl} (h : ey l = 0) (hi : gX s = true) (hm : gk l s = some m) (hb : ∃ q ∈ roots ++ m.flatMap Rl.reqs, brk m q = true) : bG l roots s = 17 := by
 unfold bG; rw [if_neg (by simp [h]), if_pos hi, hm]; exact if_pos (Dg.2 hb)
theorem ZN {l : List Rl} {roots : List Rq} {s : List dA} {m : List Rl} (h : ey l = 0) (hi : gX s = true) (hm : gk l s = some m) (hb : ∀ q ∈ roots ++ m.flatMap Rl.reqs, brk m q = false) : bG l roots s = if (bS m roots).length < m.length then 8 else 0 := by
 unfold bG; rw [if_neg (by simp [h]), if_pos hi, hm]; exact if_neg fun e => by obtain ⟨q, hq, h1⟩ := Dg.1 e; rw [hb q hq] at h1; cases h1
theorem tC (m : List Rl) (roots : List Rq) : (bS m roots).length ≤ m.length := List.length_filter_le _ _
theorem BK (hG : aE.g = some 0) (l : List Rl) (I : List V) (hb : w6 l) (roots : List Rq) (hr : roots.length ≤ 1048576) (EA : ∀ q ∈ roots, qD q) (s : List dA) (hs : s.length ≤ 256) : ∃ r_, (fun w => w = num (bG l roots s)) r_ ∧ aQ Tryz.prog 16 [bA l I, ah roots, aX s] r_ := by
 refine dZ tt_ok [] 87 [.tmp 6] (fn := Tryz.f16) Tryz.func16 rfl Tryz.call16 ⟨rfl, rfl, by simp⟩ fun K hK => ?_
 simp only [bA,bh]
 have Bj := hb.1
 have w5 := bI roots
 have jb : roots.length ≤ 34359738368 := by omega
 simp only [List.length_map,go_sem,reduceIte,zA,zB,zC,zD,zE,zF,reduceCtorEq]
 refine cF (by have h := pZ l I hb; simp only [bA,bh] at h; exact h) ?_
 rintro _ rfl
 simp only [List.length_map,go_sem,reduceIte,zA,zB,zC,zD,zE,zF,reduceCtorEq]
 refine aN (fun kM => ?_) (fun kM => ?_)
 ·have au : 1 = bG l roots s := (XS (by simpa using kM)).symm
  simp only [List.length_map,go_sem,reduceIte,zA,zB,zC,zD,zE,zF,reduceCtorEq]
  exact hK _ (congrArg num au)
 ·have nY : ey l = 0 := by simpa using kM
  simp only [List.length_map,go_sem,reduceIte,zA,zB,zC,zD,zE,zF,reduceCtorEq]
  refine cF (by have h := Iw s (by omega); simp only [aX] at h; exact h) ?_
  rintro _ rfl
  simp only [List.length_map,go_sem,reduceIte,zA,zB,zC,zD,zE,zF,reduceCtorEq]
  refine aN (fun gV => ?_) (fun gV => ?_)
  ·have au : 1 = bG l roots s := by
    by_cases nY : ey l = 0
    ·exact (ZK nY (by simp_all)).symm
    ·exact (XS nY).symm
   simp only [List.length_map,go_sem,reduceIte,zA,zB,zC,zD,zE,zF,reduceCtorEq]
   exact hK _ (congrArg num au)
  ·have fS : gX s = true := by simpa using gV
   simp only [List.length_map,go_sem,reduceIte,zA,zB,zC,zD,zE,zF,reduceCtorEq]
   refine cY tt_ok [] (fun a : Nat × List Rl => [(1, .slice (roots.map aj)), (2, .slice (s.map aH)), (3, .ptr 0 0), (7, .ms 1 a.2.length 0 a.2.length), (8, num a.1)]) (fun a : Nat × List Rl => [.box [.slice (l.map ag), .slice I], .rows a.2.length 9 (a.2.map ag)]) (fun a => s.length - a.1) (fun a => a.1 ≤ s.length ∧ gk l (s.take a.1) = some a.2) ((0, [])) 2 (bj (by omega) (by simp only [List.length_map,List.map_nil,List.length_nil,Int.cast_ofNat_Int,go_sem,reduceIte,zA,zB,zC,zD,zE,zF,reduceCtorEq] <;> rfl)) (⟨Nat.zero_le _, by unfold gk; rfl⟩) ?_
   rintro ⟨i, R⟩ ⟨hi, hR⟩
   try dsimp only at hi hR
   try dsimp only
   intro Z1 cd
   simp only [List.length_map,go_sem,reduceIte,zA,zB,zC,zD,zE,zF,reduceCtorEq]
   refine aN (fun gh => ?_) (fun gh => ?_)
   ·have az : i < s.length := by simpa using gh
    have hw := ay i (by omega)
    obtain ⟨x, hx⟩ : ∃ x, s[i]? = some x := ⟨_, List.getElem?_eq_getElem az⟩
    have Pw : R.length = i := by rw [lR hR, List.length_take]; omega
    have eO : R.length + 1 ≤ 34359738368 := by omega
    rcases hf : qV l x with _ | r
    ·simp only [hw,List.getElem?_map,hx,aH,eO,List.length_append,List.length_cons,List.length_nil,Nat.zero_add,List.length_map,go_sem,reduceIte,zA,zB,zC,zD,zE,zF,reduceCtorEq]
     refine bu tt_ok aG [⟨.r, 0, [0], [], []⟩, ⟨.n, 0, [], [], []⟩, ⟨.n, 0, [], [], []⟩, ⟨.r, 0, [0], [], []⟩, ⟨.n, 0, [], [], []⟩, ⟨.r, 0, [0], [], []⟩, ⟨.n, 0, [], [], []⟩, ⟨.n, 0, [], [], []⟩, ⟨.r, 0, [0], [], []⟩, ⟨.n, 0, [], [], []⟩, ⟨.r, 0, [0], [], []⟩, ⟨.n, 0, [], [], []⟩, ⟨.n, 0, [], [], []⟩, ⟨.n, 0, [], [], []⟩, ⟨.n, 0, [], [], []⟩, ⟨.a, 0, [], [], []⟩, ⟨.s, 0, [], [], []⟩, ⟨.n, 0, [], [], []⟩] 1 (by kernel_rfl) ?_
     simp only [hw,List.getElem?_map,hx,aH,eO,List.length_append,List.length_cons,List.length_nil,Nat.zero_add,List.length_map,go_sem,reduceIte,zA,zB,zC,zD,zE,zF,reduceCtorEq]
     refine cG (by have h := zn l I hb x.path x.aA; rw [show (⟨x.path, x.aA⟩ : dA) = x from rfl, hf] at h; simp only [bA,bh,bM,Option.getD_some,Option.getD_none,Option.isSome_some,Option.isSome_none,nG,ag,ab,ah] at h; exact h) ?_
     rintro _ rfl
     have au : 6 = bG l roots s := (ZL nY fS (u5 hx hf)).symm
     simp only [hw,List.getElem?_map,hx,aH,eO,List.length_append,List.length_cons,List.length_nil,Nat.zero_add,List.length_map,go_sem,reduceIte,zA,zB,zC,zD,zE,zF,reduceCtorEq]
     exact hK _ (congrArg num au)
    ·simp only [hw,List.getElem?_map,hx,aH,eO,List.length_append,List.length_cons,List.length_nil,Nat.zero_add,List.length_map,go_sem,reduceIte,zA,zB,zC,zD,zE,zF,reduceCtorEq]
     refine bu tt_ok aG [⟨.r, 0, [0], [], []⟩, ⟨.n, 0, [], [], []⟩, ⟨.n, 0, [], [], []⟩, ⟨.r, 0, [0], [], []⟩, ⟨.n, 0, [], [], []⟩, ⟨.r, 0, [0], [], []⟩, ⟨.n, 0, [], [], []⟩, ⟨.n, 0, [], [], []⟩, ⟨.r, 0, [0], [], []⟩, ⟨.n, 0, [], [], []⟩, ⟨.r, 0, [0], [], []⟩, ⟨.n, 0, [], [], []⟩, ⟨.n, 0, [], [], []⟩, ⟨.n, 0, [], [], []⟩, ⟨.n, 0, [], [], []⟩, ⟨.a, 0, [], [], []⟩, ⟨.s, 0, [], [], []⟩, ⟨.n, 0, [], [], []⟩] 1 (by kernel_rfl) ?_
     simp only [hw,List.getElem?_map,hx,aH,eO,List.length_append,List.length_cons,List.length_nil,Nat.zero_add,List.length_map,go_sem,reduceIte,zA,zB,zC,zD,zE,zF,reduceCtorEq]
     refine cG (by have h := zn l I hb x.path x.aA; rw [show (⟨x.path, x.aA⟩ : dA) = x from rfl, hf] at h; simp only [bA,bh,bM,Option.getD_some,Option.getD_none,Option.isSome_some,Option.isSome_none,nG,ag,ab,ah] at h; exact h) ?_
     rintro _ rfl
     have fO : ck [V.agg [str r.path, num r.aA.mj, num r.aA.mn, num r.aA.pt, V.slice (r.reqs.map aj), str r.ar, str r.fY, str r.ce, bl r.yk]] 0 9 = true := rfl
     let nv : Nat × List Rl := (i + 1, R ++ [r])
     have Ib : gk l (s.take nv.1) = some nv.2 := u4 hR hx hf
     simp only [hw,List.getElem?_map,hx,aH,eO,List.length_append,List.length_cons,List.length_nil,Nat.zero_add,fO,List.length_map,go_sem,reduceIte,zA,zB,zC,zD,zE,zF,reduceCtorEq]
     refine cd _ ⟨nv, ?_, ?_, bj (by omega) (by (simp [nv, my, lk, bz, bR, ai, aB, List.map_append, ag, ab, ah]))⟩
     ·exact ⟨az, Ib⟩
     ·dsimp only [nv]; omega
   ·have cH : i = s.length := by have := of_decide_eq_false gh; omega
    have CG : gk l s = some R := by rw [cH, List.take_length] at hR; exact hR
    obtain ⟨m, ZO⟩ : ∃ m, m = R := ⟨_, rfl⟩
    subst ZO
    have Zx : m.length = s.length := lR CG
    obtain ⟨fK, Lg⟩ := hZ CG
    have ZP := Iz CG fS (by omega)
    have Ud : w6 m := ⟨by omega, fun r qN => hb.2 r (tq (Lg r qN))⟩
    have Wy : ∀ y ∈ s, y.aA.ok = true := fun y hy => by rw [← fK] at hy; obtain ⟨r, qN, rfl⟩ := List.mem_map.1 hy; exact lP (Lg r qN)
    simp only [w5,jb,List.length_nil,Nat.zero_add,List.length_map,go_sem,reduceIte,zA,zB,zC,zD,zE,zF,reduceCtorEq]
    refine cY tt_ok [] (fun i : Nat => [(1, .slice (roots.map aj)), (2, .slice (s.map aH)), (3, .ptr 0 0), (7, .ms 1 m.length 0 m.length), (11, .ms 2 (i + 1) 0 (roots ++ (m.take i).flatMap Rl.reqs).length), (12, num i)]) (fun i : Nat => [.box [.slice (l.map ag), .slice I], .rows m.length 9 (m.map ag), .rows (i + 1) 2 ((roots ++ (m.take i).flatMap Rl.reqs).map aj)]) (fun i => m.length - i) (fun i => i ≤ m.length) (0) 3 (bj (by omega) (by simp only [w5,jb,List.length_nil,Nat.zero_add,List.length_map,List.take_zero,List.flatMap_nil,List.append_nil,Int.cast_ofNat_Int,go_sem,reduceIte,zA,zB,zC,zD,zE,zF,reduceCtorEq] <;> rfl)) (Nat.zero_le _) ?_
    intro i hi
    intro Z2 nw
    simp only [w5,jb,List.length_nil,Nat.zero_add,List.length_map,go_sem,reduceIte,zA,zB,zC,zD,zE,zF,reduceCtorEq]
    refine aN (fun PZ => ?_) (fun PZ => ?_)
    ·have az : i < m.length := by simpa using PZ
     have hw := ay i (by omega)
     obtain ⟨x, hx⟩ : ∃ x, m[i]? = some x := ⟨_, List.getElem?_eq_getElem az⟩
     have ZQ := EU hx roots
     have ZR := bI x.reqs
     have nP : (i : Int) < (m.length : Int) := by omega
     have EX := gj (Lg x (List.mem_of_getElem? hx))
     have hal : ((m.take i).flatMap Rl.reqs).length ≤ 4096 := Df (fun r hr => gj (Lg r (List.mem_of_mem_take hr))) (by rw [List.length_take]; omega)
     have eO : (roots ++ (m.take i).flatMap Rl.reqs).length + x.reqs.length ≤ 34359738368 := by rw [List.length_append]; omega
     simp only [w5,jb,List.length_nil,Nat.zero_add,hw,List.getElem?_map,hx,ag,ab,ZR,nP,eO,List.length_map,go_sem,reduceIte,zA,zB,zC,zD,zE,zF,reduceCtorEq]
     refine nw _ ⟨i + 1, ?_, ?_, bj (by omega) (by (simp only [ZQ,List.length_append,List.length_map,List.map_append,hw,go_sem,reduceIte,zA,zB,zC,zD,zE,zF,reduceCtorEq]))⟩
     ·exact az
     ·omega
    ·have KG : i = m.length := by have := of_decide_eq_false PZ; omega
     subst KG
     rw [List.take_length]
     obtain ⟨A, hA⟩ : ∃ A, A = roots ++ m.flatMap Rl.reqs := ⟨_, rfl⟩
     rw [← hA]
     have hAl : A.length ≤ 1052672 := by rw [hA, List.length_append]; have := Df (fun r hr => gj (Lg r hr)) (show m.length ≤ 256 by omega); omega
     have Fm : ∀ q ∈ A, qD q := fun q hq => by rw [hA] at hq; rcases List.mem_append.1 hq with h | h; exact EA q h; obtain ⟨r, qN, EZ⟩ := List.mem_flatMap.1 h; exact (Ud.2 r qN).2.2 q EZ
     simp only [w5,jb,List.length_nil,Nat.zero_add,List.length_map,go_sem,reduceIte,zA,zB,zC,zD,zE,zF,reduceCtorEq]
     refine bx tt_ok [] [13] 3 [1,2,7,11,21,26,45,56] (fun vs => ((A.length : Int) - Go.Eng.intOf (vs.headD .undef)).toNat) (fun vs => ∃ i : Nat, vs = [num i] ∧ i ≤ A.length ∧ ∀ j < i, ∀ q, A[j]? = some q → brk m q = false) (by omega) (by simp only [w5,jb,List.length_nil,Nat.zero_add,List.length_map,go_sem,reduceIte,zA,zB,zC,zD,zE,zF,reduceCtorEq]) (⟨0, rfl, Nat.zero_le _, fun j hj => absurd hj (Nat.not_lt_zero j)⟩) fun vs hI Z3 wG => ?_
     obtain ⟨i, rfl, hi, aV⟩ := hI
     simp only [w5,jb,List.length_nil,Nat.zero_add,List.length_map,go_sem,reduceIte,zA,zB,zC,zD,zE,zF,reduceCtorEq]
     refine aN (fun BI => ?_) (fun BI => ?_)
     ·have az : i < A.length := by simpa using BI
      have hw := ay i (by omega)
      obtain ⟨q, hq⟩ : ∃ q, A[i]? = some q := ⟨_, List.getElem?_eq_getElem az⟩
      have IA : (i : Int) < (A.length : Int) := by omega
      simp only [w5,jb,List.length_nil,Nat.zero_add,hw,List.getElem?_map,hq,aj,IA,List.length_map,go_sem,reduceIte,zA,zB,zC,zD,zE,zF,reduceCtorEq]
      refine cF (by have h := LA q (Fm q (List.mem_of_getElem? hq)) s (by omega) Wy; rw [LC CG fS q] at h; simp only [aj,aX] at h; exact h) ?_
      rintro _ rfl
      simp only [w5,jb,List.length_nil,Nat.zero_add,hw,List.getElem?_map,hq,aj,IA,List.length_map,go_sem,reduceIte,zA,zB,zC,zD,zE,zF,reduceCtorEq]
      refine aN (fun BJ => ?_) (fun BJ => ?_)
      ·have au : 17 = bG l roots s := (ZM nY fS CG ⟨q, by rw [← hA]; exact List.mem_of_getElem? hq, by simpa using BJ⟩).symm
       simp only [w5,jb,List.length_nil,Nat.zero_add,hw,List.getElem?_map,hq,aj,IA,List.length_map,go_sem,reduceIte,zA,zB,zC,zD,zE,zF,reduceCtorEq]
       exact hK _ (congrArg num au)
      ·simp only [w5,jb,List.length_nil,Nat.zero_add,hw,List.getElem?_map,hq,aj,IA,List.length_map,go_sem,reduceIte,zA,zB,zC,zD,zE,zF,reduceCtorEq]
       refine wG _ (cC (by omega) (by simp only [w5,jb,List.length_nil,Nat.zero_add,hw,List.getElem?_map,hq,aj,IA,List.length_map,go_sem,reduceIte,zA,zB,zC,zD,zE,zF,reduceCtorEq]) ?_ ?_) <;> simp only [fh,lk,reduceIte,zE]
       ·refine ⟨i + 1, rfl, az, fun j hj => ?_⟩
        rcases Nat.lt_or_ge j i with h | h
        ·exact aV j h
        ·obtain rfl : j = i := by omega
         intro q2 EZ
         rw [hq] at EZ; cases EZ
         simpa using BJ
       ·simp only [Go.Eng.intOf,List.headD_cons]; omega
     ·have ZS : ¬ i < A.length := by have := of_decide_eq_false BI; omega
      have Qk : ∀ q ∈ roots ++ m.flatMap Rl.reqs, brk m q = false := fun q hq => by rw [← hA] at hq; obtain ⟨j, hj⟩ := List.mem_iff_getElem?.1 hq; exact aV j (by have := (List.getElem?_eq_some_iff.1 hj).1; omega) q hj
      have XT := ZN (roots := roots) nY fS CG Qk
      have ZT := tC m roots
      have Uj : List.take m.length (m.map ag) = m.map ag := List.take_of_length_le (by simp)
      simp only [w5,jb,List.length_nil,Nat.zero_add,Uj,Nat.le_refl,aX,List.length_map,go_sem,reduceIte,zA,zB,zC,zD,zE,zF,reduceCtorEq]
      refine cF (by have h := vf m [] Ud roots hr EA; rw [ZP] at h; simp only [bA,bh,ah] at h; exact h) ?_
      rintro _ rfl
      try rw [Q6]
      simp only [w5,jb,List.length_nil,Nat.zero_add,Uj,Nat.le_refl,aX,List.length_map,go_sem,reduceIte,zA,zB,zC,zD,zE,zF,reduceCtorEq]
      refine aN (fun P0 => ?_) (fun P0 => ?_)
      ·have au : 8 = bG l roots s := by rw [XT, if_pos (by have h6 := P0; simp at h6; omega)]
       simp only [w5,jb,List.length_nil,Nat.zero_add,Uj,Nat.le_refl,aX,List.length_map,go_sem,reduceIte,zA,zB,zC,zD,zE,zF,reduceCtorEq]
       exact hK _ (congrArg num au)
      ·have au : 0 = bG l roots s := by rw [XT, if_neg (by have h6 := P0; simp at h6; omega)]
       simp only [w5,jb,List.length_nil,Nat.zero_add,Uj,Nat.le_refl,aX,List.length_map,go_sem,reduceIte,zA,zB,zC,zD,zE,zF,reduceCtorEq]
       exact hK _ (congrArg num au)
end Go.Proofs.YtnfeacnbgbggfaaGreatDoor
end

section
namespace Go.Proofs.YtnfeacnbgbggfaaGreatDoor
open Go.Eng
open Nat renaming reduceAdd → zA, reduceLT → zB, reduceLeDiff → zC, reduceMul → zD, reduceEqDiff → zE, reduceSub → zF
variable [aE]
set_option maxHeartbeats 4000000
set_option maxRecDepth 100000
theorem BL (hG : aE.g = some 0) (WR : aQ Tryz.prog 9 [] (bl true)) (l : List Rl) (I : List V) (hb : w6 l) (roots : List Rq) (hr : roots.length ≤ 1048576) (EA : ∀ q ∈ roots, qD q) (s : List dA) (hs : s.length ≤ 1048576) : ∃ r_, (fun w => w = bl (true)) r_ ∧ aQ Tryz.prog 3 [bA l I, ah roots, aX s] r_ := by
 refine dZ tt_ok [] 41 [.tmp 6] (fn := Tryz.f3) Tryz.func3 rfl Tryz.call3 ⟨rfl, rfl, by simp⟩ fun K hK => ?_
 simp only [bA,bh]
 have Bj := hb.1
 obtain ⟨RE, QD⟩ : ∃ x, x = (bS (aq l) roots).map Rl.key := ⟨_, rfl⟩
 have WS : RE.length ≤ 1048576 := by rw [QD, List.length_map]; have := tC (aq l) roots; have := gD l; omega
 simp only [List.length_map,go_sem,reduceIte,zA,zB,zC,zD,zE,zF,reduceCtorEq]
 refine cF (⟨_, rfl, WR⟩) ?_
 rintro _ rfl
 simp only [List.length_map,go_sem,reduceIte,zA,zB,zC,zD,zE,zF,reduceCtorEq]
 refine cF (by have h := K2 l 30 hb; simp only [bh] at h; exact h) ?_
 rintro _ rfl
 simp only [List.length_map,go_sem,reduceIte,zA,zB,zC,zD,zE,zF,reduceCtorEq]
 refine aN (fun Tw => ?_) (fun Tw => ?_)
 ·simp only [List.length_map,go_sem,reduceIte,zA,zB,zC,zD,zE,zF,reduceCtorEq]
  exact hK _ (by first | rfl | (refine congrArg bl ?_; simp))
 ·simp only [List.length_map,go_sem,reduceIte,zA,zB,zC,zD,zE,zF,reduceCtorEq]
  refine cF (by have h := CX roots (by omega); simp only [ah] at h; exact h) ?_
  rintro _ rfl
  simp only [List.length_map,go_sem,reduceIte,zA,zB,zC,zD,zE,zF,reduceCtorEq]
  refine aN (fun Tx => ?_) (fun Tx => ?_)
  ·simp only [List.length_map,go_sem,reduceIte,zA,zB,zC,zD,zE,zF,reduceCtorEq]
   exact hK _ (by first | rfl | (refine congrArg bl ?_; simp))
  ·simp only [List.length_map,go_sem,reduceIte,zA,zB,zC,zD,zE,zF,reduceCtorEq]
   refine aN (fun wu => ?_) (fun wu => ?_)
   ·simp only [List.length_map,go_sem,reduceIte,zA,zB,zC,zD,zE,zF,reduceCtorEq]
    exact hK _ (by first | rfl | (refine congrArg bl ?_; simp))
   ·have WT : s.length ≤ 256 := by have := of_decide_eq_false wu; omega
    simp only [List.length_map,go_sem,reduceIte,zA,zB,zC,zD,zE,zF,reduceCtorEq]
    refine bu tt_ok aG [⟨.r, 0, [], [], []⟩, ⟨.n, 0, [], [], []⟩, ⟨.n, 0, [], [], []⟩, ⟨.r, 0, [], [], []⟩, ⟨.n, 0, [], [], []⟩, ⟨.n, 0, [], [], []⟩, ⟨.n, 0, [], [], []⟩, ⟨.n, 0, [], [], []⟩, ⟨.r, 0, [], [], []⟩, ⟨.n, 0, [], [], []⟩, ⟨.n, 0, [], [], []⟩, ⟨.n, 0, [], [], []⟩, ⟨.r, 0, [], [], []⟩, ⟨.n, 0, [], [], []⟩, ⟨.n, 0, [], [], []⟩, ⟨.n, 0, [], [], []⟩, ⟨.n, 0, [], [], []⟩, ⟨.n, 0, [], [], []⟩, ⟨.n, 0, [], [], []⟩] 0 (by kernel_rfl) ?_
    simp only [List.length_map,go_sem,reduceIte,zA,zB,zC,zD,zE,zF,reduceCtorEq]
    refine cG (by have h := za hG l I hb roots hr EA; rw [← QD] at h; simp only [bA,bh,ah,aX] at h; exact ⟨_, rfl, h⟩) ?_
    rintro _ rfl
    simp only [List.length_map,go_sem,reduceIte,zA,zB,zC,zD,zE,zF,reduceCtorEq]
    refine cG (by have h := vf l I hb roots hr EA; rw [← QD] at h; simp only [bA,bh,ah,aX] at h; exact h) ?_
    rintro _ rfl
    simp only [List.length_map,go_sem,reduceIte,zA,zB,zC,zD,zE,zF,reduceCtorEq]
    refine cG (by have h := ES RE RE WS; rw [decide_eq_true rfl] at h; simp only [aX] at h; exact h) ?_
    rintro _ rfl
    simp only [List.length_map,go_sem,reduceIte,zA,zB,zC,zD,zE,zF,reduceCtorEq]
    refine cG (⟨_, rfl, by have h := pW hG l I hb roots hr EA s hs; simp only [bA,bh,ah,aX] at h; exact h⟩) ?_
    rintro _ rfl
    simp only [List.length_map,go_sem,reduceIte,zA,zB,zC,zD,zE,zF,reduceCtorEq]
    refine cG (by have h := BK hG l I hb roots hr EA s WT; simp only [bA,bh,ah,aX] at h; exact h) ?_
    rintro _ rfl
    simp only [List.length_map,go_sem,reduceIte,zA,zB,zC,zD,zE,zF,reduceCtorEq]
    exact hK _ (by first | rfl | (refine congrArg bl ?_; simp))
end Go.Proofs.YtnfeacnbgbggfaaGreatDoor
end

section
namespace Go.Proofs.YtnfeacnbgbggfaaGreatDoor.lawIndexReaches
open Go.Eng
set_option maxRecDepth 100000
open Go.ChangeShapes Go.WideShapes Go.ChangeAt Go.RowKit
theorem contract (H : Type) (enc : TypeId × Value → H) (W : World) (args : Array Value) (ds gs : List (DataW H)) (before : List MemPlace) (base : Nat)
  (bK : ∀ (j : Nat) t v, Tryz.f3.params[j]? = some t → args[j]? = some v → Value.okWide Tryz.prog W .any base t v)
  (hW : DataW.Whole enc Tryz.prog Tryz.f3.params.toList Rows.indexReachesSpec.vars false W args.toList ds gs before) (hb : Rows.uptoBulkAll (ds ++ gs) ≤ 1048576) (hS : W.ShapedOpen Tryz.prog) :
  Calls Tryz.prog 3 args W fun e W' => ∃ v, e = .returned v ∧ Rows.indexReachesSpec.post enc Tryz.prog Tryz.f3 false true false false W args v W' := by
 have XU := hW
 have az := hW.lt
 obtain ⟨p, q, GC, hV, rfl, T9, jX⟩ := hW
 have hA : DataW.TrodAll enc Tryz.prog W 0 (fun _ => true) true Tryz.f3.params.toList args.toList ds p := GC
 rw [Tryz.params3] at hA
 obtain ⟨v0, Sa, d0, ds0, p0, q0, iS, rfl, rfl, h0, r0⟩ := trodAll_cons hA
 obtain ⟨v1, vs1, d1, ds1, p1, q1, rfl, rfl, rfl, h1, r1⟩ := trodAll_cons r0
 obtain ⟨v2, vs2, d2, ds2, p2, q2, rfl, rfl, rfl, h2, r2⟩ := trodAll_cons r1
 obtain ⟨rfl, rfl, rfl⟩ := trodAll_nil r2
 obtain rfl : args = #[v0, v1, v2] := by cases args; simp_all
 obtain ⟨rfl, rfl⟩ := trodVars_none hV
 rw [Tryz.params3] at bK
 obtain ⟨a1, l1, c1, rfl⟩ := okWide_slice Tryz.underlying26 (bK 1 26 v1 rfl rfl)
 obtain ⟨a2, l2, c2, rfl⟩ := okWide_slice Tryz.underlying27 (bK 2 27 v2 rfl rfl)
 clear bK
 clear GC hA r0 r1 r2 iS hV
 simp only [List.append_nil] at XU az
 simp only [Fa,List.append_nil,Rows.uptoBulkAll] at hb
 have V6 := h0
 have Fc := h1
 have Qz := h2
 obtain ⟨f0, h0⟩ := h0
 obtain ⟨f1, h1⟩ := h1
 obtain ⟨f2, h2⟩ := h2
 have main : Calls Tryz.prog 3 #[v0, .slice a1 l1 c1, .slice a2 l2 c2] W fun e W' => e = .returned (.bool true) ∧ Below W.heap.size W W' := by
  obtain ⟨n, hn⟩ := EF hS
  have go : ∀ (G : aE) (hG : G.g = some 0) (hg : @Gl G W.cell?), Calls Tryz.prog 3 #[v0, .slice a1 l1 c1, .slice a2 l2 c2] W fun e W' => e = .returned (.bool true) ∧ Below W.heap.size W W' := fun G hG hg => by
   have WR : aQ Tryz.prog 9 [] (bl true) := by obtain ⟨r, rfl, h⟩ := H7 hG; exact h
   obtain ⟨x0, I0, nY, b0⟩ := SE (F := W.cell?) (hg := hg) rfl h0
   obtain ⟨x1, rK, b1⟩ := Hb (F := W.cell?) (hg := hg) rfl h1
   obtain ⟨x2, wZ, b2⟩ := Km (F := W.cell?) (hg := hg) rfl h2
   obtain ⟨rr, uf, hc⟩ : ∃ r_, r_ = bl true ∧ aQ Tryz.prog 3 [bA x0 I0, ah x1, aX x2] r_ := by
    obtain ⟨r_, h1, h2⟩ := BL hG WR x0 I0 (OX (by omega)) x1 (Hd (by omega)).1 (Hd (by omega)).2 x2 (OY (by omega))
    exact ⟨r_, h1, h2⟩
   subst uf
   refine (hc.2 W.cell? hg W #[v0, .slice a1 l1 c1, .slice a2 l2 c2] (fun _ _ h => h) ?_).mono fun o W' h => ?_
   ·exact .cons (Li (by simp [bA]) nY) (.cons (H9 rK) (.cons (H9 wZ) (.nil _)))
   ·obtain ⟨F', x, rfl, -, -, -, ⟨Jb, hx⟩, yq⟩ := h
    obtain rfl := bZ hx
    exact ⟨rfl, yq⟩
  exact go (XO n) rfl (@Gl.mk (XO n) _ (fun g hg => by cases hg; exact hn) (fun g cs j x h => by cases h))
 refine main.mono fun e W' ⟨he, yq⟩ => ?_
 subst he
 have IB : laidOutB Tryz.prog = true := by kernel_rfl
 refine ⟨_, rfl, EG (pa := p0 ++ (p1 ++ (p2 ++ []))) (pv := []) XU (fun _ _ _ => trodAll_cons_mk (shut_bool Tryz.underlying4 _) trodAll_mk0) (fun sp tE => ?_) (fun _ _ => rfl) (by simp)
  yq (ok_one (by kernel_rfl) rfl (okWide_bool_mk Tryz.underlying4 _))⟩
 ·refine trodAll_cons_mk (WideElems.Trod_stays IB (by kernel_rfl) (of_decide_eq_true (by kernel_rfl)) V6 (fun x hx => yq.same (az x (by simp [hx]))) (fun x hx => tE x (by simp [hx])))
   (trodAll_cons_mk (WideElems.Trod_stays IB (by kernel_rfl) (of_decide_eq_true (by kernel_rfl)) Fc (fun x hx => yq.same (az x (by simp [hx]))) (fun x hx => tE x (by simp [hx])))
   (trodAll_cons_mk (WideElems.Trod_stays IB (by kernel_rfl) (of_decide_eq_true (by kernel_rfl)) Qz (fun x hx => yq.same (az x (by simp [hx]))) (fun x hx => tE x (by simp [hx])))
   trodAll_mk0))
end Go.Proofs.YtnfeacnbgbggfaaGreatDoor.lawIndexReaches
end

section
namespace Go.Proofs.YtnfeacnbgbggfaaGreatDoor
open Go.ChangeShapes Go.WideShapes Go.ChangeAt Go.RowKit
theorem own : ownKnob Tryz.prog.godebug = none := by kernel_rfl
def ZU : Value := .agg #[.slice none 0 0, .slice none 0 0]
def ZV (H : Type) : DataW H := .agg [.nil, .nil]
def MG (cs : Array Value) : Obj → Obj
 | .cells _ t frozen => .cells cs t frozen
 | o => o
def WU : List Nat := [128,191,160,191,128,159,144,191,128,143,0,0,0,0,0,0,0,0,0,0,0,0,0,0,0,0,0,0,0,0,0,0]
noncomputable def qa (os : Os) : World :=
 { World.holding Tryz.prog os ⟨#[], #[], []⟩ with heap := ((World.holding Tryz.prog os ⟨#[], #[], []⟩).heap.modify 1 (MG ⟨Pinned.utf8FirstZ.map fun n => Value.int .u8 (Int.ofNat n)⟩)).modify 2 (MG ⟨WU.map fun n => Value.int .u8 (Int.ofNat n)⟩) }
end Go.Proofs.YtnfeacnbgbggfaaGreatDoor
end
