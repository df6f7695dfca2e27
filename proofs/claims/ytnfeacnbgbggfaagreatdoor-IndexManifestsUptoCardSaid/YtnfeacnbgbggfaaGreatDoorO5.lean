/-
  CONTRACTS: slices.SortFunc at clipped spans.
  CONTRACTS: Canonical.
  CONTRACTS: the checks of requirements.
  CONTRACTS: requirements, releases, indices.
  READINGS of chapter 32's data.
  CONTRACTS: the bytes of numbers and strings.
  CONTRACTS: the closures of Manifest.
  CONTRACTS: the reader.
  CONTRACTS: numbers and strings read.
  CONTRACTS: the methods of a reader.
  CONTRACTS: Manifest.
-/
import Derived.Test.YtnfeacnbgbggfaaGreatDoorO4
set_option linter.all false
section
namespace Go.Proofs.YtnfeacnbgbggfaaGreatDoor
open Go.Eng
open Go.Sort (SWO grow flatK HoldsK PermIn SortedIn)
variable [aE]
theorem vK (d : Array Q4) (i j : Nat) (hi : i < d.size) (hj : j < 2) : (flatK nK 2 d)[i * 2 + j]! = (nK d[i]!)[j]! := by
 rw [Go.Sort.get_flatK _ _ _ _ (by omega)]
 rw [show (i * 2 + j) / 2 = i by omega, show (i * 2 + j) % 2 = j by omega]
theorem XO : ∀ l : List br, (∀ x ∈ l, 0 ≤ x.lo ∧ x.lo ≤ 1000000) → ∃ d : List Q4, d.map Subtype.val = l
 | [], _ => ⟨[], rfl⟩
 | x :: r, h => by
  obtain ⟨d, hd⟩ := XO r fun y hy => h y (by simp [hy])
  exact ⟨⟨x, h x (by simp)⟩ :: d, by simp [hd]⟩
theorem BW (m : List au) (b v : Nat) (l : List br) (hb : m[b]? = some (.rows v 2 (l.map aj))) (h0 : 0 < l.length) (hl : l.length ≤ 1048576) (hC : ∀ x ∈ l, 0 ≤ x.lo ∧ x.lo ≤ 1000000) :
  gH Tryz.prog 118 [.ms b v 0 l.length, .sc (.func (.func 119) #[] #[])] m fun r m' => r = .sc (.tuple #[]) ∧ ∃ l' : List br, l'.Perm l ∧ fZ l' ∧ m' = m.set b (.rows v 2 (l'.map aj)) := by
 refine ⟨Tryz.call118, fun E w xs hs hx => ?_⟩
 obtain ⟨x, ys, na, hr, vC⟩ := hx.of_cons
 obtain ⟨f, zs, Ws, Zq, hz⟩ := vC.of_cons
 have J1 := hz.of_nil
 subst J1
 have hf := bN Zq
 subst hf
 obtain rfl : xs = #[x, .func (.func 119) #[] #[]] := by rw [← Array.toArray_toList (xs := xs), na, Ws]
 rcases hs.mem b _ hb with ⟨JV, -⟩ | ⟨gb, T, cs, c, hblk, hh, uj, NU, fk, hF⟩
 ·rw [List.map_eq_nil_iff] at JV; subst JV; simp at h0
 rw [List.length_map] at NU
 obtain ⟨cap, rfl⟩ : ∃ cap, x = .slice (some ⟨gb, 0, none⟩) l.length cap := by
  clear vC hx na fk hl
  generalize l.length = nl at hr h0 NU ⊢
  cases hr with
  | ms _ _ _ _ _ g' e' c' a cap eO NB Wy Mv =>
   rw [hblk] at eO; cases eO
   obtain ⟨rfl, -⟩ := Wy rfl
   exact ⟨cap, rfl⟩
  | cZ => exact absurd h0 (Nat.lt_irrefl _)
 obtain ⟨dl, F0⟩ := XO l hC
 have lB : ∀ (i : Nat) (u : br), l[i]? = some u → cs[i * 2]? = some (.int .i64 u.lo) ∧ cs[i * 2 + 1]? = some (.int .i64 u.hi) := fun i u hu => by
  obtain ⟨-, h2⟩ := fk i (aj u) (by rw [List.getElem?_map, hu]; rfl)
  constructor
  ·obtain ⟨y, hy, -, Eh⟩ := h2 0 (num u.lo) rfl
   rw [bN Eh] at hy; exact hy
  ·obtain ⟨y, hy, -, Eh⟩ := h2 1 (num u.hi) rfl
   rw [bN Eh] at hy; exact hy
 have XP : gb < w.heap.size := (Array.getElem?_eq_some_iff.1 hh).1
 have zO : dl.length = l.length := by rw [← F0, List.length_map]
 have eU : ∀ i, i < l.length → l[i]? = some (dl.toArray[i]!).1 := fun i hi => by
  have T9 : i < dl.length := by omega
  have e : l[i]? = some (dl[i]).1 := by
   have := congrArg (fun q : List br => q[i]?) F0
   simp only [List.getElem?_map,List.getElem?_eq_getElem T9,Option.map_some] at this
   exact this.symm
  rw [e, getElem!_pos dl.toArray i (by simpa using T9)]
  simp
 have hH : HoldsK nK 2 w gb 0 dl.toArray := fun t ht => by
  have ht' : t < l.length * 2 := by simpa [zO] using ht
  obtain ⟨i, j, hi, hj, rfl⟩ : ∃ i j, i < l.length ∧ j < 2 ∧ t = i * 2 + j := ⟨t / 2, t % 2, by omega, by omega, by omega⟩
  have hc := lB i _ (eU i hi)
  refine ⟨?_, by simp [World.frozen?, hh]⟩
  rw [jf hh, Nat.zero_add, vK _ _ _ (by simpa [zO] using hi) hj]
  obtain rfl | rfl : j = 0 ∨ j = 1 := by omega
  ·exact hc.1
  ·exact hc.2
 have call := Lb gb 0 cap dl.toArray w hH XP (by simp; omega)
 have e1 : dl.toArray.size = l.length := by rw [List.size_toArray, zO]
 rw [e1] at call
 refine call.mono ?_
 rintro e w' ⟨rfl, d', n, os, hp, Wz, rfl⟩
 have va : d'.size = l.length := by rw [hp.1]; simp [zO]
 have oh : (sortWorldK nK 2 w gb 0 n d' os).heap[gb]? = some (.cells (Go.Sort.putCells id 0 (flatK nK 2 d') cs) T (0, 0)) := by
  show (_ ++ os)[gb]? = _
  rw [Array.getElem?_append_left (by simpa [Go.Sort.putRowK] using XP)]
  show ((w.heap.modify gb _))[gb]? = _
  rw [Array.getElem?_modify, if_pos rfl, hh]; rfl
 obtain ⟨h1, h2⟩ := hs.Wh (w' := sortWorldK nK 2 w gb 0 n d' os) (rs' := (d'.toList.map Subtype.val).map aj) hb hblk hF rfl rfl rfl (by
   show _ ≤ (_ ++ os).size
   rw [Array.size_append]
   show _ ≤ (w.heap.modify gb _).size + _
   rw [Array.size_modify]; omega) oh (fun k hk bD => by
   show (_ ++ os)[k]? = _
   rw [Array.getElem?_append_left (by simpa [Go.Sort.putRowK] using hk)]
   show ((w.heap.modify gb _))[k]? = _
   rw [Array.getElem?_modify, if_neg (fun e => bD e.symm)]) (by simp [Go.Sort.putCells, uj]) (by simp [va]; exact NU) (fun i row hi => by
   rw [List.map_map, List.getElem?_map, Option.map_eq_some_iff] at hi
   obtain ⟨u, hu, rfl⟩ := hi
   have hid : i < d'.size := by simpa using (List.getElem?_eq_some_iff.1 hu).1
   have Zr : d'[i]! = u := by
    rw [getElem!_pos d' i hid]
    have := (List.getElem?_eq_some_iff.1 hu).2
    simpa using this
   have key : ∀ j, j < 2 → (Go.Sort.putCells id 0 (flatK nK 2 d') cs)[i * 2 + j]? = some ((nK u)[j]!) := fun j hj => by
    have aF : i * 2 + j < cs.size := by rw [uj]; omega
    unfold Go.Sort.putCells
    rw [Array.getElem?_mapIdx, Array.getElem?_eq_getElem aF, Option.map_some, if_pos ⟨Nat.zero_le _, by simp; omega⟩]
    simp only [id,Nat.sub_zero]
    rw [vK _ _ _ hid hj, Zr]
   refine ⟨rfl, fun j cc hj => ?_⟩
   match j, hj with
   | 0, hj => cases hj; exact ⟨.int .i64 u.1.lo, by simpa [nK] using key 0 (by omega), rfl, .sc _ _⟩
   | 1, hj => cases hj; exact ⟨.int .i64 u.1.hi, by simpa [nK] using key 1 (by omega), rfl, .sc _ _⟩
   | j + 2, hj => simp [aj, V.cells] at hj)
 refine ⟨E, _, _, _, rfl, ⟨rfl, d'.toList.map Subtype.val, ?_, ?_, rfl⟩, h2, h1, .sc _ _⟩
 ·have := hp.2.2
  rw [← F0]
  refine List.Perm.map _ ?_
  simpa [va, zO, Array.extract_eq_self_of_le] using this
 ·refine List.pairwise_iff_getElem.2 fun i j hi hj sv => ?_
  have XQ : j < d'.size := by simpa using hj
  have := Wz i j (Nat.zero_le _) sv (by simpa [va] using XQ)
  rw [getElem!_pos d' j XQ, getElem!_pos d' i (by omega)] at this
  have := of_decide_eq_false this
  unfold HX at this
  simp only [List.getElem_map,Array.getElem_toList]
  omega
def S9 : FuncId → List V → Option V := fun _ _ => none
theorem zP : tc Tryz.prog S9 := fun f vs r h => by cases h
theorem HY : jw Tryz.prog (fun _ _ => none) := fun f vs r h => by cases h
theorem BX : aP Tryz.prog 118 [.slice [], .sc (.func (.func 119) #[] #[])] (.bt []) := Di zP HY 3000 (by kernel_rfl)
theorem BY (m : List au) (b v : Nat) (l : List br) (hb : m[b]? = some (.rows v 2 (l.map aj))) (hl : l.length ≤ 1048576) (hC : ∀ x ∈ l, 0 ≤ x.lo ∧ x.lo ≤ 1000000) :
  gH Tryz.prog 118 [.ms b v 0 l.length, .sc (.func (.func 119) #[] #[])] m fun r m' => r = .sc (.tuple #[]) ∧ ∃ l' : List br, l'.Perm l ∧ fZ l' ∧ m' = m.set b (.rows v 2 (l'.map aj)) := by
 rcases Nat.eq_zero_or_pos l.length with h0 | h0
 ·obtain rfl : l = [] := List.length_eq_zero_iff.1 h0
  refine (aP.EZ (m := m) (b := b) (v := v) BX fun E xs h => ?_).rel.mono fun r m' ⟨h1, h2⟩ => ⟨h1, [], List.Perm.refl _, List.Pairwise.nil, by
   rw [h2]
   apply List.ext_getElem?
   intro i
   rw [List.getElem?_set]
   split
   ·rename_i hi; subst hi
    rw [if_pos (List.getElem?_eq_some_iff.1 hb).1, hb]
   ·rfl⟩
  obtain ⟨y, ys, rfl, hr, hy⟩ := h.of_cons
  rw [hy.of_nil]
  have := bN hr
  subst this
  exact aO.cons (.sc _ _) (.nil _)
 ·exact BW m b v l hb h0 hl hC
end Go.Proofs.YtnfeacnbgbggfaaGreatDoor
end

section
namespace Go.Proofs.YtnfeacnbgbggfaaGreatDoor
open Go.Eng
open Nat renaming reduceAdd → zA, reduceLT → zB, reduceLeDiff → zC, reduceMul → zD, reduceEqDiff → zE, reduceSub → zF
variable [aE]
set_option maxHeartbeats 4000000
set_option maxRecDepth 100000
theorem mC {s : List br} {i : Nat} {x : br} (h : s[i]? = some x) : clip (s.take (i + 1)) = clip (s.take i) ++ (mz x).toList := by
 rw [List.take_add_one, h]
 unfold clip
 rw [List.filterMap_append]
 cases hx : mz x <;> simp [hx]
theorem jn (s : List br) : (clip s).length ≤ s.length := List.length_filterMap_le _ _
theorem Dx {x : br} (h : max x.lo 0 < min x.hi 1000000) : mz x = some ⟨max x.lo 0, min x.hi 1000000⟩ := if_pos h
theorem Dy {x : br} (h : ¬ max x.lo 0 < min x.hi 1000000) : mz x = none := if_neg h
structure Mg (l R : List br) (i n : Nat) : Prop where
 hi : i ≤ l.length
 hn : n ≤ i
 hl : R.length = l.length
 ht : R.take n = merge (l.take i)
 hd : R.drop i = l.drop i
 h0 : 0 < i → 0 < n
theorem iO {l : List br} {i : Nat} {x : br} (h : l[i]? = some x) : merge (l.take (i + 1)) = dd (merge (l.take i)) x := by
 rw [List.take_add_one, h]
 unfold merge
 rw [List.foldl_append]; rfl
theorem Mg.start (l : List br) : Mg l l 0 0 := ⟨Nat.zero_le _, Nat.le_refl _, rfl, rfl, rfl, fun h => absurd h (Nat.lt_irrefl _)⟩
theorem Mg.at {l R : List br} {i n : Nat} (h : Mg l R i n) (aF : i < l.length) : ∃ x, l[i]? = some x ∧ R[i]? = some x := by
 refine ⟨l[i], List.getElem?_eq_getElem aF, ?_⟩
 have h1 : (R.drop i)[0]? = (l.drop i)[0]? := by rw [h.hd]
 rw [List.getElem?_drop, List.getElem?_drop, Nat.add_zero] at h1
 rw [h1, List.getElem?_eq_getElem aF]
theorem Mg.last {l R : List br} {i n : Nat} (h : Mg l R i n) (iF : 0 < i) (aF : i < l.length) : ∃ y, R[n - 1]? = some y ∧ (merge (l.take i)).getLast? = some y := by
 have hn := h.h0 iF
 have Dz : n - 1 < R.length := by rw [h.hl]; have := h.hn; omega
 refine ⟨R[n - 1], List.getElem?_eq_getElem Dz, ?_⟩
 rw [← h.ht, List.getLast?_eq_getElem?, List.length_take, Nat.min_eq_left (by have := h.hn; rw [h.hl]; omega), List.getElem?_take_of_lt (by omega), List.getElem?_eq_getElem Dz]
theorem Mg.push {l R : List br} {i n : Nat} {x : br} (h : Mg l R i n) (hx : l[i]? = some x) (hm : dd (merge (l.take i)) x = merge (l.take i) ++ [x]) : Mg l (R.set n x) (i + 1) (n + 1) := by
 have aF := (List.getElem?_eq_some_iff.1 hx).1
 have hn := h.hn
 refine ⟨aF, by omega, by rw [List.length_set]; exact h.hl, ?_, ?_, fun _ => Nat.succ_pos _⟩
 ·rw [iO hx, hm, ← h.ht]
  apply List.ext_getElem?
  intro j
  have XR : n < R.length := by rw [h.hl]; omega
  rcases Nat.lt_trichotomy j n with hj | hj | hj
  ·rw [List.getElem?_take_of_lt (by omega), List.getElem?_set_ne (by omega), List.getElem?_append_left (by rw [List.length_take]; omega), List.getElem?_take_of_lt hj]
  ·subst hj
   rw [List.getElem?_take_of_lt (by omega), List.getElem?_append_right (by rw [List.length_take]; omega), List.length_take, Nat.min_eq_left (by omega), Nat.sub_self]
   simp [XR]
  ·rw [List.getElem?_eq_none (by rw [List.length_take]; omega), List.getElem?_eq_none (by rw [List.length_append, List.length_take]; simp; omega)]
 ·apply List.ext_getElem?
  intro j
  rw [List.getElem?_drop, List.getElem?_drop, List.getElem?_set_ne (by omega)]
  have h1 : (R.drop i)[1 + j]? = (l.drop i)[1 + j]? := by rw [h.hd]
  rw [List.getElem?_drop, List.getElem?_drop] at h1
  rw [show i + 1 + j = i + (1 + j) by omega]; exact h1
theorem Mg.join {l R : List br} {i n : Nat} {x y : br} (h : Mg l R i n) (hx : l[i]? = some x) (iF : 0 < i) (hy : R[n - 1]? = some y) (hle : x.lo ≤ y.hi) : Mg l (R.set (n - 1) ⟨y.lo, max y.hi x.hi⟩) (i + 1) n := by
 have aF := (List.getElem?_eq_some_iff.1 hx).1
 have hn := h.hn
 have XS := h.h0 iF
 obtain ⟨y', XT, rb⟩ := h.last iF aF
 rw [hy] at XT; cases XT
 have XR : n ≤ R.length := by rw [h.hl]; omega
 refine ⟨aF, by omega, by rw [List.length_set]; exact h.hl, ?_, ?_, fun _ => XS⟩
 ·rw [iO hx]
  unfold dd
  rw [rb]
  dsimp only
  rw [if_pos hle, ← h.ht]
  apply List.ext_getElem?
  intro j
  have F0 : ((R.take n).dropLast).length = n - 1 := by rw [List.length_dropLast, List.length_take]; omega
  rcases Nat.lt_trichotomy j (n - 1) with hj | hj | hj
  ·rw [List.getElem?_take_of_lt (by omega), List.getElem?_set_ne (by omega), List.getElem?_append_left (by omega), List.getElem?_dropLast, if_pos (by rw [List.length_take]; omega), List.getElem?_take_of_lt (by omega)]
  ·subst hj
   rw [List.getElem?_take_of_lt (by omega), List.getElem?_append_right (by omega), F0, Nat.sub_self, List.getElem?_set]
   simp; omega
  ·rw [List.getElem?_eq_none (by rw [List.length_take, List.length_set]; omega), List.getElem?_eq_none (by rw [List.length_append, F0]; simp; omega)]
 ·apply List.ext_getElem?
  intro j
  rw [List.getElem?_drop, List.getElem?_drop, List.getElem?_set_ne (by omega)]
  have h1 : (R.drop i)[1 + j]? = (l.drop i)[1 + j]? := by rw [h.hd]
  rw [List.getElem?_drop, List.getElem?_drop] at h1
  rw [show i + 1 + j = i + (1 + j) by omega]; exact h1
theorem mD {o : List br} {x : br} (h : ∀ y, o.getLast? = some y → ¬ x.lo ≤ y.hi) : dd o x = o ++ [x] := by
 unfold dd
 cases hl : o.getLast? with
 | none => rw [List.getLast?_eq_none_iff.1 hl]; rfl
 | some y => dsimp only; rw [if_neg (h y hl)]
theorem o3 (s : List br) (hl : s.length ≤ 1048576) : aP Tryz.prog 86 [al s] (al (canon s)) := by
 refine QZ tt_ok [19] 79 [.tmp 2] (fn := Tryz.f86) Tryz.func86 rfl Tryz.call86 ⟨rfl, rfl, by simp⟩ fun K hK => ?_
 simp only [al]
 simp only [List.length_map,go_sem,reduceIte,zA,zB,zC,zD,zE,zF,reduceCtorEq]
 refine EY 3 0 2 (by decide) rfl ?_
 refine cT tt_ok [19] (fun a : Nat × List br => [(3, .ms 0 a.2.length 0 a.2.length), (9, .slice (s.map aj)), (10, num s.length), (11, num a.1)]) (fun a : Nat × List br => [.rows a.2.length 2 (a.2.map aj)]) (fun a => s.length - a.1) (fun a => a.1 ≤ s.length ∧ a.2 = clip (s.take a.1)) ((0, [])) 1 (bd (by omega) (by simp only [List.length_map,List.map_nil,List.length_nil,Int.cast_ofNat_Int,go_sem,reduceIte,zA,zB,zC,zD,zE,zF,reduceCtorEq] <;> rfl)) (⟨Nat.zero_le _, rfl⟩) ?_
 rintro ⟨i, l⟩ ⟨hi, kf⟩
 try dsimp only at hi kf
 try dsimp only
 intro Z1 cE
 simp only [List.length_map,go_sem,reduceIte,zA,zB,zC,zD,zE,zF,reduceCtorEq]
 refine aL (fun BZ => ?_) (fun BZ => ?_)
 ·have aF : i < s.length := by simpa using BZ
  have hw := aC i (by omega)
  obtain ⟨x, hx⟩ : ∃ x, s[i]? = some x := ⟨_, List.getElem?_eq_getElem aF⟩
  have rW : (if x.lo < 0 then 0 else x.lo) = max x.lo 0 := by split <;> omega
  have rv : (if (1000000 : Int) < x.hi then 1000000 else x.hi) = min x.hi 1000000 := by split <;> omega
  have NU : l.length ≤ 1048576 := by rw [kf]; have := jn (s.take i); rw [List.length_take] at this; omega
  have fS : l.length + 1 ≤ 34359738368 := by omega
  simp only [hw,List.getElem?_map,hx,aj,rW,rv,fS,List.length_append,List.length_cons,List.length_nil,Nat.zero_add,List.length_map,go_sem,reduceIte,zA,zB,zC,zD,zE,zF,reduceCtorEq]
  refine aL (fun gr => ?_) (fun gr => ?_)
  ·let nv : Nat × List br := (i + 1, l ++ [⟨max x.lo 0, min x.hi 1000000⟩])
   have Pg : l ++ [⟨max x.lo 0, min x.hi 1000000⟩] = clip (s.take (i + 1)) := by rw [mC hx, Dx (by simpa using gr), kf]; rfl
   simp only [hw,List.getElem?_map,hx,aj,rW,rv,fS,List.length_append,List.length_cons,List.length_nil,Nat.zero_add,List.length_map,go_sem,reduceIte,zA,zB,zC,zD,zE,zF,reduceCtorEq]
   refine cE _ ⟨nv, ?_, ?_, bd (by omega) (by (simp [nv, pV, lk, bY, cQ, ai, aB, List.map_append, aj]))⟩
   ·exact ⟨aF, by dsimp only [nv]; exact Pg⟩
   ·dsimp only [nv]; omega
  ·let nv : Nat × List br := (i + 1, l)
   have Pg : l = clip (s.take (i + 1)) := by rw [mC hx, Dy (by simpa using gr), kf]; simp
   simp only [hw,List.getElem?_map,hx,aj,rW,rv,fS,List.length_append,List.length_cons,List.length_nil,Nat.zero_add,List.length_map,go_sem,reduceIte,zA,zB,zC,zD,zE,zF,reduceCtorEq]
   refine cE _ ⟨nv, ?_, ?_, bd (by omega) (by (simp [nv, pV, lk, bY, cQ, ai, aB, List.map_append, aj]))⟩
   ·exact ⟨aF, by dsimp only [nv]; exact Pg⟩
   ·dsimp only [nv]; omega
 ·have dg : ¬ i < s.length := by simpa using BZ
  have Ph : l = clip s := by rw [kf, show i = s.length by omega, List.take_length]
  have DA : l.length ≤ 1048576 := by rw [Ph]; have := jn s; omega
  have hC : ∀ x ∈ l, 0 ≤ x.lo ∧ x.lo ≤ 1000000 := fun x hx => by have := xj x (Ph ▸ hx); omega
  simp only [List.length_map,go_sem,reduceIte,zA,zB,zC,zD,zE,zF,reduceCtorEq]
  refine cR (BY _ 0 _ _ rfl DA hC) ?_
  rintro _ _ ⟨rfl, l2, hp, ha, rfl⟩
  simp only [List.length_map,go_sem,reduceIte,zA,zB,zC,zD,zE,zF,reduceCtorEq]
  obtain ⟨L, hL⟩ : ∃ L, L = l2 := ⟨_, rfl⟩
  rw [← hL] at hp ha
  have zQ : L.length = l.length := hp.length_eq
  rw [← zQ, ← hL]
  refine cT tt_ok [19] (fun a : Nat × Nat × List br => [(3, .ms 0 L.length 0 L.length), (6, num a.2.1), (34, .ms 0 L.length 0 L.length), (35, num L.length), (36, num a.1)]) (fun a : Nat × Nat × List br => [.rows L.length 2 (a.2.2.map aj)]) (fun a => L.length - a.1) (fun a => Mg L a.2.2 a.1 a.2.1) ((0, 0, L)) 1 (bd (by omega) (by simp only [List.length_map,Int.cast_ofNat_Int,go_sem,reduceIte,zA,zB,zC,zD,zE,zF,reduceCtorEq] <;> rfl)) (Mg.start L) ?_
  rintro ⟨i, n, R⟩ hM
  try dsimp only at hM
  try dsimp only
  have hMi := hM.hi
  have hMn := hM.hn
  have M9 := hM.hl
  intro Z2 pn
  simp only [List.length_map,go_sem,reduceIte,zA,zB,zC,zD,zE,zF,reduceCtorEq]
  refine aL (fun oZ => ?_) (fun oZ => ?_)
  ·have aF : i < L.length := by simpa using oZ
   rw [oZ]
   have dT : (i : Int) < (L.length : Int) := by omega
   have hw := aC i (by omega)
   have Ew := aC n (by omega)
   obtain ⟨x, hx, Pj⟩ := hM.at aF
   have tG : (n : Int) < (L.length : Int) := by omega
   simp only [hw,Ew,List.getElem?_map,Pj,aj,M9,dT,Int.natCast_nonneg,tG,List.length_map,go_sem,reduceIte,zA,zB,zC,zD,zE,zF,reduceCtorEq]
   refine bH tt_ok aK [⟨.n, 0, [], [], []⟩, ⟨.n, 0, [], [], []⟩, ⟨.n, 0, [], [], []⟩, ⟨.n, 0, [], [], []⟩, ⟨.r, 0, [], [], []⟩, ⟨.n, 0, [], [], []⟩, ⟨.n, 0, [], [], []⟩, ⟨.n, 0, [], [], []⟩, ⟨.r, 0, [], [], []⟩, ⟨.n, 0, [], [], []⟩, ⟨.r, 0, [], [], []⟩, ⟨.n, 0, [], [], []⟩, ⟨.n, 0, [], [], []⟩] 0 (by kernel_rfl) ?_
   simp only [hw,Ew,List.getElem?_map,Pj,aj,M9,dT,Int.natCast_nonneg,tG,List.length_map,go_sem,reduceIte,zA,zB,zC,zD,zE,zF,reduceCtorEq]
   refine aL (fun B6 => ?_) (fun B6 => ?_)
   ·have iF : 0 < i := by have := of_decide_eq_true B6; omega
    have XS := hM.h0 iF
    obtain ⟨y, hy, rb⟩ := hM.last iF aF
    have HZ : IntKind.i64.wrap ((n : Int) - 1) = ((n - 1 : Nat) : Int) := oS _ _ (by omega) (by omega)
    have Dz : ((n - 1 : Nat) : Int) < (L.length : Int) := by omega
    simp only [hw,Ew,List.getElem?_map,Pj,aj,M9,dT,Int.natCast_nonneg,tG,HZ,hy,Dz,List.length_map,go_sem,reduceIte,zA,zB,zC,zD,zE,zF,reduceCtorEq]
    refine aL (fun B7 => ?_) (fun B7 => ?_)
    ·have hle : x.lo ≤ y.hi := by simpa using B7
     have rW : (if y.hi < x.hi then x.hi else y.hi) = max y.hi x.hi := by split <;> omega
     let nv : Nat × Nat × List br := (i + 1, n, R.set (n - 1) ⟨y.lo, max y.hi x.hi⟩)
     have Ta := hM.join hx iF hy hle
     simp only [hw,Ew,List.getElem?_map,Pj,aj,M9,dT,Int.natCast_nonneg,tG,HZ,hy,Dz,rW,List.length_map,go_sem,reduceIte,zA,zB,zC,zD,zE,zF,reduceCtorEq]
     refine bH tt_ok aK [⟨.n, 0, [], [], []⟩, ⟨.n, 0, [], [], []⟩, ⟨.n, 0, [], [1], []⟩, ⟨.n, 0, [], [], []⟩, ⟨.n, 0, [], [], []⟩, ⟨.n, 0, [], [4], []⟩, ⟨.r, 0, [], [3,4,5], []⟩, ⟨.n, 0, [], [3,4,5,6], []⟩, ⟨.r, 0, [], [3,4,5,6,7], []⟩, ⟨.n, 0, [], [], []⟩, ⟨.r, 0, [], [9], []⟩, ⟨.n, 0, [], [3,4,5,6,7,8,9,10], []⟩, ⟨.r, 0, [], [0,1,2,3,4,5,6,7,8,9,10,11], []⟩, ⟨.n, 0, [], [0,1,2,3,4,5,6,7,8,9,10,11,12], []⟩, ⟨.w, 0, [], [0,1,2,3,4,5,6,7,8,9,10,11,12,13], []⟩] 1 (by kernel_rfl) ?_
     simp only [hw,Ew,List.getElem?_map,Pj,aj,M9,dT,Int.natCast_nonneg,tG,HZ,hy,Dz,rW,List.length_map,go_sem,reduceIte,zA,zB,zC,zD,zE,zF,reduceCtorEq]
     refine pn _ ⟨nv, ?_, ?_, bd (by omega) (by (simp [nv, pV, lk, bY, cQ, ai, aB, List.map_set, aj, setRow, cA, V.cells]))⟩
     ·dsimp only [nv]; exact Ta
     ·dsimp only [nv]; omega
    ·have AA : dd (merge (L.take i)) x = merge (L.take i) ++ [x] := mD fun z hz => by
      rw [rb] at hz; cases hz; simpa using B7
     let nv : Nat × Nat × List br := (i + 1, n + 1, R.set n x)
     have Ta := hM.push hx AA
     obtain ⟨z, hz⟩ : ∃ z, R[n]? = some z := ⟨_, List.getElem?_eq_getElem (by omega)⟩
     simp only [hw,Ew,List.getElem?_map,Pj,aj,M9,dT,Int.natCast_nonneg,tG,HZ,hy,Dz,hz,List.length_map,go_sem,reduceIte,zA,zB,zC,zD,zE,zF,reduceCtorEq]
     refine pn _ ⟨nv, ?_, ?_, bd (by omega) (by (simp [nv, pV, lk, bY, cQ, ai, aB, List.map_set, aj, setRow, cA, V.cells]))⟩
     ·dsimp only [nv]; exact Ta
     ·dsimp only [nv]; omega
   ·have J4 : i = 0 := by have := of_decide_eq_false B6; omega
    have AA : dd (merge (L.take i)) x = merge (L.take i) ++ [x] := mD fun y hy => by simp [J4, merge] at hy
    let nv : Nat × Nat × List br := (i + 1, n + 1, R.set n x)
    have Ta := hM.push hx AA
    obtain ⟨z, hz⟩ : ∃ z, R[n]? = some z := ⟨_, List.getElem?_eq_getElem (by omega)⟩
    simp only [hw,Ew,List.getElem?_map,Pj,aj,M9,dT,Int.natCast_nonneg,tG,hz,List.length_map,go_sem,reduceIte,zA,zB,zC,zD,zE,zF,reduceCtorEq]
    refine pn _ ⟨nv, ?_, ?_, bd (by omega) (by (simp [nv, pV, lk, bY, cQ, ai, aB, List.map_set, aj, setRow, cA, V.cells]))⟩
    ·dsimp only [nv]; exact Ta
    ·dsimp only [nv]; omega
  ·have dg : ¬ i < L.length := by simpa using oZ
   have Zs : i = L.length := by omega
   simp only [List.length_map,go_sem,reduceIte,zA,zB,zC,zD,zE,zF,reduceCtorEq]
   refine pW (v' := .slice (R.map aj)) 3 (by decide) rfl (by rw [← M9]; simp [lk, er, bz, List.take_of_length_le]) ?_
   have Zt : (n : Int) ≤ (R.length : Int) := by omega
   refine QY tt_ok [19] ?_
   simp only [Zt,Int.le_refl,Int.natCast_nonneg,List.length_map,go_sem,reduceIte,zA,zB,zC,zD,zE,zF,reduceCtorEq]
   refine hK _ ?_
   have qc : (R.take n).map aj = (canon s).map aj := by rw [hM.ht, Zs, List.take_length, zl (hp.trans (List.Perm.of_eq Ph)) ha]
   simp [uH, sO, yE, MG, er, bz, al, ← List.map_take, qc]
end Go.Proofs.YtnfeacnbgbggfaaGreatDoor
end

section
namespace Go.Proofs.YtnfeacnbgbggfaaGreatDoor
open Go.Eng
open Nat renaming reduceAdd → zA, reduceLT → zB, reduceLeDiff → zC, reduceMul → zD, reduceEqDiff → zE, reduceSub → zF
variable [aE]
set_option maxHeartbeats 4000000
set_option maxRecDepth 100000
theorem aZ (T : TypeId) (x y : Operand) (a b : ByteArray) : aQ Tryz.prog (fq .leq T x y) (str a) (str b) = some (bl (Op.bytesLess a.toList b.toList || a.toList == b.toList)) := by
 simp [aQ, bp, fq, binOp, Op.stringOp, eqGuard, aD, dj, bind, pure, Sem.bind]
theorem dJ (T : TypeId) (x y : Operand) (a b : ByteArray) : aQ Tryz.prog (fq .geq T x y) (str a) (str b) = some (bl (!Op.bytesLess a.toList b.toList)) := by
 simp [aQ, bp, fq, binOp, Op.stringOp, eqGuard, aD, dj, bind, pure, Sem.bind]
theorem iP (x y : Operand) : aQ Tryz.prog (fq .neq 168 x y) (.sc (.pointer none)) (.sc (.pointer none)) = some (bl false) := by kernel_rfl
theorem fA.Na (v : fA) (i : Nat) (h : i < 3) : List.drop i [num v.mj, num v.mn, num v.pt] = num (v.part i) :: List.drop (i + 1) [num v.mj, num v.mn, num v.pt] := by
 obtain ⟨a, b, c⟩ := v
 match i, h with
 | 0, _ => rfl
 | 1, _ => rfl
 | 2, _ => rfl
def JJ (a b : ByteArray) : Bool := vF a b || decide (a = b)
def mE (q : Rq) (b : Option Rq) : Int := if bw q.path ≠ 0 then 4 else if (decide (q.set.length = 0) || !decide (q.set = canon q.set) || (match b with | some p => JJ q.path p.path | none => false)) = true then 1 else 0
def eM (b : Option Rq) : List Rq → Int
 | [] => 0
 | q :: r => if mE q b ≠ 0 then mE q b else eM (some q) r
def fw (l : List Rq) : Int := if 16 < l.length then 7 else eM none l
def jE (s : ByteArray) : Bool := decide (s.size = 0) || decide (s.size = 32)
def fY (r : Rl) : Int := if bw r.path ≠ 0 then 4 else if (!r.ay.ok || !decide (r.ay.mj = bF r.path)) = true then 2 else if fw r.reqs ≠ 0 then fw r.reqs else if (jE r.ar && (jE r.ei && jE r.ce)) = true then 0 else 1
def ey (b : Option Rl) : List Rl → Int
 | [] => 0
 | r :: t => if fY r ≠ 0 then fY r else match b with
  | none => ey (some r) t
  | some p => if p.key = r.key then 5 else if 0 < p.cmp r then 1 else ey (some r) t
theorem fo (b : Option Rl) (r : Rl) (t : List Rl) : ey b (r :: t) = if fY r ≠ 0 then fY r else match b with
  | none => ey (some r) t
  | some p => if p.key = r.key then 5 else if 0 < p.cmp r then 1 else ey (some r) t := by cases b <;> rfl
def ir (l : List Rl) : Int := if 256 < l.length then 7 else ey none l
def tH (q : Rq) : Prop := q.path.size ≤ 1048576 ∧ q.set.length ≤ 1048576
def xV (r : Rl) : Prop := r.path.size ≤ 1048576 ∧ r.reqs.length ≤ 1048576 ∧ ∀ q ∈ r.reqs, tH q
def F8 (l : List Rl) : Prop := l.length ≤ 1048576 ∧ ∀ r ∈ l, xV r
def cn {α : Type} (l : List α) (i : Nat) : Option α := if i = 0 then none else l[i - 1]?
theorem tI {l : List Rq} {i : Nat} {q : Rq} (h : l[i]? = some q) (h0 : mE q (cn l i) = 0) : eM (cn l i) (l.drop i) = eM (cn l (i + 1)) (l.drop (i + 1)) := by
 have aF := (List.getElem?_eq_some_iff.1 h).1
 rw [List.drop_eq_getElem_cons aF, (List.getElem?_eq_some_iff.1 h).2, eM, if_neg (by rw [h0]; simp)]
 unfold cn
 rw [if_neg (Nat.succ_ne_zero i), Nat.add_sub_cancel, h]
theorem lW {l : List Rq} {i : Nat} {q : Rq} (h : l[i]? = some q) (h0 : mE q (cn l i) ≠ 0) : eM (cn l i) (l.drop i) = mE q (cn l i) := by
 have aF := (List.getElem?_eq_some_iff.1 h).1
 rw [List.drop_eq_getElem_cons aF, (List.getElem?_eq_some_iff.1 h).2, eM, if_pos h0]
def bV (l : List Rq) (i : Nat) : V := match cn l i with
 | none => .sc (.pointer none)
 | some p => .cg [str p.path, al p.set]
theorem iQ (mem : List au) (l : List Rq) (i : Nat) : er mem (bV l i) = some (bV l i) := by unfold bV; split <;> rfl
theorem iR (l : List Rq) (i : Nat) : ck (bV l i) = [] := by unfold bV; split <;> rfl
theorem ez (n : Nat) (l : List Rq) (i : Nat) : ai n (bV l i) = true := by unfold bV; split <;> rfl
theorem Lc {l : List Rq} {i : Nat} {q : Rq} (h : l[i]? = some q) : bV l (i + 1) = .cg [str q.path, al q.set] := by
 unfold bV cn
 rw [if_neg (Nat.succ_ne_zero i), Nat.add_sub_cancel, h]
def H0 (r : Rl) (i : Nat) : ByteArray := if i = 0 then r.ar else if i = 1 then r.ei else r.ce
theorem Pk (r : Rl) (i : Nat) (h : i < 3) : [str r.ar, str r.ei, str r.ce][i]? = some (str (H0 r i)) := by
 match i, h with
 | 0, _ => rfl
 | 1, _ => rfl
 | 2, _ => rfl
theorem Pm {r : Rl} (h : ∀ i < 3, jE (H0 r i) = true) : (jE r.ar && (jE r.ei && jE r.ce)) = true := by
 have h0 := h 0 (by omega); have h1 := h 1 (by omega); have h2 := h 2 (by omega)
 simp only [Bool.and_eq_true]
 exact ⟨h0, h1, h2⟩
theorem Tb {r : Rl} {i : Nat} (hi : i < 3) (h : jE (H0 r i) = false) : (jE r.ar && (jE r.ei && jE r.ce)) = false := by
 match i, hi with
 | 0, _ => rw [show jE r.ar = false from h]; rfl
 | 1, _ => rw [show jE r.ei = false from h]; simp
 | 2, _ => rw [show jE r.ce = false from h]; simp
theorem DB {l : List Rl} {i : Nat} {r : Rl} (h : l[i]? = some r) (h0 : fY r = 0) (hb : ∀ p, cn l i = some p → p.key ≠ r.key ∧ ¬ 0 < p.cmp r) : ey (cn l i) (l.drop i) = ey (cn l (i + 1)) (l.drop (i + 1)) := by
 have aF := (List.getElem?_eq_some_iff.1 h).1
 have hp : cn l (i + 1) = some r := by
  unfold cn
  rw [if_neg (Nat.succ_ne_zero i), Nat.add_sub_cancel, h]
 rw [List.drop_eq_getElem_cons aF, (List.getElem?_eq_some_iff.1 h).2, fo, if_neg (by rw [h0]; simp), hp]
 cases hq : cn l i with
 | none => rfl
 | some p => dsimp only; rw [if_neg (hb p hq).1, if_neg (hb p hq).2]
theorem Ld {l : List Rl} {i : Nat} {r : Rl} (h : l[i]? = some r) (h0 : fY r ≠ 0) : ey (cn l i) (l.drop i) = fY r := by
 have aF := (List.getElem?_eq_some_iff.1 h).1
 rw [List.drop_eq_getElem_cons aF, (List.getElem?_eq_some_iff.1 h).2, fo, if_pos h0]
theorem H2 {l : List Rl} {i : Nat} {r p : Rl} (h : l[i]? = some r) (h0 : fY r = 0) (hp : cn l i = some p) : ey (cn l i) (l.drop i) = if p.key = r.key then 5 else if 0 < p.cmp r then 1 else ey (some r) (l.drop (i + 1)) := by
 have aF := (List.getElem?_eq_some_iff.1 h).1
 rw [List.drop_eq_getElem_cons aF, (List.getElem?_eq_some_iff.1 h).2, fo, if_neg (by rw [h0]; simp), hp]
theorem vL {α : Type} {l : List α} {i : Nat} (h : i ≠ 0) : cn l i = l[i - 1]? := if_neg h
theorem Le (a b : fA) : ∃ r_, (fun w => w = num (a.cmp b)) r_ ∧ aP Tryz.prog 112 [dI a, dI b] r_ := by
 refine ek tt_ok [] 27 [.tmp 4] (fn := Tryz.f112) Tryz.func112 rfl Tryz.call112 ⟨rfl, rfl, by simp⟩ fun K hK => ?_
 simp only [dI]
 simp only [Tryz.underlying151,go_sem,reduceIte,zA,zB,zC,zD,zE,zF,reduceCtorEq]
 refine bH tt_ok aK [⟨.r, 0, [0,1], [], []⟩, ⟨.n, 0, [], [], []⟩, ⟨.r, 0, [0,1], [], []⟩, ⟨.n, 0, [], [], []⟩, ⟨.a, 0, [], [], []⟩, ⟨.a, 1, [], [], []⟩, ⟨.s, 0, [], [], []⟩, ⟨.s, 1, [], [], []⟩] 2 (by kernel_rfl) ?_
 simp only [Tryz.underlying151,go_sem,reduceIte,zA,zB,zC,zD,zE,zF,reduceCtorEq]
 refine cG (by have h := tx a; simp only [dI] at h; exact h) ?_
 rintro _ rfl
 simp only [Tryz.underlying151,go_sem,reduceIte,zA,zB,zC,zD,zE,zF,reduceCtorEq]
 refine cG (by have h := tx b; simp only [dI] at h; exact h) ?_
 rintro _ rfl
 simp only [Tryz.underlying151,go_sem,reduceIte,zA,zB,zC,zD,zE,zF,reduceCtorEq]
 refine bO tt_ok [] [13] 4 [5,6] (fun vs => ((3 : Int) - Go.Eng.intOf (vs.headD .undef)).toNat) (fun vs => ∃ i : Nat, vs = [num i] ∧ i ≤ 3 ∧ ∀ j < i, kL (a.part j) (b.part j) = 0) (by omega) (by simp only [Tryz.underlying151,go_sem,reduceIte,zA,zB,zC,zD,zE,zF,reduceCtorEq]) (⟨0, rfl, Nat.zero_le _, fun j hj => absurd hj (Nat.not_lt_zero j)⟩) fun vs hI Z1 cE => ?_
 obtain ⟨i, rfl, hi, bn⟩ := hI
 simp only [Tryz.underlying151,go_sem,reduceIte,zA,zB,zC,zD,zE,zF,reduceCtorEq]
 refine aL (fun eY => ?_) (fun eY => ?_)
 ·have aF : i < 3 := by have := of_decide_eq_true eY; omega
  rw [eY]
  have dT : (i : Int) < 3 := by omega
  have hw := aC i (by omega)
  have Q5 := a.Na i aF
  have Q6 := b.Na i aF
  have DC : ((3 : Nat) : Int) = 3 := rfl
  simp only [hw,dT,Q5,Q6,DC,Int.natCast_nonneg,Int.toNat_natCast,Nat.mul_one,Nat.zero_add,List.head?_cons,Tryz.underlying151,go_sem,reduceIte,zA,zB,zC,zD,zE,zF,reduceCtorEq]
  refine bH tt_ok aK [⟨.n, 0, [], [], []⟩, ⟨.r, 0, [], [], []⟩, ⟨.r, 0, [], [], []⟩, ⟨.n, 0, [], [], []⟩, ⟨.r, 0, [], [], []⟩, ⟨.r, 0, [], [], []⟩, ⟨.n, 0, [], [], []⟩, ⟨.n, 0, [], [], []⟩] 0 (by kernel_rfl) ?_
  simp only [hw,dT,Q5,Q6,DC,Int.natCast_nonneg,Int.toNat_natCast,Nat.mul_one,Nat.zero_add,List.head?_cons,Tryz.underlying151,go_sem,reduceIte,zA,zB,zC,zD,zE,zF,reduceCtorEq]
  refine cG (KZ _ _) ?_
  rintro _ rfl
  simp only [hw,dT,Q5,Q6,DC,Int.natCast_nonneg,Int.toNat_natCast,Nat.mul_one,Nat.zero_add,List.head?_cons,Tryz.underlying151,go_sem,reduceIte,zA,zB,zC,zD,zE,zF,reduceCtorEq]
  refine aL (fun uQ => ?_) (fun uQ => ?_)
  ·have ax : kL (a.part i) (b.part i) = a.cmp b := (fA.O8 aF bn (by simpa using uQ)).symm
   simp only [hw,dT,Q5,Q6,DC,Int.natCast_nonneg,Int.toNat_natCast,Nat.mul_one,Nat.zero_add,List.head?_cons,Tryz.underlying151,go_sem,reduceIte,zA,zB,zC,zD,zE,zF,reduceCtorEq]
   exact hK _ (congrArg num ax)
  ·simp only [hw,dT,Q5,Q6,DC,Int.natCast_nonneg,Int.toNat_natCast,Nat.mul_one,Nat.zero_add,List.head?_cons,Tryz.underlying151,go_sem,reduceIte,zA,zB,zC,zD,zE,zF,reduceCtorEq]
   refine cE _ (eR (by omega) (by simp only [hw,dT,Q5,Q6,DC,Int.natCast_nonneg,Int.toNat_natCast,Nat.mul_one,Nat.zero_add,List.head?_cons,Tryz.underlying151,go_sem,reduceIte,zA,zB,zC,zD,zE,zF,reduceCtorEq]) ?_ ?_) <;> simp only [ja,lk,reduceIte,zE]
   ·refine ⟨i + 1, rfl, aF, fun j hj => ?_⟩
    rcases Nat.lt_or_ge j i with h | h
    ·exact bn j h
    ·obtain rfl : j = i := by omega
     simpa using uQ
   ·simp only [Go.Eng.intOf,List.headD_cons]; omega
 ·have dg : i = 3 := by have := of_decide_eq_false eY; omega
  subst dg
  have ax : 0 = a.cmp b := (fA.cmp_eq bn).symm
  simp only [Tryz.underlying151,go_sem,reduceIte,zA,zB,zC,zD,zE,zF,reduceCtorEq]
  exact hK _ (congrArg num ax)
theorem B8 (a b : Rl) : ∃ r_, (fun w => w = num (a.cmp b)) r_ ∧ aP Tryz.prog 76 [af a, af b] r_ := by
 refine ek tt_ok [] 17 [.tmp 4] (fn := Tryz.f76) Tryz.func76 rfl Tryz.call76 ⟨rfl, rfl, by simp⟩ fun K hK => ?_
 simp only [af,ag]
 simp only [go_sem,reduceIte,zA,zB,zC,zD,zE,zF,reduceCtorEq]
 refine bH tt_ok aK [⟨.n, 0, [], [], []⟩, ⟨.r, 0, [], [], []⟩, ⟨.n, 0, [], [], []⟩, ⟨.r, 0, [], [], []⟩, ⟨.n, 0, [], [], []⟩, ⟨.n, 0, [], [], []⟩, ⟨.r, 0, [], [], []⟩, ⟨.n, 0, [], [], []⟩, ⟨.r, 0, [], [], []⟩, ⟨.n, 0, [], [], []⟩, ⟨.n, 0, [], [], []⟩, ⟨.n, 0, [], [], []⟩, ⟨.n, 0, [], [], []⟩] 0 (by kernel_rfl) ?_
 simp only [go_sem,reduceIte,zA,zB,zC,zD,zE,zF,reduceCtorEq]
 refine cG (K0 _ _) ?_
 rintro _ rfl
 simp only [go_sem,reduceIte,zA,zB,zC,zD,zE,zF,reduceCtorEq]
 refine cG (by have h := Le a.ay b.ay; simp only [dI] at h; exact h) ?_
 rintro _ rfl
 simp only [go_sem,reduceIte,zA,zB,zC,zD,zE,zF,reduceCtorEq]
 refine cG (SZ [zq a.path b.path, a.ay.cmp b.ay] (show 2 ≤ 1048576 by decide)) ?_
 rintro _ rfl
 simp only [go_sem,reduceIte,zA,zB,zC,zD,zE,zF,reduceCtorEq]
 exact hK _ (congrArg num (by rw [KY]; rfl))
theorem Pn (hG : aE.g = some 0) (q : Rq) (hb : tH q) : ∃ r_, (fun w => w = num (mE q none)) r_ ∧ aP Tryz.prog 134 [ak q, .sc (.pointer none)] r_ := by
 refine ek tt_ok [] 43 [.tmp 4] (fn := Tryz.f134) Tryz.func134 rfl Tryz.call134 ⟨rfl, rfl, by simp⟩ fun K hK => ?_
 simp only [ak,al]
 obtain ⟨qG, sC⟩ := hb
 have H3 := o3 q.set sC
 have ru := zt q.set (canon q.set) sC
 generalize hC : canon q.set = C at H3 ru
 simp only [List.length_map,iP,go_sem,reduceIte,zA,zB,zC,zD,zE,zF,reduceCtorEq]
 refine cF (rV hG q.path qG) ?_
 rintro _ ⟨nm, rfl⟩
 simp only [List.length_map,iP,go_sem,reduceIte,zA,zB,zC,zD,zE,zF,reduceCtorEq]
 refine aL (fun kK => ?_) (fun kK => ?_)
 ·simp only [List.length_map,iP,go_sem,reduceIte,zA,zB,zC,zD,zE,zF,reduceCtorEq]
  exact hK _ (congrArg num (by unfold mE; rw [hC]; simp_all))
 ·simp only [List.length_map,iP,go_sem,reduceIte,zA,zB,zC,zD,zE,zF,reduceCtorEq]
  refine bH tt_ok aK [⟨.n, 0, [], [], []⟩, ⟨.r, 0, [], [], []⟩, ⟨.n, 0, [], [], []⟩, ⟨.n, 0, [], [], []⟩, ⟨.n, 0, [], [], []⟩, ⟨.n, 0, [], [], []⟩, ⟨.r, 0, [], [], []⟩, ⟨.n, 0, [], [], []⟩, ⟨.r, 0, [], [], []⟩, ⟨.n, 0, [], [], []⟩, ⟨.n, 0, [], [], []⟩, ⟨.n, 0, [], [], []⟩, ⟨.n, 0, [], [], []⟩, ⟨.n, 0, [], [], []⟩, ⟨.n, 0, [], [], []⟩, ⟨.n, 0, [], [], []⟩, ⟨.n, 0, [], [], []⟩, ⟨.n, 0, [], [], []⟩, ⟨.r, 0, [], [], []⟩, ⟨.n, 0, [], [], []⟩, ⟨.n, 0, [], [], []⟩, ⟨.n, 0, [], [], []⟩, ⟨.r, 0, [], [], []⟩, ⟨.n, 0, [], [], []⟩, ⟨.n, 0, [], [], []⟩, ⟨.n, 0, [], [], []⟩] 0 (by kernel_rfl) ?_
  simp only [List.length_map,iP,go_sem,reduceIte,zA,zB,zC,zD,zE,zF,reduceCtorEq]
  refine aL (fun tJ => ?_) (fun tJ => ?_)
  ·simp only [List.length_map,iP,go_sem,reduceIte,zA,zB,zC,zD,zE,zF,reduceCtorEq]
   exact hK _ (congrArg num (by unfold mE; rw [hC]; simp_all))
  ·simp only [List.length_map,iP,go_sem,reduceIte,zA,zB,zC,zD,zE,zF,reduceCtorEq]
   refine cG (⟨_, rfl, H3⟩) ?_
   rintro _ rfl
   simp only [List.length_map,iP,go_sem,reduceIte,zA,zB,zC,zD,zE,zF,reduceCtorEq]
   refine cG (ru) ?_
   rintro _ rfl
   simp only [List.length_map,iP,go_sem,reduceIte,zA,zB,zC,zD,zE,zF,reduceCtorEq]
   refine aL (fun B9 => ?_) (fun B9 => ?_)
   ·simp only [List.length_map,iP,go_sem,reduceIte,zA,zB,zC,zD,zE,zF,reduceCtorEq]
    exact hK _ (congrArg num (by unfold mE; rw [hC]; simp_all))
   ·simp only [List.length_map,iP,go_sem,reduceIte,zA,zB,zC,zD,zE,zF,reduceCtorEq]
    exact hK _ (congrArg num (by unfold mE; rw [hC]; simp_all))
theorem Po (hG : aE.g = some 0) (q p : Rq) (hb : tH q) : ∃ r_, (fun w => w = num (mE q (some p))) r_ ∧ aP Tryz.prog 134 [ak q, .cg [str p.path, al p.set]] r_ := by
 refine ek tt_ok [] 43 [.tmp 4] (fn := Tryz.f134) Tryz.func134 rfl Tryz.call134 ⟨rfl, rfl, by simp⟩ fun K hK => ?_
 simp only [ak,al]
 obtain ⟨qG, sC⟩ := hb
 have H3 := o3 q.set sC
 have ru := zt q.set (canon q.set) sC
 generalize hC : canon q.set = C at H3 ru
 simp only [List.length_map,Tryz.underlying168,aZ,go_sem,reduceIte,zA,zB,zC,zD,zE,zF,reduceCtorEq]
 refine cF (rV hG q.path qG) ?_
 rintro _ ⟨nm, rfl⟩
 simp only [List.length_map,Tryz.underlying168,aZ,go_sem,reduceIte,zA,zB,zC,zD,zE,zF,reduceCtorEq]
 refine aL (fun kK => ?_) (fun kK => ?_)
 ·simp only [List.length_map,Tryz.underlying168,aZ,go_sem,reduceIte,zA,zB,zC,zD,zE,zF,reduceCtorEq]
  exact hK _ (congrArg num (by unfold mE JJ vF; rw [hC]; simp_all [bU]))
 ·simp only [List.length_map,Tryz.underlying168,aZ,go_sem,reduceIte,zA,zB,zC,zD,zE,zF,reduceCtorEq]
  refine bH tt_ok aK [⟨.n, 0, [], [], []⟩, ⟨.r, 0, [], [], []⟩, ⟨.n, 0, [], [], []⟩, ⟨.n, 0, [], [], []⟩, ⟨.n, 0, [], [], []⟩, ⟨.n, 0, [], [], []⟩, ⟨.r, 0, [], [], []⟩, ⟨.n, 0, [], [], []⟩, ⟨.r, 0, [], [], []⟩, ⟨.n, 0, [], [], []⟩, ⟨.n, 0, [], [], []⟩, ⟨.n, 0, [], [], []⟩, ⟨.n, 0, [], [], []⟩, ⟨.n, 0, [], [], []⟩, ⟨.n, 0, [], [], []⟩, ⟨.n, 0, [], [], []⟩, ⟨.n, 0, [], [], []⟩, ⟨.n, 0, [], [], []⟩, ⟨.r, 0, [], [], []⟩, ⟨.n, 0, [], [], []⟩, ⟨.n, 0, [], [], []⟩, ⟨.n, 0, [], [], []⟩, ⟨.r, 0, [], [], []⟩, ⟨.n, 0, [], [], []⟩, ⟨.n, 0, [], [], []⟩, ⟨.n, 0, [], [], []⟩] 0 (by kernel_rfl) ?_
  simp only [List.length_map,Tryz.underlying168,aZ,go_sem,reduceIte,zA,zB,zC,zD,zE,zF,reduceCtorEq]
  refine aL (fun tJ => ?_) (fun tJ => ?_)
  ·simp only [List.length_map,Tryz.underlying168,aZ,go_sem,reduceIte,zA,zB,zC,zD,zE,zF,reduceCtorEq]
   exact hK _ (congrArg num (by unfold mE JJ vF; rw [hC]; simp_all [bU]))
  ·simp only [List.length_map,Tryz.underlying168,aZ,go_sem,reduceIte,zA,zB,zC,zD,zE,zF,reduceCtorEq]
   refine cG (⟨_, rfl, H3⟩) ?_
   rintro _ rfl
   simp only [List.length_map,Tryz.underlying168,aZ,go_sem,reduceIte,zA,zB,zC,zD,zE,zF,reduceCtorEq]
   refine cG (ru) ?_
   rintro _ rfl
   simp only [List.length_map,Tryz.underlying168,aZ,go_sem,reduceIte,zA,zB,zC,zD,zE,zF,reduceCtorEq]
   refine aL (fun B9 => ?_) (fun B9 => ?_)
   ·simp only [List.length_map,Tryz.underlying168,aZ,go_sem,reduceIte,zA,zB,zC,zD,zE,zF,reduceCtorEq]
    exact hK _ (congrArg num (by unfold mE JJ vF; rw [hC]; simp_all [bU]))
   ·simp only [List.length_map,Tryz.underlying168,aZ,go_sem,reduceIte,zA,zB,zC,zD,zE,zF,reduceCtorEq]
    refine aL (fun Pp => ?_) (fun Pp => ?_)
    ·simp only [List.length_map,Tryz.underlying168,aZ,go_sem,reduceIte,zA,zB,zC,zD,zE,zF,reduceCtorEq]
     exact hK _ (congrArg num (by unfold mE JJ vF; rw [hC]; simp_all [bU]))
    ·simp only [List.length_map,Tryz.underlying168,aZ,go_sem,reduceIte,zA,zB,zC,zD,zE,zF,reduceCtorEq]
     exact hK _ (congrArg num (by unfold mE JJ vF; rw [hC]; simp_all [bU]))
theorem Tc (hG : aE.g = some 0) (q : Rq) (l : List Rq) (i : Nat) (hb : tH q) : ∃ r_, (fun w => w = num (mE q (cn l i))) r_ ∧ aP Tryz.prog 134 [ak q, bV l i] r_ := by
 unfold bV
 cases cn l i with
 | none => exact Pn hG q hb
 | some p => exact Po hG q p hb
end Go.Proofs.YtnfeacnbgbggfaaGreatDoor
end

section
namespace Go.Proofs.YtnfeacnbgbggfaaGreatDoor
open Go.Eng
open Nat renaming reduceAdd → zA, reduceLT → zB, reduceLeDiff → zC, reduceMul → zD, reduceEqDiff → zE, reduceSub → zF
variable [aE]
set_option maxHeartbeats 4000000
set_option maxRecDepth 100000
theorem Pq (hG : aE.g = some 0) (l : List Rq) (hl : l.length ≤ 1048576) (hb : ∀ q ∈ l, tH q) : ∃ r_, (fun w => w = num (fw l)) r_ ∧ aP Tryz.prog 109 [ah l] r_ := by
 refine ek tt_ok [] 27 [.tmp 2] (fn := Tryz.f109) Tryz.func109 rfl Tryz.call109 ⟨rfl, rfl, by simp⟩ fun K hK => ?_
 simp only [ah]
 obtain ⟨n, hn⟩ : ∃ n : Nat, n = 16 := ⟨_, rfl⟩
 simp only [ez,List.length_map,↓iQ,↓iR,go_sem,reduceIte,zA,zB,zC,zD,zE,zF,reduceCtorEq]
 refine aL (fun la => ?_) (fun la => ?_)
 ·have ax : 7 = fw l := by unfold fw; rw [if_pos (by have := of_decide_eq_true la; omega)]
  simp only [ez,List.length_map,↓iQ,↓iR,go_sem,reduceIte,zA,zB,zC,zD,zE,zF,reduceCtorEq]
  exact hK _ (congrArg num ax)
 ·simp only [ez,List.length_map,↓iQ,↓iR,go_sem,reduceIte,zA,zB,zC,zD,zE,zF,reduceCtorEq]
  refine bO tt_ok [] [12,3] 0 [0,9,10,11] (fun vs => ((l.length : Int) - Go.Eng.intOf (vs.headD .undef)).toNat) (fun vs => ∃ i : Nat, vs = [num i, bV l i] ∧ i ≤ l.length ∧ eM none l = eM (cn l i) (l.drop i)) (by omega) (by simp only [ez,List.length_map,↓iQ,↓iR,go_sem,reduceIte,zA,zB,zC,zD,zE,zF,reduceCtorEq]) (⟨0, rfl, Nat.zero_le _, rfl⟩) fun vs hI Z1 cE => ?_
  obtain ⟨i, rfl, hi, lq⟩ := hI
  simp only [ez,List.length_map,↓iQ,↓iR,go_sem,reduceIte,zA,zB,zC,zD,zE,zF,reduceCtorEq]
  refine aL (fun jz => ?_) (fun jz => ?_)
  ·have aF : i < l.length := by simpa using jz
   have hw := aC i (by omega)
   obtain ⟨x, hx⟩ : ∃ x, l[i]? = some x := ⟨_, List.getElem?_eq_getElem aF⟩
   simp only [ez,hw,List.getElem?_map,hx,ak,al,List.length_map,↓iQ,↓iR,go_sem,reduceIte,zA,zB,zC,zD,zE,zF,reduceCtorEq]
   refine cF (by have h := Tc hG x l i (hb x (List.mem_of_getElem? hx)); simp only [ak,al] at h; exact h) ?_
   rintro _ rfl
   simp only [ez,hw,List.getElem?_map,hx,ak,al,List.length_map,↓iQ,↓iR,go_sem,reduceIte,zA,zB,zC,zD,zE,zF,reduceCtorEq]
   refine aL (fun lX => ?_) (fun lX => ?_)
   ·have ax : mE x (cn l i) = fw l := by unfold fw; rw [if_neg (by have := of_decide_eq_false la; omega), lq, lW hx (by simpa using lX)]
    simp only [ez,hw,List.getElem?_map,hx,ak,al,List.length_map,↓iQ,↓iR,go_sem,reduceIte,zA,zB,zC,zD,zE,zF,reduceCtorEq]
    exact hK _ (congrArg num ax)
   ·simp only [ez,hw,List.getElem?_map,hx,ak,al,List.length_map,↓iQ,↓iR,go_sem,reduceIte,zA,zB,zC,zD,zE,zF,reduceCtorEq]
    refine cE _ (eR (by omega) (by simp only [ez,hw,List.getElem?_map,hx,ak,al,List.length_map,↓iQ,↓iR,go_sem,reduceIte,zA,zB,zC,zD,zE,zF,reduceCtorEq]) ?_ ?_) <;> simp only [ja,lk,reduceIte,zE]
    ·exact ⟨i + 1, by rw [Lc hx]; rfl, aF, by rw [lq]; exact tI hx (by simpa using lX)⟩
    ·simp only [Go.Eng.intOf,List.headD_cons]; omega
  ·have dg : ¬ i < l.length := by simpa using jz
   have ax : 0 = fw l := by unfold fw; rw [if_neg (by have := of_decide_eq_false la; omega), lq, List.drop_eq_nil_of_le (by omega)]; rfl
   simp only [ez,List.length_map,↓iQ,↓iR,go_sem,reduceIte,zA,zB,zC,zD,zE,zF,reduceCtorEq]
   exact hK _ (congrArg num ax)
theorem Ca (hG : aE.g = some 0) (r : Rl) (hb : xV r) : ∃ r_, (fun w => w = num (fY r)) r_ ∧ aP Tryz.prog 75 [af r] r_ := by
 refine ek tt_ok [] 56 [.tmp 2] (fn := Tryz.f75) Tryz.func75 rfl Tryz.call75 ⟨rfl, rfl, by simp⟩ fun K hK => ?_
 simp only [af,ag,ah]
 obtain ⟨qG, sC, QS⟩ := hb
 simp only [go_sem,reduceIte,zA,zB,zC,zD,zE,zF,reduceCtorEq]
 refine cF (rV hG r.path qG) ?_
 rintro _ ⟨nm, rfl⟩
 simp only [go_sem,reduceIte,zA,zB,zC,zD,zE,zF,reduceCtorEq]
 refine aL (fun xp => ?_) (fun xp => ?_)
 ·have ax : 4 = fY r := by unfold fY; simp_all
  simp only [go_sem,reduceIte,zA,zB,zC,zD,zE,zF,reduceCtorEq]
  exact hK _ (congrArg num ax)
 ·simp only [go_sem,reduceIte,zA,zB,zC,zD,zE,zF,reduceCtorEq]
  refine cF (by have h := zr r.ay; simp only [dI] at h; exact h) ?_
  rintro _ rfl
  simp only [go_sem,reduceIte,zA,zB,zC,zD,zE,zF,reduceCtorEq]
  refine aL (fun tJ => ?_) (fun tJ => ?_)
  ·have ax : 2 = fY r := by unfold fY; simp_all
   simp only [go_sem,reduceIte,zA,zB,zC,zD,zE,zF,reduceCtorEq]
   exact hK _ (congrArg num ax)
  ·simp only [go_sem,reduceIte,zA,zB,zC,zD,zE,zF,reduceCtorEq]
   refine aL (fun Cb => ?_) (fun Cb => ?_)
   ·have ax : 2 = fY r := by unfold fY; simp_all
    simp only [go_sem,reduceIte,zA,zB,zC,zD,zE,zF,reduceCtorEq]
    exact hK _ (congrArg num ax)
   ·simp only [go_sem,reduceIte,zA,zB,zC,zD,zE,zF,reduceCtorEq]
    refine cF (by have h := Pq hG r.reqs sC QS; simp only [ah] at h; exact h) ?_
    rintro _ rfl
    simp only [go_sem,reduceIte,zA,zB,zC,zD,zE,zF,reduceCtorEq]
    refine aL (fun zR => ?_) (fun zR => ?_)
    ·have ax : fw r.reqs = fY r := by unfold fY; simp_all
     simp only [go_sem,reduceIte,zA,zB,zC,zD,zE,zF,reduceCtorEq]
     exact hK _ (congrArg num ax)
    ·simp only [go_sem,reduceIte,zA,zB,zC,zD,zE,zF,reduceCtorEq]
     refine bO tt_ok [] [43] 2 [17,28,33,41,42] (fun vs => ((3 : Int) - Go.Eng.intOf (vs.headD .undef)).toNat) (fun vs => ∃ i : Nat, vs = [num i] ∧ i ≤ 3 ∧ ∀ j < i, jE (H0 r j) = true) (by omega) (by simp only [go_sem,reduceIte,zA,zB,zC,zD,zE,zF,reduceCtorEq]) (⟨0, rfl, Nat.zero_le _, fun j hj => absurd hj (Nat.not_lt_zero j)⟩) fun vs hI Z1 cE => ?_
     obtain ⟨i, rfl, hi, bn⟩ := hI
     simp only [go_sem,reduceIte,zA,zB,zC,zD,zE,zF,reduceCtorEq]
     refine aL (fun Lf => ?_) (fun Lf => ?_)
     ·have aF : i < 3 := by have := of_decide_eq_true Lf; omega
      rw [Lf]
      have dT : (i : Int) < 3 := by omega
      have hw := aC i (by omega)
      have zJ := Pk r i aF
      have DC : ((3 : Nat) : Int) = 3 := rfl
      simp only [hw,dT,zJ,DC,Int.natCast_nonneg,Int.toNat_natCast,go_sem,reduceIte,zA,zB,zC,zD,zE,zF,reduceCtorEq]
      refine aL (fun Pr => ?_) (fun Pr => ?_)
      ·simp only [hw,dT,zJ,DC,Int.natCast_nonneg,Int.toNat_natCast,go_sem,reduceIte,zA,zB,zC,zD,zE,zF,reduceCtorEq]
       refine aL (fun Ps => ?_) (fun Ps => ?_)
       ·have MU : jE (H0 r i) = false := by unfold jE; simp_all <;> omega
        have hdn := Tb aF MU
        have ax : 1 = fY r := by unfold fY; simp_all
        simp only [hw,dT,zJ,DC,Int.natCast_nonneg,Int.toNat_natCast,go_sem,reduceIte,zA,zB,zC,zD,zE,zF,reduceCtorEq]
        exact hK _ (congrArg num ax)
       ·simp only [hw,dT,zJ,DC,Int.natCast_nonneg,Int.toNat_natCast,go_sem,reduceIte,zA,zB,zC,zD,zE,zF,reduceCtorEq]
        refine cE _ (eR (by omega) (by simp only [hw,dT,zJ,DC,Int.natCast_nonneg,Int.toNat_natCast,go_sem,reduceIte,zA,zB,zC,zD,zE,zF,reduceCtorEq]) ?_ ?_) <;> simp only [ja,lk,reduceIte,zE]
        ·refine ⟨i + 1, rfl, aF, fun j hj => ?_⟩
         rcases Nat.lt_or_ge j i with h | h
         ·exact bn j h
         ·obtain rfl : j = i := by omega
          unfold jE; simp_all <;> omega
        ·simp only [Go.Eng.intOf,List.headD_cons]; omega
      ·simp only [hw,dT,zJ,DC,Int.natCast_nonneg,Int.toNat_natCast,go_sem,reduceIte,zA,zB,zC,zD,zE,zF,reduceCtorEq]
       refine cE _ (eR (by omega) (by simp only [hw,dT,zJ,DC,Int.natCast_nonneg,Int.toNat_natCast,go_sem,reduceIte,zA,zB,zC,zD,zE,zF,reduceCtorEq]) ?_ ?_) <;> simp only [ja,lk,reduceIte,zE]
       ·refine ⟨i + 1, rfl, aF, fun j hj => ?_⟩
        rcases Nat.lt_or_ge j i with h | h
        ·exact bn j h
        ·obtain rfl : j = i := by omega
         unfold jE; simp_all <;> omega
       ·simp only [Go.Eng.intOf,List.headD_cons]; omega
     ·have dg : i = 3 := by have := of_decide_eq_false Lf; omega
      subst dg
      have MU := Pm bn
      have ax : 0 = fY r := by unfold fY; simp_all
      simp only [go_sem,reduceIte,zA,zB,zC,zD,zE,zF,reduceCtorEq]
      exact hK _ (congrArg num ax)
theorem tK (hG : aE.g = some 0) (l : List Rl) (I : List V) (hb : F8 l) : ∃ r_, (fun w => w = num (ir l)) r_ ∧ aP Tryz.prog 22 [dw l I] r_ := by
 refine ek tt_ok [] 42 [.tmp 2] (fn := Tryz.f22) Tryz.func22 rfl Tryz.call22 ⟨rfl, rfl, by simp⟩ fun K hK => ?_
 simp only [dw,bP]
 obtain ⟨hl, hb⟩ := hb
 simp only [List.length_map,go_sem,reduceIte,zA,zB,zC,zD,zE,zF,reduceCtorEq]
 refine aL (fun eL => ?_) (fun eL => ?_)
 ·have ax : 7 = ir l := by unfold ir; rw [if_pos (by have := of_decide_eq_true eL; omega)]
  simp only [List.length_map,go_sem,reduceIte,zA,zB,zC,zD,zE,zF,reduceCtorEq]
  exact hK _ (congrArg num ax)
 ·simp only [List.length_map,go_sem,reduceIte,zA,zB,zC,zD,zE,zF,reduceCtorEq]
  refine bO tt_ok [] [14] 1 [1,10,12,13] (fun vs => ((l.length : Int) - Go.Eng.intOf (vs.headD .undef)).toNat) (fun vs => ∃ i : Nat, vs = [num i] ∧ i ≤ l.length ∧ ey none l = ey (cn l i) (l.drop i)) (by omega) (by simp only [List.length_map,go_sem,reduceIte,zA,zB,zC,zD,zE,zF,reduceCtorEq]) (⟨0, rfl, Nat.zero_le _, rfl⟩) fun vs hI Z1 cE => ?_
  obtain ⟨i, rfl, hi, lq⟩ := hI
  simp only [List.length_map,go_sem,reduceIte,zA,zB,zC,zD,zE,zF,reduceCtorEq]
  refine aL (fun lS => ?_) (fun lS => ?_)
  ·have aF : i < l.length := by simpa using lS
   have hw := aC i (by omega)
   obtain ⟨x, hx⟩ : ∃ x, l[i]? = some x := ⟨_, List.getElem?_eq_getElem aF⟩
   simp only [hw,List.getElem?_map,hx,af,ag,ah,List.length_map,go_sem,reduceIte,zA,zB,zC,zD,zE,zF,reduceCtorEq]
   refine cF (by have h := Ca hG x (hb x (List.mem_of_getElem? hx)); simp only [af,ag,ah] at h; exact h) ?_
   rintro _ rfl
   simp only [hw,List.getElem?_map,hx,af,ag,ah,List.length_map,go_sem,reduceIte,zA,zB,zC,zD,zE,zF,reduceCtorEq]
   refine aL (fun uR => ?_) (fun uR => ?_)
   ·have ax : fY x = ir l := by unfold ir; rw [if_neg (by have := of_decide_eq_false eL; omega), lq, Ld hx (by simpa using uR)]
    simp only [hw,List.getElem?_map,hx,af,ag,ah,List.length_map,go_sem,reduceIte,zA,zB,zC,zD,zE,zF,reduceCtorEq]
    exact hK _ (congrArg num ax)
   ·simp only [hw,List.getElem?_map,hx,af,ag,ah,List.length_map,go_sem,reduceIte,zA,zB,zC,zD,zE,zF,reduceCtorEq]
    refine aL (fun fu => ?_) (fun fu => ?_)
    ·have J4 : i = 0 := by have := of_decide_eq_true fu; omega
     have Sg : ∀ p, cn l i = some p → p.key ≠ x.key ∧ ¬ 0 < p.cmp x := fun p hp => by rw [J4] at hp; cases hp
     simp only [hw,List.getElem?_map,hx,af,ag,ah,List.length_map,go_sem,reduceIte,zA,zB,zC,zD,zE,zF,reduceCtorEq]
     refine cE _ (eR (by omega) (by simp only [hw,List.getElem?_map,hx,af,ag,ah,List.length_map,go_sem,reduceIte,zA,zB,zC,zD,zE,zF,reduceCtorEq]) ?_ ?_) <;> simp only [ja,lk,reduceIte,zE]
     ·exact ⟨i + 1, rfl, aF, by rw [lq]; exact DB hx (by simpa using uR) Sg⟩
     ·simp only [Go.Eng.intOf,List.headD_cons]; omega
    ·have J4 : i ≠ 0 := by have := of_decide_eq_false fu; omega
     obtain ⟨p, hp⟩ : ∃ p, l[i - 1]? = some p := ⟨_, List.getElem?_eq_getElem (by omega)⟩
     have Pt : cn l i = some p := by rw [vL J4, hp]
     have gq : IntKind.i64.wrap ((i : Int) - 1) = ((i - 1 : Nat) : Int) := oS _ _ (by omega) (by omega)
     have JK := fun a b => HO a b p.key x.key
     simp only [hw,List.getElem?_map,hx,af,ag,ah,gq,hp,JK,bh,List.length_map,go_sem,reduceIte,zA,zB,zC,zD,zE,zF,reduceCtorEq]
     refine bH tt_ok aK [⟨.r, 0, [], [], []⟩, ⟨.n, 0, [], [], []⟩, ⟨.r, 0, [], [], []⟩, ⟨.n, 0, [], [], []⟩, ⟨.n, 0, [], [], []⟩] 0 (by kernel_rfl) ?_
     simp only [hw,List.getElem?_map,hx,af,ag,ah,gq,hp,JK,bh,List.length_map,go_sem,reduceIte,zA,zB,zC,zD,zE,zF,reduceCtorEq]
     refine cG (by have h := kM p; simp only [af,ag,ah,bh] at h; exact h) ?_
     rintro _ rfl
     simp only [hw,List.getElem?_map,hx,af,ag,ah,gq,hp,JK,bh,List.length_map,go_sem,reduceIte,zA,zB,zC,zD,zE,zF,reduceCtorEq]
     refine cG (by have h := kM x; simp only [af,ag,ah,bh] at h; exact h) ?_
     rintro _ rfl
     simp only [hw,List.getElem?_map,hx,af,ag,ah,gq,hp,JK,bh,List.length_map,go_sem,reduceIte,zA,zB,zC,zD,zE,zF,reduceCtorEq]
     refine aL (fun qb => ?_) (fun qb => ?_)
     ·have ax : 5 = ir l := by unfold ir; rw [if_neg (by have := of_decide_eq_false eL; omega), lq, H2 hx (by simpa using uR) Pt, if_pos (by simpa using qb)]
      simp only [hw,List.getElem?_map,hx,af,ag,ah,gq,hp,JK,bh,List.length_map,go_sem,reduceIte,zA,zB,zC,zD,zE,zF,reduceCtorEq]
      exact hK _ (congrArg num ax)
     ·simp only [hw,List.getElem?_map,hx,af,ag,ah,gq,hp,JK,bh,List.length_map,go_sem,reduceIte,zA,zB,zC,zD,zE,zF,reduceCtorEq]
      refine cF (by have h := B8 p x; simp only [af,ag,ah] at h; exact h) ?_
      rintro _ rfl
      simp only [hw,List.getElem?_map,hx,af,ag,ah,gq,hp,JK,bh,List.length_map,go_sem,reduceIte,zA,zB,zC,zD,zE,zF,reduceCtorEq]
      refine aL (fun Pu => ?_) (fun Pu => ?_)
      ·have ax : 1 = ir l := by unfold ir; rw [if_neg (by have := of_decide_eq_false eL; omega), lq, H2 hx (by simpa using uR) Pt, if_neg (by simpa using qb), if_pos (by simpa using Pu)]
       simp only [hw,List.getElem?_map,hx,af,ag,ah,gq,hp,JK,bh,List.length_map,go_sem,reduceIte,zA,zB,zC,zD,zE,zF,reduceCtorEq]
       exact hK _ (congrArg num ax)
      ·have Sg : ∀ p, cn l i = some p → p.key ≠ x.key ∧ ¬ 0 < p.cmp x := fun q hq => by rw [Pt] at hq; cases hq; exact ⟨by simpa using qb, by simpa using Pu⟩
       simp only [hw,List.getElem?_map,hx,af,ag,ah,gq,hp,JK,bh,List.length_map,go_sem,reduceIte,zA,zB,zC,zD,zE,zF,reduceCtorEq]
       refine cE _ (eR (by omega) (by simp only [hw,List.getElem?_map,hx,af,ag,ah,gq,hp,JK,bh,List.length_map,go_sem,reduceIte,zA,zB,zC,zD,zE,zF,reduceCtorEq]) ?_ ?_) <;> simp only [ja,lk,reduceIte,zE]
       ·exact ⟨i + 1, rfl, aF, by rw [lq]; exact DB hx (by simpa using uR) Sg⟩
       ·simp only [Go.Eng.intOf,List.headD_cons]; omega
  ·have dg : ¬ i < l.length := by simpa using lS
   have ax : 0 = ir l := by unfold ir; rw [if_neg (by have := of_decide_eq_false eL; omega), lq, List.drop_eq_nil_of_le (by omega)]; rfl
   simp only [List.length_map,go_sem,reduceIte,zA,zB,zC,zD,zE,zF,reduceCtorEq]
   exact hK _ (congrArg num ax)
end Go.Proofs.YtnfeacnbgbggfaaGreatDoor
end

section
namespace Go.Proofs.YtnfeacnbgbggfaaGreatDoor
open Go.Eng
variable [aE]
theorem c3 : Tryz.prog.cellsOf 3 = 1 := by kernel_rfl
theorem c4 : Tryz.prog.cellsOf 4 = 1 := by kernel_rfl
theorem c9 : Tryz.prog.cellsOf 9 = 1 := by kernel_rfl
theorem Zu : Tryz.prog.cellsOf 26 = 1 := by kernel_rfl
theorem XU : Tryz.prog.cellsOf 38 = 3 := by kernel_rfl
theorem Zv : Tryz.prog.cellsOf 40 = 9 := by kernel_rfl
theorem Zw : Tryz.prog.cellsOf 49 = 1 := by kernel_rfl
theorem XV : Tryz.prog.cellsOf 51 = 2 := by kernel_rfl
theorem XW : Tryz.prog.cellsOf 78 = 2 := by kernel_rfl
section
variable {F : Addr → Option Value} {hg : Gl F} {H : Type} {enc : TypeId × Value → H} {w : World} {sp : Nat → Bool} {held : Bool} {f : Nat} {cs : List Value} {d : DataW H} {p : List MemPlace}
theorem rX {a : List V} {cs : List Value} {off n : Nat} (h1 : Rd F hg a ((cs.drop off).take n)) (h : cs.length = off + n) : Rd F hg a (cs.drop off) := by
 rwa [List.take_of_length_le (by simp; omega)] at h1
theorem tL (h : DataW.trod enc Tryz.prog w 0 sp held f 3 cs = some (d, p)) : ∃ n : Int, Rd F hg [num n] cs ∧ 1 ≤ Rows.uptoBulk d := by
 cases f with
 | zero => simp [DataW.trod] at h
 | succ f => obtain ⟨n, rfl, rfl⟩ := trod_int Tryz.underlying3 h; exact ⟨n, BG rfl, by simp [Rows.uptoBulk]⟩
theorem qd (h : DataW.trod enc Tryz.prog w 0 sp held f 9 cs = some (d, p)) : ∃ s : ByteArray, Rd F hg [str s] cs ∧ s.size + 1 ≤ Rows.uptoBulk d := by
 cases f with
 | zero => simp [DataW.trod] at h
 | succ f =>
  obtain ⟨n, rfl, rfl⟩ := trod_string Tryz.underlying9 h
  exact ⟨n, BG rfl, by simp only [Rows.uptoBulk,Array.length_toList]; exact Nat.le_refl _⟩
theorem Td (h : DataW.trod enc Tryz.prog w 0 sp held f 4 cs = some (d, p)) : ∃ b : Bool, Rd F hg [bl b] cs := by
 cases f with
 | zero => simp [DataW.trod] at h
 | succ f => obtain ⟨n, rfl, -⟩ := trod_bool Tryz.underlying4 h; exact ⟨n, BG rfl⟩
theorem Nb {T T' : TypeId} {α : Type} {row : α → V} {g : α → Nat} {n : Nat} (hF : F = w.cell?) (hT : Tryz.prog.underlying T = some (.slice T')) (hn : Tryz.prog.cellsOf T' = n)
  (hr : ∀ f', f' < f → ∀ {cs : List Value} {d : DataW H} {p : List MemPlace}, DataW.trod enc Tryz.prog w 0 sp held f' T' cs = some (d, p) → ∃ a : α, Rd F hg (row a).cells cs ∧ g a ≤ Rows.uptoBulk d)
  (h : DataW.trod enc Tryz.prog w 0 sp held f T cs = some (d, p)) : ∃ l : List α, Rd F hg [.slice (l.map row)] cs ∧ dR g l + 1 ≤ Rows.uptoBulk d := by
 cases f with
 | zero => simp [DataW.trod] at h
 | succ f => exact HG hF hT hn (fun h => hr f (Nat.lt_succ_self f) h) h
def Pv (_ : br) : Nat := 1
def H4 (q : Rq) : Nat := q.path.size + q.set.length + 1
def Uz (r : Rl) : Nat := r.path.size + r.ar.size + r.ei.size + r.ce.size + dR H4 r.reqs + 1
theorem Lg {α : Type} (l : List α) : dR (fun _ => 1) l = l.length := by induction l with | nil => rfl | cons a t ih => simp [dR, ih]; omega
theorem Pw (h : DataW.trod enc Tryz.prog w 0 sp held f 78 cs = some (d, p)) : ∃ x : br, Rd F hg (aj x).cells cs ∧ Pv x ≤ Rows.uptoBulk d := by
 cases f with
 | zero => simp [DataW.trod] at h
 | succ f =>
  obtain ⟨hl, d0, p0, h0, d1, p1, h1, rfl⟩ := kI Tryz.underlying78 h
  simp only [c3] at h0 h1
  rw [XW] at hl
  obtain ⟨a, ha, b0⟩ := tL (F := F) (hg := hg) h0
  obtain ⟨b, hb, b1⟩ := tL (F := F) (hg := hg) h1
  refine ⟨⟨a, b⟩, ?_, ?_⟩
  ·exact gD (a := [num a]) (off := 0) ha (rX (a := [num b]) hb hl)
  ·simp only [Rows.uptoBulk,Rows.uptoBulkAll,Pv]; omega
theorem Px (hF : F = w.cell?) (h : DataW.trod enc Tryz.prog w 0 sp held f 49 cs = some (d, p)) : ∃ l : List br, Rd F hg [.slice (l.map aj)] cs ∧ l.length + 1 ≤ Rows.uptoBulk d := by
 obtain ⟨l, h1, h2⟩ := Nb (F := F) (hg := hg) (row := aj) (g := Pv) hF Tryz.underlying49 XW (fun f' _ {cs d p} h => Pw h) h
 exact ⟨l, h1, by rw [← Lg l]; exact h2⟩
theorem Te (hF : F = w.cell?) (h : DataW.trod enc Tryz.prog w 0 sp held f 51 cs = some (d, p)) : ∃ x : Rq, Rd F hg (ak x).cells cs ∧ H4 x ≤ Rows.uptoBulk d := by
 cases f with
 | zero => simp [DataW.trod] at h
 | succ f =>
  obtain ⟨hl, d0, p0, h0, d1, p1, h1, rfl⟩ := kI Tryz.underlying51 h
  simp only [c9,Zw] at h0 h1
  rw [XV] at hl
  obtain ⟨a, ha, b0⟩ := qd (F := F) (hg := hg) h0
  obtain ⟨l, DA, b1⟩ := Px (F := F) (hg := hg) hF h1
  refine ⟨⟨a, l⟩, ?_, ?_⟩
  ·exact gD (a := [str a]) (off := 0) ha (rX (a := [.slice (l.map aj)]) DA hl)
  ·simp only [Rows.uptoBulk,Rows.uptoBulkAll,H4]; omega
theorem Py (hF : F = w.cell?) (h : DataW.trod enc Tryz.prog w 0 sp held f 26 cs = some (d, p)) : ∃ l : List Rq, Rd F hg [.slice (l.map ak)] cs ∧ dR H4 l + 1 ≤ Rows.uptoBulk d :=
 Nb (row := ak) (g := H4) hF Tryz.underlying26 XV (fun f' _ {cs d p} h => Te hF h) h
theorem Pz (h : DataW.trod enc Tryz.prog w 0 sp held f 38 cs = some (d, p)) : ∃ v : fA, Rd F hg [num v.mj, num v.mn, num v.pt] cs := by
 cases f with
 | zero => simp [DataW.trod] at h
 | succ f =>
  obtain ⟨hl, d0, p0, h0, d1, p1, h1, d2, p2, h2, rfl⟩ := kI Tryz.underlying38 h
  simp only [c3] at h0 h1 h2
  rw [XU] at hl
  obtain ⟨a, ha, -⟩ := tL (F := F) (hg := hg) h0
  obtain ⟨b, hb, -⟩ := tL (F := F) (hg := hg) h1
  obtain ⟨c, hc, -⟩ := tL (F := F) (hg := hg) h2
  exact ⟨⟨a, b, c⟩, gD (a := [num a]) (off := 0) ha (gD (a := [num b]) hb (rX (a := [num c]) hc hl))⟩
theorem Tf (hF : F = w.cell?) (h : DataW.trod enc Tryz.prog w 0 sp held f 40 cs = some (d, p)) : ∃ x : Rl, Rd F hg (af x).cells cs ∧ Uz x ≤ Rows.uptoBulk d := by
 cases f with
 | zero => simp [DataW.trod] at h
 | succ f =>
  obtain ⟨hl, d0, p0, h0, d1, p1, h1, d2, p2, h2, d3, p3, h3, d4, p4, h4, d5, p5, h5, d6, p6, h6, rfl⟩ := kI Tryz.underlying40 h
  simp only [c9,XU,Zu,c4] at h0 h1 h2 h3 h4 h5 h6
  rw [Zv] at hl
  obtain ⟨x0, a0, b0⟩ := qd (F := F) (hg := hg) h0
  obtain ⟨x1, a1⟩ := Pz (F := F) (hg := hg) h1
  obtain ⟨x2, a2, b2⟩ := Py (F := F) (hg := hg) hF h2
  obtain ⟨x3, a3, b3⟩ := qd (F := F) (hg := hg) h3
  obtain ⟨x4, a4, b4⟩ := qd (F := F) (hg := hg) h4
  obtain ⟨x5, a5, b5⟩ := qd (F := F) (hg := hg) h5
  obtain ⟨x6, a6⟩ := Td (F := F) (hg := hg) h6
  refine ⟨⟨x0, x1, x2, x3, x4, x5, x6⟩, ?_, ?_⟩
  ·show Rd F hg ([str x0] ++ [num x1.mj, num x1.mn, num x1.pt] ++ [.slice (x2.map ak)] ++ [str x3] ++ [str x4] ++ [str x5] ++ [bl x6]) (cs.drop 0)
   simp only [List.append_assoc]
   exact gD (a := [str x0]) (off := 0) a0 (gD (a := [num x1.mj, num x1.mn, num x1.pt]) a1 (gD (a := [.slice (x2.map ak)]) a2 (gD (a := [str x3]) a3 (gD (a := [str x4]) a4 (gD (a := [str x5]) a5 (rX (a := [bl x6]) a6 hl))))))
  ·simp only [Rows.uptoBulk,Rows.uptoBulkAll,Uz]; omega
theorem PA {q : Rq} (h : H4 q ≤ 1048576) : tH q := by unfold H4 at h; exact ⟨by omega, by omega⟩
theorem Tg {l : List Rq} (h : dR H4 l ≤ 1048576) : l.length ≤ 1048576 ∧ ∀ q ∈ l, tH q := by
 refine ⟨Nat.le_trans (uO H4 (fun q => by unfold H4; omega) l) h, fun q hq => ?_⟩
 obtain ⟨i, hi⟩ := List.mem_iff_getElem?.1 hq
 exact PA (Nat.le_trans (E4 H4 hi) h)
theorem PB {r : Rl} (h : Uz r ≤ 1048576) : xV r := by
 unfold Uz at h
 have := Tg (l := r.reqs) (by omega)
 exact ⟨by omega, this.1, this.2⟩
end
end Go.Proofs.YtnfeacnbgbggfaaGreatDoor
end

section
namespace Go.Proofs.YtnfeacnbgbggfaaGreatDoor
open Go.Eng
open Nat renaming reduceAdd → zA, reduceLT → zB, reduceLeDiff → zC, reduceMul → zD, reduceEqDiff → zE, reduceSub → zF
variable [aE]
set_option maxHeartbeats 4000000
set_option maxRecDepth 100000
def Fh (b : UInt8) : V := .sc (.int .u8 (b.toNat : Int))
def aI (n : Nat) : V := .sc (.int .u64 (n : Int))
def bs (l : List UInt8) : ByteArray := ⟨l.toArray⟩
theorem ib (l : List UInt8) : (bs l).size = l.length := by simp [bs, ByteArray.size]
theorem fp (l : List UInt8) : bc (bs l) = l := by simp [bc, bs]
theorem Fi (s : ByteArray) : bs (bc s) = s := iL (fp _)
theorem Cc (a b : ByteArray) : bc (a ++ b) = bc a ++ bc b := by unfold bc; rw [ByteArray.data_append, Array.toList_append]
theorem Cd (a b : List UInt8) : bs a ++ bs b = bs (a ++ b) := iL (by rw [Cc, fp, fp, fp])
theorem DD (t : ByteArray) : bs (uv t.size) ++ t = bs (eT t) := by
 have h : bs (uv t.size) ++ bs (bc t) = bs (eT t) := Cd _ _
 rwa [Fi] at h
theorem re : ∀ l : List UInt8, eo (l.map Fh) = some (l.map fun b => (b.toNat : Int))
 | [] => rfl
 | b :: r => by
  show (match eo (r.map Fh) with | some l => some ((b.toNat : Int) :: l) | none => none) = _
  rw [re r]; rfl
theorem o4 (l : List UInt8) : strOfNums (l.map fun b => (b.toNat : Int)) = bs l := by
 unfold strOfNums bs
 rw [List.map_map]
 congr 2
 conv => rhs; rw [← List.map_id l]
 exact List.map_congr_left fun b _ => by simp
theorem DE {mem : List au} {b v : Nat} (l : List UInt8) (h : mem[b]? = some (.rows v 1 (l.map Fh))) : jG Tryz.prog mem 159 9 (.ms b v 0 l.length) = some (str (bs l)) := by
 have hs : Tryz.prog.underlying 159 = some (.slice 5) := by kernel_rfl
 have he : Tryz.prog.underlying 5 = some (.int .u8) := by kernel_rfl
 have hd : Tryz.prog.underlying 9 = some .string := by kernel_rfl
 have ht : ((l.map Fh).drop 0).take l.length = l.map Fh := List.take_of_length_le (by simp)
 simp only [jG,h,true_and,List.length_map,Nat.zero_add,Nat.le_refl,if_true,ht,jt,hs,he,hd,re,o4]
theorem H5 : ∀ (k n : Nat), n < 2 ^ (7 * (k + 1)) → (uv n).length ≤ k + 1
 | 0, n, h => by rw [jR (by simpa using h)]; simp
 | k + 1, n, h => by
  by_cases hn : n < 128
  ·rw [jR hn]; simp
  ·rw [tq hn, List.length_cons]
   have hp : 2 ^ (7 * (k + 1 + 1)) = 2 ^ (7 * (k + 1)) * 128 := by rw [show (128 : Nat) = 2 ^ 7 from rfl, ← Nat.pow_add]; congr 1
   have := H5 k (n / 128) (Nat.div_lt_of_lt_mul (by rw [Nat.mul_comm, ← hp]; exact h))
   omega
theorem iS {n : Nat} (h : n < 2 ^ 64) : (uv n).length ≤ 10 := H5 9 n (Nat.lt_of_lt_of_le h (Nat.pow_le_pow_right (by omega) (by omega)))
theorem PC (n : Nat) : 0 < (uv n).length := by rw [uv]; split <;> simp
def tM (k : IntKind) (a b : Int) : Int := k.wrap (BitVec.ofInt k.bits a ||| BitVec.ofInt k.bits b).toNat
theorem ej (T : TypeId) (x y : Operand) (k : IntKind) (a b : Int) : aQ Tryz.prog (fq .or T x y) (.sc (.int k a)) (.sc (.int k b)) = some (.sc (.int k (tM k a b))) := by
 simp [aQ, bp, fq, binOp, eqGuard, aD, bind, pure, Sem.bind, Op.intBits, dj, tM]
theorem PD (T : TypeId) (x y : Operand) (k k' : IntKind) (a b : Int) (hb : ¬ b < 0) : aQ Tryz.prog (fq .shl T x y) (.sc (.int k a)) (.sc (.int k' b)) = some (.sc (.int k (k.wrap (a * 2 ^ min b.toNat k.bits)))) := by
 simp [aQ, bp, fq, binOp, Op.shift, eqGuard, aD, dj, bind, pure, Sem.bind, hb]
theorem Fj : (List.range 256).all (fun a => tM .u8 (a : Int) 128 == ((a % 128 + 128 : Nat) : Int)) = true := by kernel_rfl
theorem Th (a : Nat) (h : a < 256) : tM .u8 (a : Int) 128 = ((a % 128 + 128 : Nat) : Int) := by
 have := List.all_eq_true.1 Fj a (by simpa using h)
 simpa using this
theorem Ce : (List.range 256).all (fun a => Hl .u8 (a : Int) 127 == ((a % 128 : Nat) : Int)) = true := by kernel_rfl
theorem PE (a : Nat) (h : a < 256) : Hl .u8 (a : Int) 127 = ((a % 128 : Nat) : Int) := by
 have := List.all_eq_true.1 Ce a (by simpa using h)
 simpa using this
theorem DF (n : Nat) : IntKind.u8.wrap (n : Int) = ((n % 256 : Nat) : Int) := by
 simp [IntKind.wrap, IntKind.signed, IntKind.bits]
theorem wrap64 (n : Nat) (h : n < 2 ^ 64) : IntKind.u64.wrap (n : Int) = (n : Int) := by
 simp [IntKind.wrap, IntKind.signed, IntKind.bits]
 omega
theorem u8_or (n : Nat) : tM .u8 (IntKind.u8.wrap (n : Int)) 128 = ((UInt8.ofNat (n % 128 + 128)).toNat : Int) := by
 rw [DF, Th _ (Nat.mod_lt _ (by omega)), gJ (by omega)]; omega
theorem Nc (n : Nat) (h : n < 128) : IntKind.u8.wrap (n : Int) = ((UInt8.ofNat n).toNat : Int) := by
 rw [DF, gJ (by omega)]; omega
theorem WA (n : Nat) : ((n : Int)).fdiv (2 ^ min (7 : Int).toNat IntKind.u64.bits) = ((n / 128 : Nat) : Int) := by
 show ((n : Int)).fdiv ((128 : Nat) : Int) = _
 rw [Int.fdiv_eq_ediv_of_nonneg _ (by omega)]; omega
theorem Lh (x y : Operand) (k' : IntKind) (n : Nat) : aQ Tryz.prog (fq .shr 136 x y) (.sc (.int .u64 (n : Int))) (.sc (.int k' 7)) = some (aI (n / 128)) := by
 rw [Hk Tryz.prog 136 x y .u64 k' n 7 (by omega), WA]; rfl
theorem rf (n : Nat) (hn : n < 2 ^ 64) : aP Tryz.prog 93 [aI n] (str (bs (uv n))) := by
 refine QZ tt_ok [] 20 [.tmp 2] (fn := Tryz.f93) Tryz.func93 rfl Tryz.call93 ⟨rfl, rfl, by simp⟩ fun K hK => ?_
 have tC : Tryz.prog.underlying 5 = some (.int .u8) := by kernel_rfl
 have cL : Tryz.prog.underlying 136 = some (.int .u64) := by kernel_rfl
 have rU : Tryz.prog.underlying 3 = some (.int .i64) := by kernel_rfl
 have xW := fun (k : IntKind) (n : Int) => bJ (P := Tryz.prog) (src := 136) (dst := 5) cL tC k n
 have xX := fun (k : IntKind) (n : Int) => bJ (P := Tryz.prog) (src := 3) (dst := 136) rU cL k n
 have Zx := iS hn
 simp only [aI,xW,ej,aI,List.length_map,go_sem,reduceIte,zA,zB,zC,zD,zE,zF,reduceCtorEq]
 refine EY 3 0 1 (by decide) rfl ?_
 refine cT tt_ok [] (fun a : List UInt8 × Nat => [(0, aI a.2), (3, .ms 0 a.1.length 0 a.1.length)]) (fun a : List UInt8 × Nat => [.rows a.1.length 1 (a.1.map Fh)]) (fun a => a.2) (fun a => a.1 ++ uv a.2 = uv n ∧ a.2 < 2 ^ 64) (([], n)) 1 (bd (by omega) (by simp only [aI,xW,ej,aI,List.length_map,List.map_nil,List.length_nil,aI,Int.cast_ofNat_Int,go_sem,reduceIte,zA,zB,zC,zD,zE,zF,reduceCtorEq] <;> rfl)) (⟨rfl, hn⟩) ?_
 rintro ⟨p, m⟩ ⟨hp, hm⟩
 try dsimp only at hp hm
 try dsimp only [aI]
 have DG : p.length + (uv m).length ≤ 10 := by have := congrArg List.length hp; rw [List.length_append] at this; omega
 have fS : p.length + 1 ≤ 34359738368 := by omega
 intro Z1 cE
 simp only [aI,xW,ej,aI,List.length_map,go_sem,reduceIte,zA,zB,zC,zD,zE,zF,reduceCtorEq]
 refine aL (fun Li => ?_) (fun Li => ?_)
 ·have J0 : ¬ m < 128 := by have := of_decide_eq_true Li; omega
  have C8 := u8_or m
  have Zy := fun x y k => Lh x y k m
  have fJ : ∀ x : Int, bM [V.sc (.int .u8 x)] 0 1 = true := fun x => rfl
  simp only [aI,C8,Zy,fJ,fS,List.length_cons,List.length_nil,Nat.zero_add,xW,ej,aI,List.length_map,go_sem,reduceIte,zA,zB,zC,zD,zE,zF,reduceCtorEq]
  refine cE _ ⟨(p ++ [UInt8.ofNat (m % 128 + 128)], m / 128), ?_, ?_, bd (by omega) (by (simp [pV, lk, bY, cQ, ai, aB, List.map_append, Fh, aI]))⟩
  ·refine ⟨?_, by dsimp only; omega⟩
   rw [← hp, tq J0, List.append_assoc]; rfl
  ·dsimp only; omega
 ·have AK : m < 128 := by have := of_decide_eq_false Li; omega
  have ke := Nc m AK
  have fJ : ∀ x : Int, bM [V.sc (.int .u8 x)] 0 1 = true := fun x => rfl
  have oa : p ++ [UInt8.ofNat m] = uv n := by rw [← hp, jR AK]
  have F9 : ∀ mem : List au, mem[0]? = some (.rows (p.length + 1) 1 (p.map Fh ++ [V.sc (.int .u8 ((UInt8.ofNat m).toNat : Int))])) → jG Tryz.prog mem 159 9 (.ms 0 (p.length + 1) 0 (p.length + 1)) = some (str (bs (uv n))) := fun mem hm => by
   have h := DE (b := 0) (v := p.length + 1) (p ++ [UInt8.ofNat m]) (mem := mem) (by rw [hm]; simp [Fh])
   rw [oa] at h
   rw [← h, ← oa, List.length_append]; rfl
  simp only [aI,ke,fJ,fS,F9,List.length_append,List.length_cons,List.length_nil,Nat.zero_add,xW,ej,aI,List.length_map,go_sem,reduceIte,zA,zB,zC,zD,zE,zF,reduceCtorEq]
  exact hK _ rfl
theorem Lj (s : ByteArray) (hs : s.size ≤ 1048576) : ∃ r_, (fun w => w = str (bs (eT s))) r_ ∧ aP Tryz.prog 58 [str s] r_ := by
 refine ek tt_ok [] 9 [.tmp 2] (fn := Tryz.f58) Tryz.func58 rfl Tryz.call58 ⟨rfl, rfl, by simp⟩ fun K hK => ?_
 have eE : Tryz.prog.underlying 9 = some .string := by kernel_rfl
 have sl : ∀ (a : ByteArray) (ty : TypeId), cd Tryz.prog (Builtin.len_ #[9] ty) [.sc (.string a)] = some (num a.size) := fun a ty => bE (P := Tryz.prog) (tt := tt) (T := 9) a eE ty
 have tC : Tryz.prog.underlying 5 = some (.int .u8) := by kernel_rfl
 have cL : Tryz.prog.underlying 136 = some (.int .u64) := by kernel_rfl
 have rU : Tryz.prog.underlying 3 = some (.int .i64) := by kernel_rfl
 have xW := fun (k : IntKind) (n : Int) => bJ (P := Tryz.prog) (src := 136) (dst := 5) cL tC k n
 have xX := fun (k : IntKind) (n : Int) => bJ (P := Tryz.prog) (src := 3) (dst := 136) rU cL k n
 have hw := wrap64 s.size (by omega)
 have zS := fun x y => kB Tryz.prog 9 x y (bs (uv s.size)) s (by have := iS (n := s.size) (by omega); rw [ib, show IntKind.i64.max = 9223372036854775807 from rfl]; omega)
 have H6 := DD s
 simp only [sl,xX,hw,zS,H6,go_sem,reduceIte,zA,zB,zC,zD,zE,zF,reduceCtorEq]
 refine cF (⟨_, rfl, rf s.size (by omega)⟩) ?_
 rintro _ rfl
 simp only [sl,xX,hw,zS,H6,go_sem,reduceIte,zA,zB,zC,zD,zE,zF,reduceCtorEq]
 exact hK _ rfl
theorem Lk (n : Nat) (hn : n < 2 ^ 63) : ∃ r_, (fun w => w = .bt [str (bs (uv n)), num 0]) r_ ∧ aP Tryz.prog 56 [num n] r_ := by
 refine ek tt_ok [] 9 [.tmp 2, .tmp 3] (fn := Tryz.f56) Tryz.func56 rfl Tryz.call56 ⟨rfl, rfl, by simp⟩ fun K hK => ?_
 have tC : Tryz.prog.underlying 5 = some (.int .u8) := by kernel_rfl
 have cL : Tryz.prog.underlying 136 = some (.int .u64) := by kernel_rfl
 have rU : Tryz.prog.underlying 3 = some (.int .i64) := by kernel_rfl
 have xW := fun (k : IntKind) (n : Int) => bJ (P := Tryz.prog) (src := 136) (dst := 5) cL tC k n
 have xX := fun (k : IntKind) (n : Int) => bJ (P := Tryz.prog) (src := 3) (dst := 136) rU cL k n
 have hw := wrap64 n (by omega)
 simp only [xX,hw,go_sem,reduceIte,zA,zB,zC,zD,zE,zF,reduceCtorEq]
 refine aL (fun Li => ?_) (fun Li => ?_)
 ·exact absurd (of_decide_eq_true Li) (by omega)
 ·simp only [xX,hw,go_sem,reduceIte,zA,zB,zC,zD,zE,zF,reduceCtorEq]
  refine cF (⟨_, rfl, rf n (by omega)⟩) ?_
  rintro _ rfl
  simp only [xX,hw,go_sem,reduceIte,zA,zB,zC,zD,zE,zF,reduceCtorEq]
  exact hK _ rfl
end Go.Proofs.YtnfeacnbgbggfaaGreatDoor
end

section
namespace Go.Proofs.YtnfeacnbgbggfaaGreatDoor
open Go.Eng
open Nat renaming reduceAdd → zA, reduceLT → zB, reduceLeDiff → zC, reduceMul → zD, reduceEqDiff → zE, reduceSub → zF
variable [aE]
set_option maxHeartbeats 4000000
set_option maxRecDepth 100000
theorem DH (A B : List UInt8) (h : A.length + B.length ≤ 4611686018427387904) (x y : Operand) : aQ Tryz.prog (fq .add 9 x y) (str (bs A)) (str (bs B)) = some (str (bs (A ++ B))) := by
 rw [← Cd]
 exact kB Tryz.prog 9 x y (bs A) (bs B) (by rw [ib, ib, show IntKind.i64.max = 9223372036854775807 from rfl]; omega)
def dp (n : Int) : List UInt8 := uv n.toNat
theorem H7 (n : Int) (h0 : 0 ≤ n) (h : n < 9223372036854775808) : ∃ r_, (fun w => w = .bt [str (bs (dp n)), num 0]) r_ ∧ aP Tryz.prog 56 [num n] r_ := by
 obtain ⟨k, rfl⟩ : ∃ k : Nat, n = k := ⟨n.toNat, by omega⟩
 exact Lk k (by omega)
theorem bK {n : Int} (h0 : 0 ≤ n) (h : n < 9223372036854775808) : (dp n).length ≤ 10 := iS (by omega)
theorem fN (t : ByteArray) (h : t.size ≤ 1048576) : (eT t).length ≤ 1048586 := by
 unfold eT; rw [List.length_append, eX]
 have := iS (n := t.size) (by omega)
 omega
theorem fO {α β : Type} {g : α → List β} {k : Nat} : ∀ {l : List α}, (∀ x ∈ l, (g x).length ≤ k) → (l.flatMap g).length ≤ k * l.length
 | [], _ => by simp
 | a :: t, h => by
  have h1 := h a (by simp)
  have h2 := fO (l := t) (g := g) (k := k) fun x hx => h x (by simp [hx])
  rw [List.flatMap_cons, List.length_append, List.length_cons, Nat.mul_succ]; omega
theorem mF {α β : Type} (g : α → List β) {l : List α} {i : Nat} {x : α} (h : l[i]? = some x) : (l.take (i + 1)).flatMap g = (l.take i).flatMap g ++ g x := by
 rw [List.take_add_one, h, List.flatMap_append]; simp
theorem zT {α : Type} {l : List α} {p : α → Prop} (h : ∀ x ∈ l, p x) (i : Nat) : ∀ x ∈ l.take i, p x := fun x hx => h x (List.mem_of_mem_take hx)
theorem vM {P : Program} {f : FuncId} {vs : List V} {r : V} {B0 B1 rA : au} (h : aR P f vs [B0, B1] r [rA, B1]) (M : List au) (k k2 : Nat) (hv : vs.all (ai 2) = true) (hm : [B0, B1].all (aB 2) = true) (hr : ai 2 r = true) (G1 : [rA, B1].all (aB 2) = true)
  (h1 : ∀ σ, cp σ B0 = B0) (h2 : ∀ σ, cp σ B1 = B1) (DI : ∀ σ, cp σ rA = rA) (hk : M[k]? = some B0) (kC : M[k2]? = some B1) (bD : k ≠ k2) :
  aR P f (bZ (fun j => if j = 0 then k else if j = 1 then k2 else M.length + (j - 2)) vs) M (bj (fun j => if j = 0 then k else if j = 1 then k2 else M.length + (j - 2)) r) (M.set k rA) := by
 have h3 := h.zd M (fun j => if j = 0 then k else if j = 1 then k2 else M.length + (j - 2)) 2 rfl hv hm hr G1 (by simp) (fun i B hi => by
  match i with
  | 0 => simp at hi; subst hi; rw [h1]; simpa using hk
  | 1 => simp at hi; subst hi; rw [h2]; simpa using kC
  | i + 2 => simp at hi) (fun i j hi hj he => by
  match i, j with
  | 0, 0 => rfl
  | 1, 1 => rfl
  | 0, 1 => exact absurd (by simpa using he) bD
  | 1, 0 => exact absurd (by simpa using he.symm) bD
  | i + 2, _ => omega
  | _, j + 2 => omega) (fun j hj => by rw [if_neg (by omega), if_neg (by omega)])
 have hM : mQ (fun j => if j = 0 then k else if j = 1 then k2 else M.length + (j - 2)) 2 [rA, B1] M = M.set k rA := by
  unfold mQ
  simp only [F6,List.map_nil,List.append_nil,gh]
  show (M.set k (cp _ rA)).set k2 (cp _ B1) = _
  rw [DI, h2]
  exact eW (by rw [List.getElem?_set_ne bD]; exact kC)
 rwa [hM] at h3
theorem H8 (O : List UInt8) (l : List ByteArray) (hl : l.length ≤ 1048576) (hO : O.length ≤ 1152921504606846976) (hx : ∀ x ∈ l, x.size ≤ 1048576) : ∃ r_ m_, (fun r m => r = .bt [] ∧ m = [.box [str (bs (O ++ l.flatMap eT))], .rows 0 1 (l.map str)]) r_ m_ ∧ aR Tryz.prog 57 [.ms 1 0 0 l.length, .ptr 0 0] ([.box [str (bs O)], .rows 0 1 (l.map str)]) r_ m_ := by
 refine F4 tt_ok [] 16 [] (2) (by simp) (fn := Tryz.f57) Tryz.func57 rfl Tryz.call57 ⟨rfl, rfl, by simp⟩ fun K hK => ?_
 have Zz := fO (g := eT) (l := l) (k := 1048586) fun x h => fN x (hx x h)
 simp only [List.length_map,go_sem,reduceIte,zA,zB,zC,zD,zE,zF,reduceCtorEq]
 refine cT tt_ok [] (fun i : Nat => [(1, .ptr 0 0), (5, .ms 1 0 0 l.length), (6, num l.length), (7, num i)]) (fun i : Nat => [.box [str (bs (O ++ (l.take i).flatMap eT))], .rows 0 1 (l.map str)]) (fun i => l.length - i) (fun i => i ≤ l.length) (0) 2 (bd (by omega) (by simp only [List.length_map,List.take_zero,List.flatMap_nil,List.append_nil,Int.cast_ofNat_Int,go_sem,reduceIte,zA,zB,zC,zD,zE,zF,reduceCtorEq] <;> rfl)) (Nat.zero_le _) ?_
 intro i hi
 intro Z1 cE
 simp only [List.length_map,go_sem,reduceIte,zA,zB,zC,zD,zE,zF,reduceCtorEq]
 refine aL (fun M6 => ?_) (fun M6 => ?_)
 ·have aF : i < l.length := by simpa using M6
  have hw := aC i (by omega)
  rw [M6]
  obtain ⟨x, JL⟩ : ∃ x, l[i]? = some x := ⟨_, List.getElem?_eq_getElem aF⟩
  have dT : (i : Int) < (l.length : Int) := by omega
  have Tj := mF eT JL
  have DJ := hx x (List.mem_of_getElem? JL)
  have Fk := fO (g := eT) (l := l.take i) (k := 1048586) fun x h => (by have hx := zT hx i; exact fN x (hx x h))
  have ZA : (eT x).length ≤ 1048586 := (by have hx : ∀ y ∈ [x], y.size ≤ 1048576 := (fun y hy => by rw [List.mem_singleton] at hy; exact hy ▸ DJ); have h : x ∈ [x] := (by simp); exact fN x (hx x h))
  rw [List.length_take] at Fk
  have zS := DH (O ++ (l.take i).flatMap eT) (eT x) (by rw [List.length_append]; omega)
  simp only [hw,List.getElem?_map,JL,dT,zS,Option.map_some,Int.natCast_nonneg,List.length_map,go_sem,reduceIte,zA,zB,zC,zD,zE,zF,reduceCtorEq]
  refine bH tt_ok aK [⟨.r, 0, [], [], []⟩, ⟨.n, 0, [], [], []⟩, ⟨.n, 0, [], [], []⟩, ⟨.n, 0, [], [], []⟩, ⟨.w, 0, [], [], []⟩] 1 (by kernel_rfl) ?_
  simp only [hw,List.getElem?_map,JL,dT,zS,Option.map_some,Int.natCast_nonneg,List.length_map,go_sem,reduceIte,zA,zB,zC,zD,zE,zF,reduceCtorEq]
  refine cG (Lj x DJ) ?_
  rintro _ rfl
  simp only [hw,List.getElem?_map,JL,dT,zS,Option.map_some,Int.natCast_nonneg,List.length_map,go_sem,reduceIte,zA,zB,zC,zD,zE,zF,reduceCtorEq]
  refine cE _ ⟨i + 1, ?_, ?_, bd (by omega) (by (simp only [Tj,hw,List.append_assoc,go_sem,reduceIte,zA,zB,zC,zD,zE,zF,reduceCtorEq]))⟩
  ·exact aF
  ·omega
 ·have dg : ¬ i < l.length := by simpa using M6
  have wz : i = l.length := by omega
  subst wz
  rw [List.take_length]
  simp only [List.length_map,go_sem,reduceIte,zA,zB,zC,zD,zE,zF,reduceCtorEq]
  exact hK _ _ ⟨rfl, rfl⟩
theorem Ll (O : List UInt8) (l : List Int) (hl : l.length ≤ 1048576) (hO : O.length ≤ 1152921504606846976) (hx : ∀ x ∈ l, 0 ≤ x ∧ x < 9223372036854775808) : ∃ r_ m_, (fun r m => r = .bt [] ∧ m = [.box [str (bs (O ++ l.flatMap dp))], .rows 0 1 (l.map num)]) r_ m_ ∧ aR Tryz.prog 55 [.ms 1 0 0 l.length, .ptr 0 0] ([.box [str (bs O)], .rows 0 1 (l.map num)]) r_ m_ := by
 refine F4 tt_ok [] 22 [] (2) (by simp) (fn := Tryz.f55) Tryz.func55 rfl Tryz.call55 ⟨rfl, rfl, by simp⟩ fun K hK => ?_
 have Zz := fO (g := dp) (l := l) (k := 10) fun x h => bK (hx x h).1 (hx x h).2
 simp only [List.length_map,go_sem,reduceIte,zA,zB,zC,zD,zE,zF,reduceCtorEq]
 refine cT tt_ok [] (fun i : Nat => [(1, .ptr 0 0), (7, .ms 1 0 0 l.length), (8, num l.length), (9, num i)]) (fun i : Nat => [.box [str (bs (O ++ (l.take i).flatMap dp))], .rows 0 1 (l.map num)]) (fun i => l.length - i) (fun i => i ≤ l.length) (0) 2 (bd (by omega) (by simp only [List.length_map,List.take_zero,List.flatMap_nil,List.append_nil,Int.cast_ofNat_Int,go_sem,reduceIte,zA,zB,zC,zD,zE,zF,reduceCtorEq] <;> rfl)) (Nat.zero_le _) ?_
 intro i hi
 intro Z1 cE
 simp only [List.length_map,go_sem,reduceIte,zA,zB,zC,zD,zE,zF,reduceCtorEq]
 refine aL (fun eL => ?_) (fun eL => ?_)
 ·have aF : i < l.length := by simpa using eL
  have hw := aC i (by omega)
  rw [eL]
  obtain ⟨x, JL⟩ : ∃ x, l[i]? = some x := ⟨_, List.getElem?_eq_getElem aF⟩
  have dT : (i : Int) < (l.length : Int) := by omega
  have Tj := mF dp JL
  have DJ := hx x (List.mem_of_getElem? JL)
  have Fk := fO (g := dp) (l := l.take i) (k := 10) fun x h => (by have hx := zT hx i; exact bK (hx x h).1 (hx x h).2)
  have ZA : (dp x).length ≤ 10 := (by have hx : ∀ y ∈ [x], 0 ≤ y ∧ y < 9223372036854775808 := (fun y hy => by rw [List.mem_singleton] at hy; exact hy ▸ DJ); have h : x ∈ [x] := (by simp); exact bK (hx x h).1 (hx x h).2)
  rw [List.length_take] at Fk
  have zS := DH (O ++ (l.take i).flatMap dp) (dp x) (by rw [List.length_append]; omega)
  simp only [hw,List.getElem?_map,JL,dT,zS,Option.map_some,Int.natCast_nonneg,List.length_map,go_sem,reduceIte,zA,zB,zC,zD,zE,zF,reduceCtorEq]
  refine cF (H7 x DJ.1 DJ.2) ?_
  rintro _ rfl
  simp only [hw,List.getElem?_map,JL,dT,zS,Option.map_some,Int.natCast_nonneg,List.length_map,go_sem,reduceIte,zA,zB,zC,zD,zE,zF,reduceCtorEq]
  refine cE _ ⟨i + 1, ?_, ?_, bd (by omega) (by (simp only [Tj,hw,List.append_assoc,go_sem,reduceIte,zA,zB,zC,zD,zE,zF,reduceCtorEq]))⟩
  ·exact aF
  ·omega
 ·have dg : ¬ i < l.length := by simpa using eL
  have wz : i = l.length := by omega
  subst wz
  rw [List.take_length]
  simp only [List.length_map,go_sem,reduceIte,zA,zB,zC,zD,zE,zF,reduceCtorEq]
  exact hK _ _ ⟨rfl, rfl⟩
theorem tN (O : List UInt8) (l : List ByteArray) (hl : l.length ≤ 1048576) (hO : O.length ≤ 1152921504606846976) (hx : ∀ x ∈ l, x.size ≤ 1048576) (M : List au) (k k2 : Nat) (hk : M[k]? = some (.box [str (bs O)])) (kC : M[k2]? = some (.rows 0 1 (l.map str))) (bD : k ≠ k2) :
  ∃ r_ m_, (fun r m => r = .bt [] ∧ m = M.set k (.box [str (bs (O ++ l.flatMap eT))])) r_ m_ ∧ aR Tryz.prog 57 [.ms k2 0 0 l.length, .ptr k 0] M r_ m_ := by
 obtain ⟨r, m, ⟨rfl, rfl⟩, h⟩ := H8 O l hl hO hx
 have h3 := vM h M k k2 (by simp [ai]) (by simp [aB, ai]) rfl (by simp [aB, ai]) (fun σ => by simp [cp, bZ, bj]) (fun σ => by simp [cp, bZ, bj]) (fun σ => by simp [cp, bZ, bj]) hk kC bD
 exact ⟨_, _, ⟨rfl, rfl⟩, by simpa [bZ, bj] using h3⟩
theorem rY (O : List UInt8) (l : List Int) (hl : l.length ≤ 1048576) (hO : O.length ≤ 1152921504606846976) (hx : ∀ x ∈ l, 0 ≤ x ∧ x < 9223372036854775808) (M : List au) (k k2 : Nat) (hk : M[k]? = some (.box [str (bs O)])) (kC : M[k2]? = some (.rows 0 1 (l.map num))) (bD : k ≠ k2) :
  ∃ r_ m_, (fun r m => r = .bt [] ∧ m = M.set k (.box [str (bs (O ++ l.flatMap dp))])) r_ m_ ∧ aR Tryz.prog 55 [.ms k2 0 0 l.length, .ptr k 0] M r_ m_ := by
 obtain ⟨r, m, ⟨rfl, rfl⟩, h⟩ := Ll O l hl hO hx
 have h3 := vM h M k k2 (by simp [ai]) (by simp [aB, ai]) rfl (by simp [aB, ai]) (fun σ => by simp [cp, bZ, bj]) (fun σ => by simp [cp, bZ, bj]) (fun σ => by simp [cp, bZ, bj]) hk kC bD
 exact ⟨_, _, ⟨rfl, rfl⟩, by simpa [bZ, bj] using h3⟩
end Go.Proofs.YtnfeacnbgbggfaaGreatDoor
end

section
namespace Go.Proofs.YtnfeacnbgbggfaaGreatDoor
open Go.Eng
open Nat renaming reduceAdd → zA, reduceLT → zB, reduceLeDiff → zC, reduceMul → zD, reduceEqDiff → zE, reduceSub → zF
variable [aE]
set_option maxHeartbeats 4000000
set_option maxRecDepth 100000
theorem iv {P : Program} {f : FuncId} {vs : List V} {r : V} {B0 rA : au} (h : aR P f vs [B0] r [rA]) (M : List au) (k : Nat) (hv : vs.all (ai 1) = true) (hm : [B0].all (aB 1) = true) (hr : ai 1 r = true) (G1 : [rA].all (aB 1) = true)
  (h1 : ∀ σ, cp σ B0 = B0) (DI : ∀ σ, cp σ rA = rA) (hk : M[k]? = some B0) :
  aR P f (bZ (fun j => if j = 0 then k else M.length + (j - 1)) vs) M (bj (fun j => if j = 0 then k else M.length + (j - 1)) r) (M.set k rA) := by
 have h3 := h.zd M (fun j => if j = 0 then k else M.length + (j - 1)) 1 rfl hv hm hr G1 (by simp) (fun i B hi => by
  match i with
  | 0 => simp at hi; subst hi; rw [h1]; simpa using hk
  | i + 1 => simp at hi) (fun i j hi hj he => by omega) (fun j hj => by rw [if_neg (by omega)])
 have hM : mQ (fun j => if j = 0 then k else M.length + (j - 1)) 1 [rA] M = M.set k rA := by
  unfold mQ
  simp only [F6,List.map_nil,List.append_nil,gh]
  show M.set k (cp _ rA) = _
  rw [DI]
 rwa [hM] at h3
theorem vN (m c i : Nat) (hm : m < 2 ^ i) (hs : m + c * 2 ^ i < 2 ^ 64) : tM .u64 (m : Int) ((c * 2 ^ i : Nat) : Int) = ((m + c * 2 ^ i : Nat) : Int) := by
 unfold tM
 have e : (BitVec.ofInt IntKind.u64.bits (m : Int) ||| BitVec.ofInt IntKind.u64.bits ((c * 2 ^ i : Nat) : Int)).toNat = m + c * 2 ^ i := by
  show (BitVec.ofInt 64 (m : Int) ||| BitVec.ofInt 64 ((c * 2 ^ i : Nat) : Int)).toNat = _
  rw [BitVec.ofInt_natCast, BitVec.ofInt_natCast, BitVec.toNat_or, BitVec.toNat_ofNat, BitVec.toNat_ofNat, Nat.mod_eq_of_lt (by omega), Nat.mod_eq_of_lt (by omega)]
  have := Nat.two_pow_add_eq_or_of_lt hm c
  rw [Nat.or_comm, Nat.mul_comm c, ← this, Nat.add_comm]
 rw [e]
 exact wrap64 _ hs
theorem WB (c i : Nat) (h : c * 2 ^ (7 * i) < 2 ^ 64) (hi : i ≤ 9) : IntKind.u64.wrap ((c : Int) * 2 ^ min ((7 * i : Nat) : Int).toNat IntKind.u64.bits) = ((c * 2 ^ (7 * i) : Nat) : Int) := by
 have e : min ((7 * i : Nat) : Int).toNat IntKind.u64.bits = 7 * i := by
  show min ((7 * i : Nat) : Int).toNat 64 = 7 * i
  omega
 rw [e]
 have : (c : Int) * 2 ^ (7 * i) = ((c * 2 ^ (7 * i) : Nat) : Int) := by push_cast; rfl
 rw [this]
 exact wrap64 _ h
theorem rZ (x y : Operand) (c i : Nat) (h : c * 2 ^ (7 * i) < 2 ^ 64) (hi : i ≤ 9) : aQ Tryz.prog (fq .shl 136 x y) (.sc (.int .u64 (c : Int))) (num ((7 * i : Nat) : Int)) = some (aI (c * 2 ^ (7 * i))) := by
 rw [show num ((7 * i : Nat) : Int) = V.sc (.int .i64 ((7 * i : Nat) : Int)) from rfl, PD 136 x y .u64 .i64 _ _ (by omega), WB c i h hi]; rfl
theorem zU {s : ByteArray} {a : Nat} {c : UInt8} (h : s[a]? = some c) : from_ s a = c :: from_ s (a + 1) := by
 have h1 := jS h
 unfold from_
 obtain ⟨h2, h3⟩ := List.getElem?_eq_some_iff.1 h1
 rw [List.drop_eq_getElem_cons h2, h3]
theorem o5 {s : ByteArray} {a : Nat} (h : s.size ≤ a) : from_ s a = [] := List.drop_eq_nil_of_le (by rw [Array.length_toList]; exact h)
theorem Fl (i : Nat) : 2 ^ (7 * (i + 1)) = 128 * 2 ^ (7 * i) := by rw [show (128 : Nat) = 2 ^ 7 from rfl, ← Nat.pow_add]; congr 1; omega
def tO (s : ByteArray) (a : Nat) (r : V) : Prop := ∃ (n j : Nat) (ok : Bool), r = .bt [aI n, num j, bl ok] ∧ n < 2 ^ 64 ∧ j ≤ s.size ∧ (ok = (bG (from_ s a) 0 0).isSome) ∧ ∀ n' k, bG (from_ s a) 0 0 = some (n', k) → n = n' ∧ j = a + k
theorem tO.no {s : ByteArray} {a : Nat} (h : bG (from_ s a) 0 0 = none) : tO s a (.bt [aI 0, num (0 : Nat), bl false]) := ⟨0, 0, false, rfl, by decide, Nat.zero_le _, by rw [h]; rfl, fun _ _ h' => by rw [h] at h'; cases h'⟩
theorem DK {i m c : Nat} (hi : i ≤ 9) (hm : m < 2 ^ (7 * i)) (hc : c < 128) (h9 : i = 9 → c ≤ 1) : m + c * 2 ^ (7 * i) < 2 ^ 64 ∧ (i + 1 ≤ 9 → m + c * 2 ^ (7 * i) < 2 ^ (7 * (i + 1))) ∧ c * 2 ^ (7 * i) < 2 ^ 64 := by
 by_cases h : i = 9
 ·subst h
  have := h9 rfl
  refine ⟨?_, by omega, ?_⟩ <;> omega
 ·have h1 : c * 2 ^ (7 * i) ≤ 127 * 2 ^ (7 * i) := Nat.mul_le_mul_right _ (by omega)
  have h2 := Fl i
  have h3 : 2 ^ (7 * (i + 1)) ≤ 2 ^ 63 := Nat.pow_le_pow_right (by omega) (by omega)
  refine ⟨?_, fun _ => ?_, ?_⟩ <;> omega
theorem tO.yes {s : ByteArray} {a i m : Nat} {c : UInt8} {ok : Bool} (fb : bG (from_ s a) 0 0 = if i = 0 ∨ 0 < c.toNat then some (m + c.toNat * 2 ^ (7 * i), i + 1) else none) (hc : c.toNat < 128) (ZB : m + c.toNat % 128 * 2 ^ (7 * i) < 2 ^ 64) (hj : a + i + 1 ≤ s.size) (bB : ok = decide (i = 0 ∨ 0 < c.toNat)) :
  tO s a (.bt [aI (m + c.toNat % 128 * 2 ^ (7 * i)), num (a + i + 1 : Nat), bl ok]) := by
 refine ⟨_, _, _, rfl, ZB, hj, ?_, fun n' k h => ?_⟩
 ·rw [fb, bB]; split <;> simp_all
 ·rw [fb] at h
  split at h
  ·simp only [Option.some.injEq,Prod.mk.injEq] at h
   rw [Nat.mod_eq_of_lt hc]
   exact ⟨h.1, by rw [← h.2, Nat.add_assoc]⟩
  ·cases h
def Q7 (s : ByteArray) (a : Nat) (r : V) : Prop := ∃ (n : Int) (j : Nat) (ok : Bool), r = .bt [num n, num j, bl ok] ∧ j ≤ s.size ∧ (ok = (eP s a).isSome) ∧ ∀ n' k, eP s a = some (n', k) → n = n' ∧ j = k
def Fm (s : ByteArray) (a : Nat) : V := match lg s a with | some (t, j) => .bt [str t, num j, bl true] | none => .bt [str ⟨#[]⟩, num 0, bl false]
theorem Lm (s : ByteArray) (hs : s.size ≤ 1073741824) (a a0 : Nat) (e : Int) (ha : a ≤ s.size) : ∃ r_, tO s a r_ ∧ aR Tryz.prog 131 [.ptr 0 0, num a] ([.box [str s, num a0, num e]]) r_ ([.box [str s, num a0, num e]]) := by
 refine F5 tt_ok [] 54 [.tmp 4, .tmp 5, .tmp 6] (fn := Tryz.f131) Tryz.func131 rfl Tryz.call131 ⟨rfl, rfl, by simp⟩ fun K hK => ?_
 have eE : Tryz.prog.underlying 9 = some .string := by kernel_rfl
 have sl : ∀ (a : ByteArray) (ty : TypeId), cd Tryz.prog (Builtin.len_ #[9] ty) [.sc (.string a)] = some (num a.size) := fun a ty => bE (P := Tryz.prog) (tt := tt) (T := 9) a eE ty
 have tC : Tryz.prog.underlying 5 = some (.int .u8) := by kernel_rfl
 have cL : Tryz.prog.underlying 136 = some (.int .u64) := by kernel_rfl
 have rU : Tryz.prog.underlying 3 = some (.int .i64) := by kernel_rfl
 have xW := fun (k : IntKind) (n : Int) => bJ (P := Tryz.prog) (src := 136) (dst := 5) cL tC k n
 have xX := fun (k : IntKind) (n : Int) => bJ (P := Tryz.prog) (src := 3) (dst := 136) rU cL k n
 have ki := fun (k : IntKind) (n : Int) => bJ (P := Tryz.prog) (src := 5) (dst := 136) tC cL k n
 have ea := fun x y (b : UInt8) => Oy Tryz.prog 5 x y .u8 b.toNat 127
 have xq : ∀ b : UInt8, Hl .u8 (b.toNat : Int) 127 = ((b.toNat % 128 : Nat) : Int) := fun b => PE _ b.toNat_lt
 have xr : ∀ b : UInt8, IntKind.u64.wrap ((b.toNat % 128 : Nat) : Int) = ((b.toNat % 128 : Nat) : Int) := fun b => wrap64 _ (by omega)
 simp only [aI,sl,ki,ea,xq,xr,ej,aI,go_sem,reduceIte,zA,zB,zC,zD,zE,zF,reduceCtorEq]
 refine cT tt_ok [] (fun b : Nat × Nat => [(0, .ptr 0 0), (1, num (a + b.1 : Nat)), (7, aI b.2), (8, num (7 * b.1 : Nat))]) (fun b : Nat × Nat => [.box [str s, num a0, num e]]) (fun b => 10 - b.1) (fun b => b.1 ≤ 10 ∧ a + b.1 ≤ s.size ∧ b.2 < 2 ^ 64 ∧ (b.1 ≤ 9 → b.2 < 2 ^ (7 * b.1)) ∧ bG (from_ s a) 0 0 = bG (from_ s (a + b.1)) b.1 b.2) ((0, 0)) 1 (bd (by omega) (by simp only [aI,sl,ki,ea,xq,xr,ej,aI,aI,Nat.mul_zero,Nat.add_zero,Int.cast_ofNat_Int,go_sem,reduceIte,zA,zB,zC,zD,zE,zF,reduceCtorEq] <;> rfl)) (⟨by decide, ha, by decide, fun _ => by decide, rfl⟩) ?_
 rintro ⟨i, m⟩ ⟨hi, WC, PF, hm, fb⟩
 try dsimp only at hi WC PF hm fb
 try dsimp only [aI]
 have hw := aC (a + i) (by omega)
 have mG : IntKind.i64.wrap (((7 * i : Nat) : Int) + 7) = ((7 * (i + 1) : Nat) : Int) := by rw [IntWalk.i64_in _ (by omega)]; omega
 intro Z1 cE
 simp only [aI,sl,ki,ea,xq,xr,ej,aI,go_sem,reduceIte,zA,zB,zC,zD,zE,zF,reduceCtorEq]
 refine aL (fun zM => ?_) (fun zM => ?_)
 ·have aF : a + i < s.size := by have := of_decide_eq_true zM; omega
  obtain ⟨c, jD⟩ := bI (s := s) (i := a + i) aF
  have ca := cx (P := Tryz.prog) s eE .i64 ((a + i : Nat) : Int) (by omega) (c := c) (show s[((a + i : Nat) : Int).toNat]? = some c from jD)
  have QI := zU jD
  rw [QI, bG] at fb
  have kf := c.toNat_lt
  simp only [aI,ca,hw,mG,sl,ki,ea,xq,xr,ej,aI,go_sem,reduceIte,zA,zB,zC,zD,zE,zF,reduceCtorEq]
  refine aL (fun H9 => ?_) (fun H9 => ?_)
  ·have F7 : i ≤ 9 := by have := of_decide_eq_true H9; omega
   have PG := hm F7
   simp only [aI,ca,hw,mG,sl,ki,ea,xq,xr,ej,aI,go_sem,reduceIte,zA,zB,zC,zD,zE,zF,reduceCtorEq]
   refine aL (fun DL => ?_) (fun DL => ?_)
   ·simp only [aI,ca,hw,mG,sl,ki,ea,xq,xr,ej,aI,go_sem,reduceIte,zA,zB,zC,zD,zE,zF,reduceCtorEq]
    refine aL (fun qb => ?_) (fun qb => ?_)
    ·have hR : tO s a (.bt [aI 0, num (0 : Nat), bl false]) := by
      rw [if_pos (.inr ⟨by have := of_decide_eq_true DL; omega, by have := of_decide_eq_true qb; omega⟩)] at fb
      exact tO.no fb
     simp only [aI,ca,hw,mG,sl,ki,ea,xq,xr,ej,aI,go_sem,reduceIte,zA,zB,zC,zD,zE,zF,reduceCtorEq]
     exact hK _ _ ⟨hR, rfl⟩
    ·have h9 : i = 9 → c.toNat ≤ 1 := by first | (intro _; have := of_decide_eq_false qb; omega) | (intro h; have := of_decide_eq_false DL; omega)
     obtain ⟨eS, eD, AI⟩ := DK (c := c.toNat % 128) F7 PG (by omega) (fun h => by have := h9 h; omega)
     have hZ := fun x y => rZ x y (c.toNat % 128) i AI F7
     have tP := vN m (c.toNat % 128) (7 * i) PG eS
     rw [if_neg (by omega)] at fb
     simp only [aI,ca,hw,mG,hZ,tP,sl,ki,ea,xq,xr,ej,aI,go_sem,reduceIte,zA,zB,zC,zD,zE,zF,reduceCtorEq]
     refine aL (fun Cf => ?_) (fun Cf => ?_)
     ·have eA : c.toNat < 128 := by have := of_decide_eq_true Cf; omega
      rw [if_pos eA] at fb
      simp only [aI,ca,hw,mG,hZ,tP,sl,ki,ea,xq,xr,ej,aI,go_sem,reduceIte,zA,zB,zC,zD,zE,zF,reduceCtorEq]
      refine aL (fun nL => ?_) (fun nL => ?_)
      ·have hR := tO.yes (ok := true) fb eA eS (by omega) (by have := of_decide_eq_true nL; simp; omega)
       simp only [aI,ca,hw,mG,hZ,tP,sl,ki,ea,xq,xr,ej,aI,go_sem,reduceIte,zA,zB,zC,zD,zE,zF,reduceCtorEq]
       exact hK _ _ ⟨hR, rfl⟩
      ·have hR := tO.yes (ok := decide (((7 * i : Nat) : Int) = 0)) fb eA eS (by omega) (by have := of_decide_eq_false nL; rw [decide_eq_decide]; omega)
       simp only [aI,ca,hw,mG,hZ,tP,sl,ki,ea,xq,xr,ej,aI,go_sem,reduceIte,zA,zB,zC,zD,zE,zF,reduceCtorEq]
       exact hK _ _ ⟨hR, rfl⟩
     ·have eA : ¬ c.toNat < 128 := by have := of_decide_eq_false Cf; omega
      rw [if_neg eA, show c.toNat - 128 = c.toNat % 128 by omega] at fb
      have oL : i + 1 ≤ 10 ∧ a + (i + 1) ≤ s.size ∧ m + c.toNat % 128 * 2 ^ (7 * i) < 2 ^ 64 ∧ (i + 1 ≤ 9 → m + c.toNat % 128 * 2 ^ (7 * i) < 2 ^ (7 * (i + 1))) ∧ bG (from_ s a) 0 0 = bG (from_ s (a + (i + 1))) (i + 1) (m + c.toNat % 128 * 2 ^ (7 * i)) := ⟨by omega, by omega, eS, eD, fb⟩
      simp only [aI,ca,hw,mG,hZ,tP,sl,ki,ea,xq,xr,ej,aI,go_sem,reduceIte,zA,zB,zC,zD,zE,zF,reduceCtorEq]
      refine cE _ ⟨(i + 1, m + c.toNat % 128 * 2 ^ (7 * i)), ?_, ?_, bd (by omega) (by (simp only [aI,Nat.add_assoc,aI,go_sem,reduceIte,zA,zB,zC,zD,zE,zF,reduceCtorEq]))⟩
      ·exact oL
      ·dsimp only; omega
   ·have h9 : i = 9 → c.toNat ≤ 1 := by first | (intro _; have := of_decide_eq_false qb; omega) | (intro h; have := of_decide_eq_false DL; omega)
    obtain ⟨eS, eD, AI⟩ := DK (c := c.toNat % 128) F7 PG (by omega) (fun h => by have := h9 h; omega)
    have hZ := fun x y => rZ x y (c.toNat % 128) i AI F7
    have tP := vN m (c.toNat % 128) (7 * i) PG eS
    rw [if_neg (by omega)] at fb
    simp only [aI,ca,hw,mG,hZ,tP,sl,ki,ea,xq,xr,ej,aI,go_sem,reduceIte,zA,zB,zC,zD,zE,zF,reduceCtorEq]
    refine aL (fun Cf => ?_) (fun Cf => ?_)
    ·have eA : c.toNat < 128 := by have := of_decide_eq_true Cf; omega
     rw [if_pos eA] at fb
     simp only [aI,ca,hw,mG,hZ,tP,sl,ki,ea,xq,xr,ej,aI,go_sem,reduceIte,zA,zB,zC,zD,zE,zF,reduceCtorEq]
     refine aL (fun nL => ?_) (fun nL => ?_)
     ·have hR := tO.yes (ok := true) fb eA eS (by omega) (by have := of_decide_eq_true nL; simp; omega)
      simp only [aI,ca,hw,mG,hZ,tP,sl,ki,ea,xq,xr,ej,aI,go_sem,reduceIte,zA,zB,zC,zD,zE,zF,reduceCtorEq]
      exact hK _ _ ⟨hR, rfl⟩
     ·have hR := tO.yes (ok := decide (((7 * i : Nat) : Int) = 0)) fb eA eS (by omega) (by have := of_decide_eq_false nL; rw [decide_eq_decide]; omega)
      simp only [aI,ca,hw,mG,hZ,tP,sl,ki,ea,xq,xr,ej,aI,go_sem,reduceIte,zA,zB,zC,zD,zE,zF,reduceCtorEq]
      exact hK _ _ ⟨hR, rfl⟩
    ·have eA : ¬ c.toNat < 128 := by have := of_decide_eq_false Cf; omega
     rw [if_neg eA, show c.toNat - 128 = c.toNat % 128 by omega] at fb
     have oL : i + 1 ≤ 10 ∧ a + (i + 1) ≤ s.size ∧ m + c.toNat % 128 * 2 ^ (7 * i) < 2 ^ 64 ∧ (i + 1 ≤ 9 → m + c.toNat % 128 * 2 ^ (7 * i) < 2 ^ (7 * (i + 1))) ∧ bG (from_ s a) 0 0 = bG (from_ s (a + (i + 1))) (i + 1) (m + c.toNat % 128 * 2 ^ (7 * i)) := ⟨by omega, by omega, eS, eD, fb⟩
     simp only [aI,ca,hw,mG,hZ,tP,sl,ki,ea,xq,xr,ej,aI,go_sem,reduceIte,zA,zB,zC,zD,zE,zF,reduceCtorEq]
     refine cE _ ⟨(i + 1, m + c.toNat % 128 * 2 ^ (7 * i)), ?_, ?_, bd (by omega) (by (simp only [aI,Nat.add_assoc,aI,go_sem,reduceIte,zA,zB,zC,zD,zE,zF,reduceCtorEq]))⟩
     ·exact oL
     ·dsimp only; omega
  ·have RL : i = 10 := by have := of_decide_eq_false H9; omega
   rw [if_pos (.inl (by omega))] at fb
   have hR := tO.no fb
   simp only [aI,ca,hw,mG,sl,ki,ea,xq,xr,ej,aI,go_sem,reduceIte,zA,zB,zC,zD,zE,zF,reduceCtorEq]
   exact hK _ _ ⟨hR, rfl⟩
 ·have dg : s.size ≤ a + i := by have := of_decide_eq_false zM; omega
  rw [o5 dg, bG] at fb
  have hR := tO.no fb
  simp only [aI,sl,ki,ea,xq,xr,ej,aI,go_sem,reduceIte,zA,zB,zC,zD,zE,zF,reduceCtorEq]
  exact hK _ _ ⟨hR, rfl⟩
end Go.Proofs.YtnfeacnbgbggfaaGreatDoor
end

section
namespace Go.Proofs.YtnfeacnbgbggfaaGreatDoor
open Go.Eng
open Nat renaming reduceAdd → zA, reduceLT → zB, reduceLeDiff → zC, reduceMul → zD, reduceEqDiff → zE, reduceSub → zF
variable [aE]
set_option maxHeartbeats 4000000
set_option maxRecDepth 100000
theorem Q7.of {s : ByteArray} {a n j : Nat} {ok ok2 : Bool} (hn : n < 2 ^ 64) (hj : j ≤ s.size) (bB : ok = (bG (from_ s a) 0 0).isSome) (fb : ∀ n' k, bG (from_ s a) 0 0 = some (n', k) → n = n' ∧ j = a + k) (h2 : ok2 = (ok && decide (n < 9223372036854775808))) : Q7 s a (.bt [num (IntKind.i64.wrap (n : Int)), num j, bl ok2]) := by
 refine ⟨_, _, _, rfl, hj, ?_, fun n' k h => ?_⟩
 ·unfold eP
  cases hs : bG (from_ s a) 0 0 with
  | none => rw [hs] at bB; rw [h2, bB]; rfl
  | some p =>
   obtain ⟨n0, k0⟩ := p
   obtain ⟨rfl, rfl⟩ := fb _ _ hs
   rw [hs] at bB
   rw [h2, bB]
   dsimp only
   by_cases h9 : n < 9223372036854775808 <;> simp [h9]
 ·unfold eP at h
  cases hs : bG (from_ s a) 0 0 with
  | none => rw [hs] at h; cases h
  | some p =>
   obtain ⟨n0, k0⟩ := p
   obtain ⟨rfl, rfl⟩ := fb _ _ hs
   rw [hs] at h
   dsimp only at h
   split at h
   ·simp only [Option.some.injEq,Prod.mk.injEq] at h
    obtain ⟨rfl, rfl⟩ := h
    exact ⟨IntWalk.i64_in _ (by omega), rfl⟩
   ·cases h
theorem Tl (x y : Operand) (k' : IntKind) (n : Nat) : aQ Tryz.prog (fq .shr 136 x y) (.sc (.int .u64 (n : Int))) (.sc (.int k' 63)) = some (aI (n / 9223372036854775808)) := by
 rw [Hk Tryz.prog 136 x y .u64 k' n 63 (by omega)]
 have : ((n : Int)).fdiv (2 ^ min (63 : Int).toNat IntKind.u64.bits) = ((n / 9223372036854775808 : Nat) : Int) := by
  show ((n : Int)).fdiv ((9223372036854775808 : Nat) : Int) = _
  rw [Int.fdiv_eq_ediv_of_nonneg _ (by omega)]; omega
 rw [this]; rfl
theorem gY {s : ByteArray} {a n j : Nat} (h : eP s a = some (n, j)) : n < 9223372036854775808 ∧ j ≤ s.size := ⟨(nG h).2.1, (nG h).2.2.2.1⟩
theorem xt (s : ByteArray) (hs : s.size ≤ 1073741824) (a a0 : Nat) (e : Int) (ha : a ≤ s.size) : ∃ r_, Q7 s a r_ ∧ aR Tryz.prog 105 [.ptr 0 0, num a] ([.box [str s, num a0, num e]]) r_ ([.box [str s, num a0, num e]]) := by
 refine F5 tt_ok [] 26 [.tmp 4, .tmp 5, .tmp 6] (fn := Tryz.f105) Tryz.func105 rfl Tryz.call105 ⟨rfl, rfl, by simp⟩ fun K hK => ?_
 have tC : Tryz.prog.underlying 5 = some (.int .u8) := by kernel_rfl
 have cL : Tryz.prog.underlying 136 = some (.int .u64) := by kernel_rfl
 have rU : Tryz.prog.underlying 3 = some (.int .i64) := by kernel_rfl
 have xW := fun (k : IntKind) (n : Int) => bJ (P := Tryz.prog) (src := 136) (dst := 5) cL tC k n
 have xX := fun (k : IntKind) (n : Int) => bJ (P := Tryz.prog) (src := 3) (dst := 136) rU cL k n
 have Ia := fun (k : IntKind) (n : Int) => bJ (P := Tryz.prog) (src := 136) (dst := 3) cL rU k n
 simp only [Ia,aI,go_sem,reduceIte,zA,zB,zC,zD,zE,zF,reduceCtorEq]
 refine cS (Lm s hs a a0 e ha) ?_
 rintro _ ⟨n, j, ok, rfl, Tm, Tn, bB, fb⟩
 have CU := fun x y k => Tl x y k n
 simp only [CU,Ia,aI,go_sem,reduceIte,zA,zB,zC,zD,zE,zF,reduceCtorEq]
 refine aL (fun Ib => ?_) (fun Ib => ?_)
 ·have hR := Q7.of (ok2 := decide (((n / 9223372036854775808 : Nat) : Int) = 0)) Tm Tn bB fb (by rw [Ib, Bool.true_and, decide_eq_decide]; omega)
  simp only [CU,Ia,aI,go_sem,reduceIte,zA,zB,zC,zD,zE,zF,reduceCtorEq]
  exact hK _ _ ⟨hR, rfl⟩
 ·have hR := Q7.of (ok2 := false) Tm Tn bB fb (by rw [Ib]; rfl)
  simp only [CU,Ia,aI,go_sem,reduceIte,zA,zB,zC,zD,zE,zF,reduceCtorEq]
  exact hK _ _ ⟨hR, rfl⟩
theorem Cg (s : ByteArray) (hs : s.size ≤ 1073741824) (a a0 : Nat) (e : Int) (ha : a ≤ s.size) : ∃ r_, (fun w => w = Fm s a) r_ ∧ aR Tryz.prog 100 [.ptr 0 0, num a] ([.box [str s, num a0, num e]]) r_ ([.box [str s, num a0, num e]]) := by
 refine F5 tt_ok [] 42 [.tmp 4, .tmp 5, .tmp 6] (fn := Tryz.f100) Tryz.func100 rfl Tryz.call100 ⟨rfl, rfl, by simp⟩ fun K hK => ?_
 have eE : Tryz.prog.underlying 9 = some .string := by kernel_rfl
 have sl : ∀ (a : ByteArray) (ty : TypeId), cd Tryz.prog (Builtin.len_ #[9] ty) [.sc (.string a)] = some (num a.size) := fun a ty => bE (P := Tryz.prog) (tt := tt) (T := 9) a eE ty
 simp only [sl,go_sem,reduceIte,zA,zB,zC,zD,zE,zF,reduceCtorEq]
 refine cS (xt s hs a a0 e ha) ?_
 rintro _ ⟨n, j, ok, rfl, Tn, bB, fb⟩
 simp only [sl,go_sem,reduceIte,zA,zB,zC,zD,zE,zF,reduceCtorEq]
 refine aL (fun oY => ?_) (fun oY => ?_)
 ·have PH : ok = false := by simpa using oY
  have hR : Fm s a = .bt [str ⟨#[]⟩, num 0, bl false] := by
   unfold Fm lg
   cases hr : eP s a with
   | none => rfl
   | some p => rw [PH, hr] at bB; cases bB
  simp only [sl,go_sem,reduceIte,zA,zB,zC,zD,zE,zF,reduceCtorEq]
  exact hK _ _ ⟨hR.symm, rfl⟩
 ·have Nd : ok = true := by simpa using oY
  obtain ⟨n0, j0, hr⟩ : ∃ n0 j0, eP s a = some (n0, j0) := by
   cases hr : eP s a with
   | none => rw [Nd, hr] at bB; cases bB
   | some p => exact ⟨p.1, p.2, rfl⟩
  obtain ⟨rfl, rfl⟩ := fb _ _ hr
  have fS := gY hr
  have vH : IntKind.i64.wrap ((s.size : Int) - (j : Int)) = (s.size : Int) - (j : Int) := IntWalk.i64_in _ (by omega)
  simp only [vH,sl,go_sem,reduceIte,zA,zB,zC,zD,zE,zF,reduceCtorEq]
  refine aL (fun zV => ?_) (fun zV => ?_)
  ·have hR : Fm s a = .bt [str ⟨#[]⟩, num 0, bl false] := by
    first
    | exact hR
    | (unfold Fm lg; rw [hr]; dsimp only; rw [if_neg (by have := of_decide_eq_true zV; omega)])
   simp only [vH,sl,go_sem,reduceIte,zA,zB,zC,zD,zE,zF,reduceCtorEq]
   exact hK _ _ ⟨hR.symm, rfl⟩
  ·have hle : n0 ≤ s.size - j := by have := of_decide_eq_false zV; omega
   have hR : Fm s a = .bt [str (s.extract j (j + n0)), num ((j + n0 : Nat) : Int), bl true] := by unfold Fm lg; rw [hr]; dsimp only; rw [if_pos hle]
   have uo : IntKind.i64.wrap ((j : Int) + (n0 : Int)) = ((j + n0 : Nat) : Int) := by rw [IntWalk.i64_in _ (by omega)]; omega
   have JI : aQ Tryz.prog (fun a l => Instr.sliceAt 9 a (some l) (some (.int .i64 (((j + n0 : Nat) : Int)))) none) (.sc (.string s)) (.sc (.int .i64 ((j : Int)))) = some (.sc (.string (s.extract ((j : Int) : Int).toNat (((j + n0 : Nat) : Int) : Int).toNat))) := vi (P := Tryz.prog) (tt := tt) (mem := []) (T := 9) s eE .i64 .i64 ((j : Int)) (((j + n0 : Nat) : Int)) (by omega) (by omega) (by omega)
   rw [Int.toNat_natCast, Int.toNat_natCast] at JI
   simp only [vH,uo,JI,bp,sl,go_sem,reduceIte,zA,zB,zC,zD,zE,zF,reduceCtorEq]
   exact hK _ _ ⟨hR.symm, rfl⟩
theorem Ln (s : ByteArray) (hs : s.size ≤ 1073741824) (a a0 : Nat) (e : Int) (ha : a ≤ s.size) (M : List au) (k : Nat) (hk : M[k]? = some (.box [str s, num a0, num e])) : ∃ r_, Q7 s a r_ ∧ aR Tryz.prog 105 [.ptr k 0, num a] M r_ M := by
 obtain ⟨r, hr, h⟩ := xt s hs a a0 e ha
 have um := hr
 obtain ⟨n, j, ok, rfl, -⟩ := um
 have h3 := iv h M k (by simp [ai]) (by simp [aB, ai]) (by simp [ai, dh]) (by simp [aB, ai]) (fun σ => by simp [cp, bZ, bj]) (fun σ => by simp [cp, bZ, bj]) hk
 rw [eW hk] at h3
 exact ⟨_, hr, by simpa [bZ, bj] using h3⟩
def iU (s : ByteArray) (a : Nat) (e : Int) : Nat × Nat × Int := if e ≠ 0 then (0, a, e) else match eP s a with | some (n, j) => (n, j, 0) | none => (0, a, 9)
def iV (s : ByteArray) (a : Nat) (e : Int) : ByteArray × Nat × Int := if e ≠ 0 then (⟨#[]⟩, a, e) else match lg s a with | some (t, j) => (t, j, 0) | none => (⟨#[]⟩, a, 9)
def nM (fy : Int) (s : ByteArray) (a : Nat) (e : Int) : Nat × Nat × Int := if e ≠ 0 then (0, a, e) else match eP s a with | some (n, j) => if (n : Int) ≤ fy then (n, j, 0) else (0, a, 9) | none => (0, a, 9)
def WD (fy : Int) (s : ByteArray) (a : Nat) (r : V) : Prop := ∃ (n : Int) (j : Nat) (ok : Bool), r = .bt [num n, num j, bl ok] ∧ (ok = match eP s a with | some (n', _) => decide ((n' : Int) ≤ fy) | none => false) ∧ ∀ n' k, eP s a = some (n', k) → n = n' ∧ j = k
theorem Fo (s : ByteArray) (hs : s.size ≤ 1073741824) (fy : Int) (a a0 : Nat) (e : Int) (ha : a ≤ s.size) : ∃ r_, WD fy s a r_ ∧ aR Tryz.prog 106 [num a, .ptr 1 0, .ptr 2 0] ([.box [str s, num a0, num e], .box [.ptr 0 0], .box [num fy]]) r_ ([.box [str s, num a0, num e], .box [.ptr 0 0], .box [num fy]]) := by
 refine F5 tt_ok [] 25 [.tmp 4, .tmp 5, .tmp 6] (fn := Tryz.f106) Tryz.func106 rfl Tryz.call106 ⟨rfl, rfl, by simp⟩ fun K hK => ?_
 simp only [go_sem,reduceIte,zA,zB,zC,zD,zE,zF,reduceCtorEq]
 refine cS (Ln s hs a a0 e ha _ 0 rfl) ?_
 rintro _ ⟨n, j, ok, rfl, Tn, bB, fb⟩
 simp only [go_sem,reduceIte,zA,zB,zC,zD,zE,zF,reduceCtorEq]
 refine bH tt_ok aK [⟨.n, 0, [], [], []⟩, ⟨.n, 0, [], [], []⟩, ⟨.n, 0, [], [], []⟩, ⟨.n, 0, [], [], []⟩, ⟨.n, 0, [], [], []⟩, ⟨.r, 0, [], [], []⟩, ⟨.n, 0, [], [], []⟩, ⟨.n, 0, [], [], []⟩, ⟨.n, 0, [], [], []⟩, ⟨.n, 0, [], [], []⟩, ⟨.n, 0, [], [], []⟩] 0 (by kernel_rfl) ?_
 simp only [go_sem,reduceIte,zA,zB,zC,zD,zE,zF,reduceCtorEq]
 refine aL (fun tF => ?_) (fun tF => ?_)
 ·have hR : WD fy s a (.bt [num n, num j, bl (decide (n ≤ fy))]) := by
   refine ⟨_, _, _, rfl, ?_, fb⟩
   cases hr : eP s a with
   | none => rw [hr] at bB; rw [bB] at tF; cases tF
   | some p => obtain ⟨n0, j0⟩ := p; obtain ⟨rfl, rfl⟩ := fb _ _ hr; rfl
  simp only [go_sem,reduceIte,zA,zB,zC,zD,zE,zF,reduceCtorEq]
  exact hK _ _ ⟨hR, rfl⟩
 ·have hR : WD fy s a (.bt [num n, num j, bl false]) := by
   refine ⟨_, _, _, rfl, ?_, fb⟩
   cases hr : eP s a with
   | none => rfl
   | some p => rw [hr] at bB; rw [bB] at tF; cases tF
  simp only [go_sem,reduceIte,zA,zB,zC,zD,zE,zF,reduceCtorEq]
  exact hK _ _ ⟨hR, rfl⟩
theorem Ic (s : ByteArray) (hs : s.size ≤ 1073741824) (a : Nat) (e : Int) (ha : a ≤ s.size) : ∃ r_ m_, (fun r m => r = num (iU s a e).1 ∧ m = [.box [str s, num (iU s a e).2.1, num (iU s a e).2.2]]) r_ m_ ∧ aR Tryz.prog 104 [.ptr 0 0, .fU (.func 105) [.ptr 0 0] []] ([.box [str s, num a, num e]]) r_ m_ := by
 refine F4 tt_ok [] 36 [.tmp 4] (1) (by simp) (fn := Tryz.f104) Tryz.func104 rfl Tryz.call104 ⟨rfl, rfl, by simp⟩ fun K hK => ?_
 obtain ⟨σ, hσ⟩ : ∃ x, x = iU s a e := ⟨_, rfl⟩
 rw [← hσ] at hK
 simp only [go_sem,reduceIte,zA,zB,zC,zD,zE,zF,reduceCtorEq]
 refine aL (fun jz => ?_) (fun jz => ?_)
 ·have he : e ≠ 0 := by simpa using jz
  have eD : σ = (0, a, e) := by rw [hσ]; unfold iU; rw [if_pos he]
  subst eD
  simp only [go_sem,reduceIte,zA,zB,zC,zD,zE,zF,reduceCtorEq]
  exact hK _ _ ⟨rfl, rfl⟩
 ·have he : e = 0 := by simpa using jz
  subst he
  simp only [go_sem,reduceIte,zA,zB,zC,zD,zE,zF,reduceCtorEq]
  refine cS (xt s hs a a 0 ha) ?_
  rintro _ ⟨n, j, ok, rfl, Tn, bB, fb⟩
  simp only [go_sem,reduceIte,zA,zB,zC,zD,zE,zF,reduceCtorEq]
  refine aL (fun gr => ?_) (fun gr => ?_)
  ·have PH : ok = false := by simpa using gr
   have hr : eP s a = none := by
    cases hr : eP s a with
    | none => rfl
    | some p => rw [PH, hr] at bB; cases bB
   have eD : σ = (0, a, 9) := by rw [hσ]; unfold iU; rw [if_neg (by simp), hr]
   subst eD
   simp only [go_sem,reduceIte,zA,zB,zC,zD,zE,zF,reduceCtorEq]
   exact hK _ _ ⟨rfl, rfl⟩
  ·have Nd : ok = true := by simpa using gr
   obtain ⟨n0, j0, hr⟩ : ∃ n0 j0, eP s a = some (n0, j0) := by
    cases hr : eP s a with
    | none => rw [Nd, hr] at bB; cases bB
    | some p => exact ⟨p.1, p.2, rfl⟩
   obtain ⟨rfl, rfl⟩ := fb _ _ hr
   have eD : σ = (n0, j, 0) := by rw [hσ]; unfold iU; rw [if_neg (by simp), hr]
   subst eD
   simp only [go_sem,reduceIte,zA,zB,zC,zD,zE,zF,reduceCtorEq]
   exact hK _ _ ⟨rfl, rfl⟩
theorem Ie (s : ByteArray) (hs : s.size ≤ 1073741824) (fy : Int) (a : Nat) (e : Int) (ha : a ≤ s.size) : ∃ r_ m_, (fun r m => r = num (nM fy s a e).1 ∧ m = [.box [str s, num (nM fy s a e).2.1, num (nM fy s a e).2.2], .box [.ptr 0 0], .box [num fy]]) r_ m_ ∧ aR Tryz.prog 104 [.ptr 0 0, .fU (.func 106) [] [.ptr 1 0, .ptr 2 0]] ([.box [str s, num a, num e], .box [.ptr 0 0], .box [num fy]]) r_ m_ := by
 refine F4 tt_ok [] 36 [.tmp 4] (3) (by simp) (fn := Tryz.f104) Tryz.func104 rfl Tryz.call104 ⟨rfl, rfl, by simp⟩ fun K hK => ?_
 obtain ⟨σ, hσ⟩ : ∃ x, x = nM fy s a e := ⟨_, rfl⟩
 rw [← hσ] at hK
 simp only [go_sem,reduceIte,zA,zB,zC,zD,zE,zF,reduceCtorEq]
 refine aL (fun jz => ?_) (fun jz => ?_)
 ·have he : e ≠ 0 := by simpa using jz
  have eD : σ = (0, a, e) := by rw [hσ]; unfold nM; rw [if_pos he]
  subst eD
  simp only [go_sem,reduceIte,zA,zB,zC,zD,zE,zF,reduceCtorEq]
  exact hK _ _ ⟨rfl, rfl⟩
 ·have he : e = 0 := by simpa using jz
  subst he
  simp only [go_sem,reduceIte,zA,zB,zC,zD,zE,zF,reduceCtorEq]
  refine cS (Fo s hs fy a a 0 ha) ?_
  rintro _ ⟨n, j, ok, rfl, bB, fb⟩
  simp only [go_sem,reduceIte,zA,zB,zC,zD,zE,zF,reduceCtorEq]
  refine aL (fun gr => ?_) (fun gr => ?_)
  ·have PH : ok = false := by simpa using gr
   have eD : σ = (0, a, 9) := by
    rw [hσ]; unfold nM; rw [if_neg (by simp)]
    cases hr : eP s a with
    | none => rfl
    | some p =>
     obtain ⟨n0, j0⟩ := p
     rw [PH, hr] at bB
     exact if_neg (of_decide_eq_false bB.symm)
   subst eD
   simp only [go_sem,reduceIte,zA,zB,zC,zD,zE,zF,reduceCtorEq]
   exact hK _ _ ⟨rfl, rfl⟩
  ·have Nd : ok = true := by simpa using gr
   obtain ⟨n0, j0, hr⟩ : ∃ n0 j0, eP s a = some (n0, j0) := by
    cases hr : eP s a with
    | none => rw [Nd, hr] at bB; cases bB
    | some p => exact ⟨p.1, p.2, rfl⟩
   obtain ⟨rfl, rfl⟩ := fb _ _ hr
   rw [Nd, hr] at bB
   have eD : σ = (n0, j, 0) := by rw [hσ]; unfold nM; rw [if_neg (by simp), hr]; exact if_pos (of_decide_eq_true bB.symm)
   subst eD
   simp only [go_sem,reduceIte,zA,zB,zC,zD,zE,zF,reduceCtorEq]
   exact hK _ _ ⟨rfl, rfl⟩
theorem To (s : ByteArray) (hs : s.size ≤ 1073741824) (a a0 : Nat) (e : Int) (ha : a ≤ s.size) : ∃ r_, (∃ (t : ByteArray) (j : Nat) (ok : Bool), r_ = .bt [str t, num j, bl ok] ∧ (ok = true → lg s a = some (t, j)) ∧ (ok = false → lg s a = none)) ∧ aR Tryz.prog 100 [.ptr 0 0, num a] [.box [str s, num a0, num e]] r_ [.box [str s, num a0, num e]] := by
 obtain ⟨r, rfl, h⟩ := Cg s hs a a0 e ha
 refine ⟨_, ?_, h⟩
 unfold Fm
 cases hr : lg s a with
 | none => exact ⟨_, 0, _, rfl, (fun h => by cases h), fun _ => rfl⟩
 | some p => obtain ⟨t, j⟩ := p; exact ⟨_, _, _, rfl, (fun _ => rfl), fun h => by cases h⟩
theorem Ig (s : ByteArray) (hs : s.size ≤ 1073741824) (a : Nat) (e : Int) (ha : a ≤ s.size) : ∃ r_ m_, (fun r m => r = str (iV s a e).1 ∧ m = [.box [str s, num (iV s a e).2.1, num (iV s a e).2.2]]) r_ m_ ∧ aR Tryz.prog 99 [.ptr 0 0, .fU (.func 100) [.ptr 0 0] []] ([.box [str s, num a, num e]]) r_ m_ := by
 refine F4 tt_ok [] 36 [.tmp 4] (1) (by simp) (fn := Tryz.f99) Tryz.func99 rfl Tryz.call99 ⟨rfl, rfl, by simp⟩ fun K hK => ?_
 obtain ⟨σ, hσ⟩ : ∃ x, x = iV s a e := ⟨_, rfl⟩
 rw [← hσ] at hK
 simp only [go_sem,reduceIte,zA,zB,zC,zD,zE,zF,reduceCtorEq]
 refine aL (fun jz => ?_) (fun jz => ?_)
 ·have he : e ≠ 0 := by simpa using jz
  have eD : σ = (⟨#[]⟩, a, e) := by rw [hσ]; unfold iV; rw [if_pos he]
  subst eD
  simp only [go_sem,reduceIte,zA,zB,zC,zD,zE,zF,reduceCtorEq]
  exact hK _ _ ⟨rfl, rfl⟩
 ·have he : e = 0 := by simpa using jz
  subst he
  simp only [go_sem,reduceIte,zA,zB,zC,zD,zE,zF,reduceCtorEq]
  refine cS (To s hs a a 0 ha) ?_
  rintro _ ⟨t, j, ok, rfl, bB, dH⟩
  simp only [go_sem,reduceIte,zA,zB,zC,zD,zE,zF,reduceCtorEq]
  refine aL (fun gr => ?_) (fun gr => ?_)
  ·have PH : ok = false := by simpa using gr
   have hr := dH PH
   have eD : σ = (⟨#[]⟩, a, 9) := by rw [hσ]; unfold iV; rw [if_neg (by simp), hr]
   subst eD
   simp only [go_sem,reduceIte,zA,zB,zC,zD,zE,zF,reduceCtorEq]
   exact hK _ _ ⟨rfl, rfl⟩
  ·have Nd : ok = true := by simpa using gr
   have hr := bB Nd
   have eD : σ = (t, j, 0) := by rw [hσ]; unfold iV; rw [if_neg (by simp), hr]
   subst eD
   simp only [go_sem,reduceIte,zA,zB,zC,zD,zE,zF,reduceCtorEq]
   exact hK _ _ ⟨rfl, rfl⟩
end Go.Proofs.YtnfeacnbgbggfaaGreatDoor
end

section
namespace Go.Proofs.YtnfeacnbgbggfaaGreatDoor
open Go.Eng
open Nat renaming reduceAdd → zA, reduceLT → zB, reduceLeDiff → zC, reduceMul → zD, reduceEqDiff → zE, reduceSub → zF
variable [aE]
set_option maxHeartbeats 4000000
set_option maxRecDepth 100000
def o6 (s : ByteArray) (a : Nat) (e : Int) : Int := if e = 0 ∧ a < s.size then 9 else e
theorem Ih (s : ByteArray) (hs : s.size ≤ 1073741824) (a : Nat) (e : Int) (ha : a ≤ s.size) : ∃ r_ m_, (fun r m => r = str (iV s a e).1 ∧ m = [.box [str s, num (iV s a e).2.1, num (iV s a e).2.2]]) r_ m_ ∧ aR Tryz.prog 64 [.ptr 0 0] ([.box [str s, num a, num e]]) r_ m_ := by
 refine F4 tt_ok [] 7 [.tmp 2] (1) (by simp) (fn := Tryz.f64) Tryz.func64 rfl Tryz.call64 ⟨rfl, rfl, by simp⟩ fun K hK => ?_
 simp only [go_sem,reduceIte,zA,zB,zC,zD,zE,zF,reduceCtorEq]
 refine cW (Ig s hs a e ha) ?_
 rintro _ _ ⟨rfl, rfl⟩
 simp only [go_sem,reduceIte,zA,zB,zC,zD,zE,zF,reduceCtorEq]
 exact hK _ _ ⟨rfl, rfl⟩
theorem Ii (s : ByteArray) (hs : s.size ≤ 1073741824) (a : Nat) (e : Int) (ha : a ≤ s.size) : ∃ r_ m_, (fun r m => r = num (iU s a e).1 ∧ m = [.box [str s, num (iU s a e).2.1, num (iU s a e).2.2]]) r_ m_ ∧ aR Tryz.prog 66 [.ptr 0 0] ([.box [str s, num a, num e]]) r_ m_ := by
 refine F4 tt_ok [] 7 [.tmp 2] (1) (by simp) (fn := Tryz.f66) Tryz.func66 rfl Tryz.call66 ⟨rfl, rfl, by simp⟩ fun K hK => ?_
 simp only [go_sem,reduceIte,zA,zB,zC,zD,zE,zF,reduceCtorEq]
 refine cW (Ic s hs a e ha) ?_
 rintro _ _ ⟨rfl, rfl⟩
 simp only [go_sem,reduceIte,zA,zB,zC,zD,zE,zF,reduceCtorEq]
 exact hK _ _ ⟨rfl, rfl⟩
theorem Fp (s : ByteArray) (hs : s.size ≤ 1073741824) (fy : Int) (a : Nat) (e : Int) (ha : a ≤ s.size) : ∃ r_ m_, (fun r m => r = num (nM fy s a e).1 ∧ m = [.box [str s, num (nM fy s a e).2.1, num (nM fy s a e).2.2]]) r_ m_ ∧ aR Tryz.prog 67 [.ptr 0 0, num fy] ([.box [str s, num a, num e]]) r_ m_ := by
 refine F4 tt_ok [] 8 [.tmp 4] (1) (by simp) (fn := Tryz.f67) Tryz.func67 rfl Tryz.call67 ⟨rfl, rfl, by simp⟩ fun K hK => ?_
 simp only [go_sem,reduceIte,zA,zB,zC,zD,zE,zF,reduceCtorEq]
 refine cW (Ie s hs fy a e ha) ?_
 rintro _ _ ⟨rfl, rfl⟩
 simp only [go_sem,reduceIte,zA,zB,zC,zD,zE,zF,reduceCtorEq]
 exact hK _ _ ⟨rfl, rfl⟩
theorem lY (s : ByteArray) (hs : s.size ≤ 1073741824) (a : Nat) (e : Int) (ha : a ≤ s.size) (M : List au) (k : Nat) (hk : M[k]? = some (.box [str s, num a, num e])) :
  ∃ r_ m_, (fun r m => r = str (iV s a e).1 ∧ m = M.set k (.box [str s, num (iV s a e).2.1, num (iV s a e).2.2])) r_ m_ ∧ aR Tryz.prog 64 [.ptr k 0] M r_ m_ := by
 obtain ⟨r, m, ⟨rfl, rfl⟩, h⟩ := Ih s hs a e ha
 have h3 := iv h M k (by simp [ai]) (by simp [aB, ai]) (by simp [ai]) (by simp [aB, ai]) (fun σ => by simp [cp, bZ, bj]) (fun σ => by simp [cp, bZ, bj]) hk
 exact ⟨_, _, ⟨rfl, rfl⟩, by simpa [bZ, bj] using h3⟩
theorem tQ (s : ByteArray) (hs : s.size ≤ 1073741824) (a : Nat) (e : Int) (ha : a ≤ s.size) (M : List au) (k : Nat) (hk : M[k]? = some (.box [str s, num a, num e])) :
  ∃ r_ m_, (fun r m => r = num (iU s a e).1 ∧ m = M.set k (.box [str s, num (iU s a e).2.1, num (iU s a e).2.2])) r_ m_ ∧ aR Tryz.prog 66 [.ptr k 0] M r_ m_ := by
 obtain ⟨r, m, ⟨rfl, rfl⟩, h⟩ := Ii s hs a e ha
 have h3 := iv h M k (by simp [ai]) (by simp [aB, ai]) (by simp [ai]) (by simp [aB, ai]) (fun σ => by simp [cp, bZ, bj]) (fun σ => by simp [cp, bZ, bj]) hk
 exact ⟨_, _, ⟨rfl, rfl⟩, by simpa [bZ, bj] using h3⟩
theorem tR (s : ByteArray) (hs : s.size ≤ 1073741824) (a : Nat) (e : Int) (ha : a ≤ s.size) (k : Nat) :
  ∃ r_ B, (fun r B => r = num (iU s a e).1 ∧ B = .box [str s, num (iU s a e).2.1, num (iU s a e).2.2]) r_ B ∧ B.ay = 0 ∧ ∀ M : List au, M[k]? = some (.box [str s, num a, num e]) → aR Tryz.prog 66 [.ptr k 0] M r_ (M.set k B) :=
 ⟨_, _, ⟨rfl, rfl⟩, rfl, fun M hk => by obtain ⟨r, m, ⟨rfl, rfl⟩, h⟩ := tQ s hs a e ha M k hk; exact h⟩
theorem qe (s : ByteArray) (hs : s.size ≤ 1073741824) (fy : Int) (a : Nat) (e : Int) (ha : a ≤ s.size) (M : List au) (k : Nat) (hk : M[k]? = some (.box [str s, num a, num e])) :
  ∃ r_ m_, (fun r m => r = num (nM fy s a e).1 ∧ m = M.set k (.box [str s, num (nM fy s a e).2.1, num (nM fy s a e).2.2])) r_ m_ ∧ aR Tryz.prog 67 [.ptr k 0, num fy] M r_ m_ := by
 obtain ⟨r, m, ⟨rfl, rfl⟩, h⟩ := Fp s hs fy a e ha
 have h3 := iv h M k (by simp [ai]) (by simp [aB, ai]) (by simp [ai]) (by simp [aB, ai]) (fun σ => by simp [cp, bZ, bj]) (fun σ => by simp [cp, bZ, bj]) hk
 exact ⟨_, _, ⟨rfl, rfl⟩, by simpa [bZ, bj] using h3⟩
theorem Fq (s : ByteArray) (hs : s.size ≤ 1073741824) (a : Nat) (e : Int) : ∃ r_, (fun w => w = num e) r_ ∧ aR Tryz.prog 68 [.ptr 0 0] ([.box [str s, num a, num e]]) r_ ([.box [str s, num a, num e]]) := by
 refine F5 tt_ok [] 7 [.tmp 2] (fn := Tryz.f68) Tryz.func68 rfl Tryz.call68 ⟨rfl, rfl, by simp⟩ fun K hK => ?_
 simp only [go_sem,reduceIte,zA,zB,zC,zD,zE,zF,reduceCtorEq]
 exact hK _ _ ⟨rfl, rfl⟩
theorem Lo (s : ByteArray) (hs : s.size ≤ 1073741824) (a : Nat) (e : Int) : ∃ r_, (fun w => w = num (o6 s a e)) r_ ∧ aR Tryz.prog 69 [.ptr 0 0] ([.box [str s, num a, num e]]) r_ ([.box [str s, num a, num e]]) := by
 refine F5 tt_ok [] 24 [.tmp 2] (fn := Tryz.f69) Tryz.func69 rfl Tryz.call69 ⟨rfl, rfl, by simp⟩ fun K hK => ?_
 have eE : Tryz.prog.underlying 9 = some .string := by kernel_rfl
 have sl : ∀ (a : ByteArray) (ty : TypeId), cd Tryz.prog (Builtin.len_ #[9] ty) [.sc (.string a)] = some (num a.size) := fun a ty => bE (P := Tryz.prog) (tt := tt) (T := 9) a eE ty
 simp only [sl,go_sem,reduceIte,zA,zB,zC,zD,zE,zF,reduceCtorEq]
 refine bH tt_ok aK [⟨.n, 0, [], [], []⟩, ⟨.n, 0, [], [], []⟩, ⟨.n, 0, [], [], []⟩, ⟨.r, 0, [], [], []⟩, ⟨.n, 0, [], [], []⟩, ⟨.n, 0, [], [], []⟩, ⟨.n, 0, [], [], []⟩, ⟨.n, 0, [], [], []⟩, ⟨.n, 0, [], [], []⟩, ⟨.r, 0, [], [], []⟩, ⟨.n, 0, [], [], []⟩, ⟨.n, 0, [], [], []⟩, ⟨.n, 0, [], [], []⟩, ⟨.r, 0, [], [], []⟩, ⟨.n, 0, [], [], []⟩, ⟨.n, 0, [], [], []⟩, ⟨.n, 0, [], [], []⟩] 0 (by kernel_rfl) ?_
 simp only [sl,go_sem,reduceIte,zA,zB,zC,zD,zE,zF,reduceCtorEq]
 refine aL (fun zW => ?_) (fun zW => ?_)
 ·have he : e = 0 := by simpa using zW
  simp only [sl,go_sem,reduceIte,zA,zB,zC,zD,zE,zF,reduceCtorEq]
  refine aL (fun tz => ?_) (fun tz => ?_)
  ·have hR : (9 : Int) = o6 s a e := by unfold o6; rw [if_pos ⟨he, by have := of_decide_eq_true tz; omega⟩]
   simp only [sl,go_sem,reduceIte,zA,zB,zC,zD,zE,zF,reduceCtorEq]
   exact hK _ _ ⟨congrArg num hR, rfl⟩
  ·have hR : e = o6 s a e := by first | exact hR | (unfold o6; rw [if_neg (fun h => by have := of_decide_eq_false tz; omega)])
   simp only [sl,go_sem,reduceIte,zA,zB,zC,zD,zE,zF,reduceCtorEq]
   exact hK _ _ ⟨congrArg num hR, rfl⟩
 ·have he : ¬ e = 0 := by simpa using zW
  have hR : e = o6 s a e := by unfold o6; rw [if_neg (by simp [he])]
  simp only [sl,go_sem,reduceIte,zA,zB,zC,zD,zE,zF,reduceCtorEq]
  exact hK _ _ ⟨congrArg num hR, rfl⟩
theorem xu (s : ByteArray) : ∃ r_ m_, (fun r m => r = .ptr 0 0 ∧ m = [.box [str s, num (0 : Nat), num 0]]) r_ m_ ∧ aR Tryz.prog 63 [str s] ([]) r_ m_ := by
 refine F4 tt_ok [] 6 [.tmp 2] (1) (by decide) (fn := Tryz.f63) Tryz.func63 rfl Tryz.call63 ⟨rfl, rfl, by simp⟩ fun K hK => ?_
 simp only [go_sem,reduceIte,zA,zB,zC,zD,zE,zF,reduceCtorEq]
 exact hK _ _ ⟨rfl, rfl⟩
theorem Fs (s : ByteArray) (hs : s.size ≤ 1073741824) (a : Nat) (e : Int) (M : List au) (k : Nat) (hk : M[k]? = some (.box [str s, num a, num e])) : ∃ r_, (fun w => w = num e) r_ ∧ aR Tryz.prog 68 [.ptr k 0] M r_ M := by
 obtain ⟨r, rfl, h⟩ := Fq s hs a e
 have h3 := iv h M k (by simp [ai]) (by simp [aB, ai]) (by simp [ai]) (by simp [aB, ai]) (fun σ => by simp [cp, bZ, bj]) (fun σ => by simp [cp, bZ, bj]) hk
 rw [eW hk] at h3
 exact ⟨_, rfl, by simpa [bZ, bj] using h3⟩
theorem Lp (s : ByteArray) (hs : s.size ≤ 1073741824) (a : Nat) (e : Int) (M : List au) (k : Nat) (hk : M[k]? = some (.box [str s, num a, num e])) : ∃ r_, (fun w => w = num (o6 s a e)) r_ ∧ aR Tryz.prog 69 [.ptr k 0] M r_ M := by
 obtain ⟨r, rfl, h⟩ := Lo s hs a e
 have h3 := iv h M k (by simp [ai]) (by simp [aB, ai]) (by simp [ai]) (by simp [aB, ai]) (fun σ => by simp [cp, bZ, bj]) (fun σ => by simp [cp, bZ, bj]) hk
 rw [eW hk] at h3
 exact ⟨_, rfl, by simpa [bZ, bj] using h3⟩
theorem xv (s : ByteArray) (M : List au) : ∃ r_ m_, (fun r m => r = .ptr M.length 0 ∧ m = M ++ [.box [str s, num (0 : Nat), num 0]]) r_ m_ ∧ aR Tryz.prog 63 [str s] M r_ m_ := by
 obtain ⟨r, m, ⟨rfl, rfl⟩, h⟩ := xu s
 have h2 := h.zd M (fun j => M.length + j) 0 rfl (by simp [ai]) rfl (by simp [ai]) (by simp [aB, ai]) (Nat.zero_le _) (fun i B hi => by simp at hi) (fun i j hi => by omega) (fun j _ => by omega)
 refine ⟨_, _, ⟨rfl, rfl⟩, ?_⟩
 simpa [bZ, bj, cp, mQ, gh] using h2
end Go.Proofs.YtnfeacnbgbggfaaGreatDoor
end

section
namespace Go.Proofs.YtnfeacnbgbggfaaGreatDoor
open Go.Eng
open Nat renaming reduceAdd → zA, reduceLT → zB, reduceLeDiff → zC, reduceMul → zD, reduceEqDiff → zE, reduceSub → zF
variable [aE]
set_option maxHeartbeats 4000000
set_option maxRecDepth 100000
theorem vO (hG : aE.g = some 0) (l : List Rl) (hb : F8 l) (rows : List V) : ∃ r_, (fun w => w = num (ir l)) r_ ∧ aP Tryz.prog 22 [.agg [bP l, .slice rows]] r_ := tK hG l rows hb
theorem qf (r : Rl) : ir [r] = fY r := by
 unfold ir
 rw [if_neg (by simp)]
 unfold ey
 split
 ·rfl
 ·rename_i h; have h0 : fY r = 0 := by simpa using h
  simp [ey, h0]
theorem Ft {P : br → Prop} (hP : ∀ y z : br, P y → P z → P ⟨y.lo, max y.hi z.hi⟩) {o : List br} {x : br} (ho : ∀ y ∈ o, P y) (hx : P x) : ∀ y ∈ dd o x, P y := by
 intro y hy
 unfold dd at hy
 split at hy
 ·rename_i z hz
  have ZC := List.mem_of_getLast? hz
  split at hy
  ·rcases List.mem_append.1 hy with h | h
   ·exact ho y (List.dropLast_subset _ h)
   ·rw [List.mem_singleton] at h; subst h; exact hP z x (ho z ZC) hx
  ·rcases List.mem_append.1 hy with h | h
   ·exact ho y h
   ·rw [List.mem_singleton] at h; subst h; exact hx
 ·rw [List.mem_singleton] at hy; subst hy; exact hx
def lh (x : br) : Prop := 0 ≤ x.lo ∧ x.lo < x.hi ∧ x.hi ≤ 1000000
theorem Fu (s : List br) : ∀ x ∈ canon s, lh x := by
 have h1 : ∀ (l o : List br), (∀ y ∈ l, lh y) → (∀ y ∈ o, lh y) → ∀ y ∈ l.foldl dd o, lh y := by
  intro l
  induction l with
  | nil => intro o _ ho; exact ho
  | cons a t ih =>
   intro o hl ho
   rw [List.foldl_cons]
   exact ih _ (fun y hy => hl y (by simp [hy])) (Ft (fun y z hy hz => by unfold lh at *; dsimp only; omega) ho (hl a (by simp)))
 unfold canon merge
 refine h1 _ _ (fun y hy => ?_) (fun y hy => by simp at hy)
 have h2 := (nF (clip s) [] List.Pairwise.nil).2.subset hy
 exact xj y (by simpa using h2)
def Lq (q : Rq) : Prop := bw q.path = 0 ∧ q.set = canon q.set ∧ q.set ≠ []
structure UA (r : Rl) : Prop where
 path : bw r.path = 0
 mj : r.ay.mj = bF r.path
 ay : r.ay.ok = true
 len : r.reqs.length ≤ 16
 ar : jE r.ar = true
 ei : jE r.ei = true
 ce : jE r.ce = true
 reqs : ∀ q ∈ r.reqs, Lq q
theorem Tp {c : Prop} [Decidable c] (h : (if c then (1 : Int) else 0) = 0) : ¬ c := fun hc => by rw [if_pos hc] at h; cases h
theorem vP : ∀ (l : List Rq) (b : Option Rq), eM b l = 0 → ∀ q ∈ l, Lq q
 | [], b, _, q, hq => by simp at hq
 | a :: t, b, h, q, hq => by
  rw [eM] at h
  split at h
  ·rename_i h1; exact absurd h h1
  ·rename_i h1
   rcases List.mem_cons.1 hq with rfl | hq
   ·have h2 : mE q b = 0 := by simpa using h1
    unfold mE at h2
    split at h2
    ·omega
    ·rename_i h3
     have h4 := Tp h2
     simp only [Bool.or_eq_true,not_or,decide_eq_true_eq,Bool.not_eq_true',decide_eq_false_iff_not,Classical.not_not] at h4
     exact ⟨by simpa using h3, h4.1.2, fun e => h4.1.1 (by rw [e]; rfl)⟩
   ·exact vP t _ h q hq
theorem zX {r : Rl} (h : fY r = 0) : UA r := by
 unfold fY at h
 split at h
 ·omega
 ·rename_i h1
  split at h
  ·omega
  ·rename_i h2
   split at h
   ·rename_i h3; exact absurd h h3
   ·rename_i h3
    split at h
    ·rename_i h4
     have QR : fw r.reqs = 0 := by simpa using h3
     unfold fw at QR
     split at QR
     ·omega
     ·rename_i h5
      simp only [Bool.or_eq_true,not_or,Bool.not_eq_true',Bool.not_eq_false,decide_eq_true_eq] at h2
      simp only [Bool.and_eq_true] at h4
      exact ⟨by simpa using h1, by simpa using h2.2, h2.1, by omega, h4.1, h4.2.1, h4.2.2, vP _ _ QR⟩
    ·omega
theorem cM {s : ByteArray} (h : jE s = true) : s.size ≤ 32 := by
 unfold jE at h
 simp only [Bool.or_eq_true,decide_eq_true_eq] at h
 omega
theorem mH {v : fA} (h : v.ok = true) : (0 ≤ v.mj ∧ v.mj ≤ 999) ∧ (0 ≤ v.mn ∧ v.mn ≤ 999) ∧ 0 ≤ v.pt ∧ v.pt ≤ 999 := by
 unfold fA.ok gk at h
 simp only [Bool.and_eq_true,decide_eq_true_eq] at h
 omega
def po (x : br) : List UInt8 := dp x.lo ++ dp x.hi
def iW (q : Rq) : List UInt8 := (eT q.path ++ dp (q.set.length : Int)) ++ q.set.flatMap po
def lZ (r : Rl) : Int := if r.yk = true then 1 else 0
def AL (r : Rl) : List UInt8 := ((eT r.path ++ (dp r.ay.mn ++ (dp r.ay.pt ++ dp (lZ r)))) ++ (eT r.ar ++ (eT r.ei ++ eT r.ce))) ++ dp (r.reqs.length : Int)
def jA (r : Rl) : List UInt8 := AL r ++ r.reqs.flatMap iW
def qg (r : Rl) : V := if ir [r] = 0 then .bt [str (bs (jA r)), num 0] else .bt [str (bs []), num (ir [r])]
theorem kO (r : Rl) : 0 ≤ lZ r ∧ lZ r ≤ 1 := by unfold lZ; split <;> omega
theorem Lr {x : br} (h : lh x) : (po x).length ≤ 20 := by
 have h1 := bK (n := x.lo) (by unfold lh at h; omega) (by unfold lh at h; omega)
 have h2 := bK (n := x.hi) (by unfold lh at h; omega) (by unfold lh at h; omega)
 unfold po
 simp only [List.length_append]; omega
theorem gu {q : Rq} (h : Lq q) : ∀ x ∈ q.set, lh x := by
 rw [h.2.1]; exact Fu _
theorem r7 {l : List br} (h : ∀ x ∈ l, lh x) : (l.flatMap po).length ≤ 20 * l.length := fO fun x hx => Lr (h x hx)
theorem Ls {q : Rq} (h : Lq q) (hb : tH q) : (iW q).length ≤ 22020190 := by
 have h1 := r7 (gu h)
 have h2 := bK (n := (q.set.length : Int)) (by omega) (by have := hb.2; omega)
 have h3 := fN q.path hb.1
 have h4 := hb.2
 unfold iW
 simp only [List.length_append]
 omega
theorem Lt {r : Rl} (h : UA r) (hb : xV r) : (AL r).length ≤ 8388608 := by
 have h1 := fN r.path hb.1
 have h2 := fN r.ar (by have := cM h.ar; omega)
 have h3 := fN r.ei (by have := cM h.ei; omega)
 have h4 := fN r.ce (by have := cM h.ce; omega)
 have hv := mH h.ay
 have h5 := bK (n := r.ay.mn) (by omega) (by omega)
 have h6 := bK (n := r.ay.pt) (by omega) (by omega)
 have h7 := bK (n := lZ r) (by have := kO r; omega) (by have := kO r; omega)
 have h8 := bK (n := (r.reqs.length : Int)) (by omega) (by have := h.len; omega)
 unfold AL
 simp only [List.length_append]
 omega
theorem o7 {r : Rl} (h : UA r) (hb : xV r) (i : Nat) : ((r.reqs.take i).flatMap iW).length ≤ 352323040 := by
 have h1 := fO (g := iW) (l := r.reqs.take i) (k := 22020190) fun q hq => Ls (h.reqs q (List.mem_of_mem_take hq)) (hb.2.2 q (List.mem_of_mem_take hq))
 have h2 := h.len
 rw [List.length_take] at h1
 have : min i r.reqs.length ≤ 16 := by omega
 have := Nat.mul_le_mul_left 22020190 this
 omega
theorem rh (hG : aE.g = some 0) (r : Rl) (hb : xV r) : ∃ r_, (fun w => w = qg r) r_ ∧ aP Tryz.prog 17 [af r] r_ := by
 refine ek tt_ok [30000] 89 [.tmp 2, .tmp 3] (fn := Tryz.f17) Tryz.func17 rfl Tryz.call17 ⟨rfl, rfl, by simp⟩ fun K hK => ?_
 simp only [af,ag,ah]
 have PI := qf r
 have Lu : F8 [r] := ⟨by simp, fun x hx => by rw [List.mem_singleton] at hx; exact hx ▸ hb⟩
 have bo : ∀ (mem : List au) (ks : List (Nat × Nat)) (n : Int), cI mem ks (num n) = mem := fun _ _ _ => rfl
 simp only [List.length_map,bo,List.flatMap_nil,List.append_nil,go_sem,reduceIte,zA,zB,zC,zD,zE,zF,reduceCtorEq]
 refine sq tt_ok [30000] ?_
 simp only [List.length_map,bo,List.flatMap_nil,List.append_nil,go_sem,reduceIte,zA,zB,zC,zD,zE,zF,reduceCtorEq]
 refine cF (by have h := vO hG [r] Lu []; simp only [bP,List.map_cons,List.map_nil,af,ag,ah] at h; exact h) ?_
 rintro _ rfl
 simp only [List.length_map,bo,List.flatMap_nil,List.append_nil,go_sem,reduceIte,zA,zB,zC,zD,zE,zF,reduceCtorEq]
 refine aL (fun HV => ?_) (fun HV => ?_)
 ·have bD : ir [r] ≠ 0 := by simpa using HV
  have ax : V.bt [str ⟨#[]⟩, num (ir [r])] = qg r := by unfold qg; rw [if_neg bD]; rfl
  simp only [List.length_map,bo,List.flatMap_nil,List.append_nil,go_sem,reduceIte,zA,zB,zC,zD,zE,zF,reduceCtorEq]
  exact hK _ ax
 ·have ca : ir [r] = 0 := by simpa using HV
  have xw := zX (PI ▸ ca)
  have hv := mH xw.ay
  have WE := kO r
  have ZD := Lt xw hb
  have Vl := o7 xw hb
  have JU : (eT r.path).length ≤ 8388608 ∧ (dp r.ay.mn).length + ((dp r.ay.pt).length + (dp (lZ r)).length) ≤ 8388608 ∧ (eT r.ar).length + ((eT r.ei).length + (eT r.ce).length) ≤ 8388608 := by
   have h := ZD
   unfold AL at h
   simp only [List.length_append] at h
   omega
  have ZE : ∀ x ∈ [r.ay.mn, r.ay.pt, lZ r], 0 ≤ x ∧ x < 9223372036854775808 := by intro x hx; simp at hx; rcases hx with rfl | rfl | rfl <;> omega
  have ZF : ∀ x ∈ [r.ar, r.ei, r.ce], x.size ≤ 1048576 := by
   have h1 := cM xw.ar
   have h2 := cM xw.ei
   have h3 := cM xw.ce
   intro x hx; simp at hx; rcases hx with rfl | rfl | rfl <;> omega
  have pC := xw.len
  have ax : V.bt [str (bs (AL r ++ r.reqs.flatMap iW)), num 0] = qg r := by unfold qg; rw [if_pos ca]; rfl
  simp only [List.length_map,bo,List.flatMap_nil,List.append_nil,go_sem,reduceIte,zA,zB,zC,zD,zE,zF,reduceCtorEq]
  refine cW (tN [] [r.path] (by simp) (by simp) (by simpa using hb.1) _ 2 3 rfl rfl (by decide)) ?_
  rintro _ _ ⟨rfl, rfl⟩
  try simp only [List.set_cons_zero,List.set_cons_succ]
  simp only [List.length_map,bo,List.flatMap_nil,List.append_nil,go_sem,reduceIte,zA,zB,zC,zD,zE,zF,reduceCtorEq]
  refine SO tt_ok [30000] [8] 4 [0,1,2,3,4,5,6,7,13,14,15,16,17,18,19,20,21,22,23,24,25] (fun vs => vs = [num (lZ r)]) (fun Z1 cE => ?_) ?_
  ·simp only [List.length_map,bo,List.flatMap_nil,List.append_nil,go_sem,reduceIte,zA,zB,zC,zD,zE,zF,reduceCtorEq]
   refine aL (fun Cb => ?_) (fun Cb => ?_)
   ·simp only [List.length_map,bo,List.flatMap_nil,List.append_nil,go_sem,reduceIte,zA,zB,zC,zD,zE,zF,reduceCtorEq]
    refine cE _ (SN (by omega) (by simp only [List.length_map,bo,List.flatMap_nil,List.append_nil,go_sem,reduceIte,zA,zB,zC,zD,zE,zF,reduceCtorEq]) ?_)
    simp only [ja,lk,reduceIte,zE]
    simp_all [lZ]
   ·simp only [List.length_map,bo,List.flatMap_nil,List.append_nil,go_sem,reduceIte,zA,zB,zC,zD,zE,zF,reduceCtorEq]
    refine cE _ (SN (by omega) (by simp only [List.length_map,bo,List.flatMap_nil,List.append_nil,go_sem,reduceIte,zA,zB,zC,zD,zE,zF,reduceCtorEq]) ?_)
    simp only [ja,lk,reduceIte,zE]
    simp_all [lZ]
  ·intro vs hJ
   obtain rfl := hJ
   simp only [List.length_map,bo,List.flatMap_nil,List.append_nil,go_sem,reduceIte,zA,zB,zC,zD,zE,zF,reduceCtorEq]
   refine cW (rY (eT r.path) [r.ay.mn, r.ay.pt, lZ r] (by simp) (by (try simp only [List.length_append]); omega) ZE _ 2 4 rfl rfl (by decide)) ?_
   rintro _ _ ⟨rfl, rfl⟩
   try simp only [List.set_cons_zero,List.set_cons_succ]
   simp only [List.length_map,bo,List.flatMap_nil,List.append_nil,go_sem,reduceIte,zA,zB,zC,zD,zE,zF,reduceCtorEq]
   refine cW (tN (eT r.path ++ (dp r.ay.mn ++ (dp r.ay.pt ++ dp (lZ r)))) [r.ar, r.ei, r.ce] (by simp) (by (try simp only [List.length_append]); omega) ZF _ 2 5 rfl rfl (by decide)) ?_
   rintro _ _ ⟨rfl, rfl⟩
   try simp only [List.set_cons_zero,List.set_cons_succ]
   simp only [List.length_map,bo,List.flatMap_nil,List.append_nil,go_sem,reduceIte,zA,zB,zC,zD,zE,zF,reduceCtorEq]
   refine cW (rY ((eT r.path ++ (dp r.ay.mn ++ (dp r.ay.pt ++ dp (lZ r)))) ++ (eT r.ar ++ (eT r.ei ++ eT r.ce))) [(r.reqs.length : Int)] (by simp) (by (try simp only [List.length_append]); omega) (by simp; omega) _ 2 6 rfl rfl (by decide)) ?_
   rintro _ _ ⟨rfl, rfl⟩
   try simp only [List.set_cons_zero,List.set_cons_succ]
   simp only [List.length_map,bo,List.flatMap_nil,List.append_nil,go_sem,reduceIte,zA,zB,zC,zD,zE,zF,reduceCtorEq]
   refine sq tt_ok [30000] ?_
   simp only [List.length_map,bo,List.flatMap_nil,List.append_nil,go_sem,reduceIte,zA,zB,zC,zD,zE,zF,reduceCtorEq]
   refine cT tt_ok [30000] (fun i : Nat => [(5, .ptr 2 0), (6, .fU (.func 55) [] [.ptr 2 0]), (7, .fU (.func 57) [] [.ptr 2 0]), (55, .slice (r.reqs.map ak)), (56, num r.reqs.length), (57, num i)]) (fun i : Nat => [.box [str r.path, num r.ay.mj, num r.ay.mn, num r.ay.pt, .slice (r.reqs.map ak), str r.ar, str r.ei, str r.ce, bl r.yk], .rows 0 9 [.agg [str r.path, num r.ay.mj, num r.ay.mn, num r.ay.pt, .slice (r.reqs.map ak), str r.ar, str r.ei, str r.ce, bl r.yk]], .box [str (bs (AL r ++ (r.reqs.take i).flatMap iW))], .rows 0 1 [str r.path], .rows 0 1 [num r.ay.mn, num r.ay.pt, num (lZ r)], .rows 0 1 [str r.ar, str r.ei, str r.ce], .rows 0 1 [num r.reqs.length]]) (fun i => r.reqs.length - i) (fun i => i ≤ r.reqs.length) (0) 7 (bd (by omega) (by simp only [List.length_map,bo,List.flatMap_nil,List.append_nil,List.take_zero,List.flatMap_nil,List.append_nil,Int.cast_ofNat_Int,go_sem,reduceIte,zA,zB,zC,zD,zE,zF,reduceCtorEq] <;> rfl)) (Nat.zero_le _) ?_
   intro i hi
   intro Z2 pn
   simp only [List.length_map,bo,List.flatMap_nil,List.append_nil,go_sem,reduceIte,zA,zB,zC,zD,zE,zF,reduceCtorEq]
   refine aL (fun Lv => ?_) (fun Lv => ?_)
   ·have aF : i < r.reqs.length := by simpa using Lv
    rw [Lv]
    have dT : (i : Int) < (r.reqs.length : Int) := by omega
    have hw := aC i (by omega)
    obtain ⟨q, hx⟩ : ∃ q, r.reqs[i]? = some q := ⟨_, List.getElem?_eq_getElem aF⟩
    have Lw := List.mem_of_getElem? hx
    have JY := hb.2.2 q Lw
    have WG := xw.reqs q Lw
    have rK := gu WG
    have Tj := mF iW hx
    have ZG := Vl i
    have hlp := fN q.path JY.1
    have Rv := JY.2
    have hls := bK (n := (q.set.length : Int)) (by omega) (by omega)
    simp only [hw,List.getElem?_map,hx,Option.map_some,ak,al,dT,Int.natCast_nonneg,List.length_map,bo,List.flatMap_nil,List.append_nil,go_sem,reduceIte,zA,zB,zC,zD,zE,zF,reduceCtorEq]
    refine cW (tN (AL r ++ (r.reqs.take i).flatMap iW) [q.path] (by simp) (by rw [List.length_append]; omega) (by simpa using JY.1) _ 2 8 rfl rfl (by decide)) ?_
    rintro _ _ ⟨rfl, rfl⟩
    try simp only [List.set_cons_zero,List.set_cons_succ]
    simp only [hw,List.getElem?_map,hx,Option.map_some,ak,al,dT,Int.natCast_nonneg,List.length_map,bo,List.flatMap_nil,List.append_nil,go_sem,reduceIte,zA,zB,zC,zD,zE,zF,reduceCtorEq]
    refine cW (rY ((AL r ++ (r.reqs.take i).flatMap iW) ++ eT q.path) [(q.set.length : Int)] (by simp) (by (try simp only [List.length_append]); omega) (by simp; omega) _ 2 9 rfl rfl (by decide)) ?_
    rintro _ _ ⟨rfl, rfl⟩
    try simp only [List.set_cons_zero,List.set_cons_succ]
    simp only [hw,List.getElem?_map,hx,Option.map_some,ak,al,dT,Int.natCast_nonneg,List.length_map,bo,List.flatMap_nil,List.append_nil,go_sem,reduceIte,zA,zB,zC,zD,zE,zF,reduceCtorEq]
    refine cT tt_ok [30000] (fun j : Nat => [(5, .ptr 2 0), (6, .fU (.func 55) [] [.ptr 2 0]), (7, .fU (.func 57) [] [.ptr 2 0]), (55, .slice (r.reqs.map ak)), (56, num r.reqs.length), (57, num i), (73, .slice (q.set.map aj)), (74, num q.set.length), (75, num j)]) (fun j : Nat => [.box [str r.path, num r.ay.mj, num r.ay.mn, num r.ay.pt, .slice (r.reqs.map ak), str r.ar, str r.ei, str r.ce, bl r.yk], .rows 0 9 [.agg [str r.path, num r.ay.mj, num r.ay.mn, num r.ay.pt, .slice (r.reqs.map ak), str r.ar, str r.ei, str r.ce, bl r.yk]], .box [str (bs ((((AL r ++ (r.reqs.take i).flatMap iW) ++ eT q.path) ++ dp (q.set.length : Int)) ++ (q.set.take j).flatMap po))], .rows 0 1 [str r.path], .rows 0 1 [num r.ay.mn, num r.ay.pt, num (lZ r)], .rows 0 1 [str r.ar, str r.ei, str r.ce], .rows 0 1 [num r.reqs.length], .box [str q.path, .slice (q.set.map aj)], .rows 0 1 [str q.path], .rows 0 1 [num q.set.length]]) (fun j => q.set.length - j) (fun j => j ≤ q.set.length) (0) 10 (bd (by omega) (by simp only [hw,List.getElem?_map,hx,Option.map_some,ak,al,dT,Int.natCast_nonneg,List.length_map,bo,List.flatMap_nil,List.append_nil,List.take_zero,List.flatMap_nil,List.append_nil,Int.cast_ofNat_Int,go_sem,reduceIte,zA,zB,zC,zD,zE,zF,reduceCtorEq] <;> rfl)) (Nat.zero_le _) ?_
    intro j hj
    intro Z3 AM
    simp only [hw,List.getElem?_map,hx,Option.map_some,ak,al,dT,Int.natCast_nonneg,List.length_map,bo,List.flatMap_nil,List.append_nil,go_sem,reduceIte,zA,zB,zC,zD,zE,zF,reduceCtorEq]
    refine aL (fun Lx => ?_) (fun Lx => ?_)
    ·have Fk : j < q.set.length := by simpa using Lx
     rw [Lx]
     have Tq : (j : Int) < (q.set.length : Int) := by omega
     have Ew := aC j (by omega)
     obtain ⟨x, UB⟩ : ∃ x, q.set[j]? = some x := ⟨_, List.getElem?_eq_getElem Fk⟩
     have DJ := rK x (List.mem_of_getElem? UB)
     have WH := mF po UB
     have AF : ∀ y ∈ [x.lo, x.hi], 0 ≤ y ∧ y < 9223372036854775808 := by unfold lh at DJ; intro y hy; simp at hy; rcases hy with rfl | rfl <;> omega
     have ZH := r7 (l := q.set.take j) fun y hy => rK y (List.mem_of_mem_take hy)
     rw [List.length_take] at ZH
     simp only [hw,List.getElem?_map,hx,Option.map_some,ak,al,dT,Int.natCast_nonneg,Ew,List.getElem?_map,UB,Option.map_some,aj,Tq,Int.natCast_nonneg,List.length_map,bo,List.flatMap_nil,List.append_nil,go_sem,reduceIte,zA,zB,zC,zD,zE,zF,reduceCtorEq]
     refine cW (rY ((((AL r ++ (r.reqs.take i).flatMap iW) ++ eT q.path) ++ dp (q.set.length : Int)) ++ (q.set.take j).flatMap po) [x.lo, x.hi] (by simp) (by (try simp only [List.length_append]); omega) AF _ 2 11 rfl rfl (by decide)) ?_
     rintro _ _ ⟨rfl, rfl⟩
     try simp only [List.set_cons_zero,List.set_cons_succ]
     simp only [hw,List.getElem?_map,hx,Option.map_some,ak,al,dT,Int.natCast_nonneg,Ew,List.getElem?_map,UB,Option.map_some,aj,Tq,Int.natCast_nonneg,List.length_map,bo,List.flatMap_nil,List.append_nil,go_sem,reduceIte,zA,zB,zC,zD,zE,zF,reduceCtorEq]
     refine AM _ ⟨j + 1, ?_, ?_, bd (by omega) (by (simp only [WH,Ew,po,List.append_assoc,go_sem,reduceIte,zA,zB,zC,zD,zE,zF,reduceCtorEq]))⟩
     ·exact Fk
     ·omega
    ·have Tr : ¬ j < q.set.length := by simpa using Lx
     have qw : j = q.set.length := by omega
     subst qw
     rw [List.take_length]
     simp only [hw,List.getElem?_map,hx,Option.map_some,ak,al,dT,Int.natCast_nonneg,List.length_map,bo,List.flatMap_nil,List.append_nil,go_sem,reduceIte,zA,zB,zC,zD,zE,zF,reduceCtorEq]
     refine pn _ ⟨i + 1, ?_, ?_, bd (by omega) (by (simp only [Tj,hw,iW,List.append_assoc,go_sem,reduceIte,zA,zB,zC,zD,zE,zF,reduceCtorEq]))⟩
     ·exact aF
     ·omega
   ·have dg : ¬ i < r.reqs.length := by simpa using Lv
    have wz : i = r.reqs.length := by omega
    subst wz
    rw [List.take_length]
    simp only [List.length_map,bo,List.flatMap_nil,List.append_nil,go_sem,reduceIte,zA,zB,zC,zD,zE,zF,reduceCtorEq]
    exact hK _ ax
end Go.Proofs.YtnfeacnbgbggfaaGreatDoor
end
