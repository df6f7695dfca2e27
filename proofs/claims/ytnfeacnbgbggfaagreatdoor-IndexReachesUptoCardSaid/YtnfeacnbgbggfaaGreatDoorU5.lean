/-
  CONTRACTS: slices.SortFunc at clipped spans.
  CONTRACTS: Canonical.
  CONTRACTS: the checks of requirements.
  CONTRACTS: requirements, releases, indices.
  READINGS of chapter 32's data.
  CONTRACTS: the bytes of numbers and strings.
  CONTRACTS: the closures of Manifest.
  CONTRACTS: the reader.
  CONTRACTS: numbers and strings read.
  CONTRACTS: the methods of a reader.
  CONTRACTS: Manifest.
-/
import Derived.Test.YtnfeacnbgbggfaaGreatDoorU4
set_option linter.all false
section
namespace Go.Proofs.YtnfeacnbgbggfaaGreatDoor
open Go.Eng
open Go.Sort (SWO grow flatK HoldsK PermIn SortedIn)
variable [aE]
theorem uR (d : Array Qr) (i j : Nat) (hi : i < d.size) (hj : j < 2) : (flatK nx 2 d)[i * 2 + j]! = (nx d[i]!)[j]! := by
 rw [Go.Sort.get_flatK _ _ _ _ (by omega)]
 rw [show (i * 2 + j) / 2 = i by omega, show (i * 2 + j) % 2 = j by omega]
theorem Xq : ∀ l : List bF, (∀ x ∈ l, 0 ≤ x.lo ∧ x.lo ≤ 1000000) → ∃ d : List Qr, d.map Subtype.val = l
 | [], _ => ⟨[], rfl⟩
 | x :: r, h => by
  obtain ⟨d, hd⟩ := Xq r fun y hy => h y (by simp [hy])
  exact ⟨⟨x, h x (by simp)⟩ :: d, by simp [hd]⟩
theorem A3 (m : List aw) (b v : Nat) (l : List bF) (hb : m[b]? = some (.rows v 2 (l.map ak))) (h0 : 0 < l.length) (hl : l.length ≤ 1048576) (hC : ∀ x ∈ l, 0 ≤ x.lo ∧ x.lo ≤ 1000000) :
  gA Tryz.prog 118 [.ms b v 0 l.length, .sc (.func (.func 119) #[] #[])] m fun r m' => r = .sc (.tuple #[]) ∧ ∃ l' : List bF, l'.Perm l ∧ fP l' ∧ m' = m.set b (.rows v 2 (l'.map ak)) := by
 refine ⟨Tryz.call118, fun E w xs hs hx => ?_⟩
 obtain ⟨x, ys, mZ, hr, uK⟩ := hx.of_cons
 obtain ⟨f, zs, VZ, w5, hz⟩ := uK.of_cons
 have I7 := hz.of_nil
 subst I7
 have hf := bZ w5
 subst hf
 obtain rfl : xs = #[x, .func (.func 119) #[] #[]] := by rw [← Array.toArray_toList (xs := xs), mZ, VZ]
 rcases hs.mem b _ hb with ⟨I3, -⟩ | ⟨gb, T, cs, c, hblk, hh, tD, Qa, ff, hF⟩
 ·rw [List.map_eq_nil_iff] at I3; subst I3; simp at h0
 rw [List.length_map] at Qa
 obtain ⟨cap, rfl⟩ : ∃ cap, x = .slice (some ⟨gb, 0, none⟩) l.length cap := by
  clear uK hx mZ ff hl
  generalize l.length = nl at hr h0 Qa ⊢
  cases hr with
  | ms _ _ _ _ _ g' e' c' a cap eN MN V6 LD =>
   rw [hblk] at eN; cases eN
   obtain ⟨rfl, -⟩ := V6 rfl
   exact ⟨cap, rfl⟩
  | dc => exact absurd h0 (Nat.lt_irrefl _)
 obtain ⟨dl, E4⟩ := Xq l hC
 have kZ : ∀ (i : Nat) (u : bF), l[i]? = some u → cs[i * 2]? = some (.int .i64 u.lo) ∧ cs[i * 2 + 1]? = some (.int .i64 u.hi) := fun i u hu => by
  obtain ⟨-, h2⟩ := ff i (ak u) (by rw [List.getElem?_map, hu]; rfl)
  constructor
  ·obtain ⟨y, hy, -, Dl⟩ := h2 0 (num u.lo) rfl
   rw [bZ Dl] at hy; exact hy
  ·obtain ⟨y, hy, -, Dl⟩ := h2 1 (num u.hi) rfl
   rw [bZ Dl] at hy; exact hy
 have Xr : gb < w.heap.size := (Array.getElem?_eq_some_iff.1 hh).1
 have yP : dl.length = l.length := by rw [← E4, List.length_map]
 have eR : ∀ i, i < l.length → l[i]? = some (dl.toArray[i]!).1 := fun i hi => by
  have TA : i < dl.length := by omega
  have e : l[i]? = some (dl[i]).1 := by
   have := congrArg (fun q : List bF => q[i]?) E4
   simp only [List.getElem?_map,List.getElem?_eq_getElem TA,Option.map_some] at this
   exact this.symm
  rw [e, getElem!_pos dl.toArray i (by simpa using TA)]
  simp
 have hH : HoldsK nx 2 w gb 0 dl.toArray := fun t ht => by
  have Z7 : t < l.length * 2 := by simpa [yP] using ht
  obtain ⟨i, j, hi, hj, rfl⟩ : ∃ i j, i < l.length ∧ j < 2 ∧ t = i * 2 + j := ⟨t / 2, t % 2, by omega, by omega, by omega⟩
  have hc := kZ i _ (eR i hi)
  refine ⟨?_, by simp [World.frozen?, hh]⟩
  rw [iL hh, Nat.zero_add, uR _ _ _ (by simpa [yP] using hi) hj]
  obtain rfl | rfl : j = 0 ∨ j = 1 := by omega
  ·exact hc.1
  ·exact hc.2
 have call := Kg gb 0 cap dl.toArray w hH Xr (by simp; omega)
 have e1 : dl.toArray.size = l.length := by rw [List.size_toArray, yP]
 rw [e1] at call
 refine call.mono ?_
 rintro e w' ⟨rfl, d', n, os, hp, V7, rfl⟩
 have ui : d'.size = l.length := by rw [hp.1]; simp [yP]
 have n4 : (sortWorldK nx 2 w gb 0 n d' os).heap[gb]? = some (.cells (Go.Sort.putCells id 0 (flatK nx 2 d') cs) T (0, 0)) := by
  show (_ ++ os)[gb]? = _
  rw [Array.getElem?_append_left (by simpa [Go.Sort.putRowK] using Xr)]
  show ((w.heap.modify gb _))[gb]? = _
  rw [Array.getElem?_modify, if_pos rfl, hh]; rfl
 obtain ⟨h1, h2⟩ := hs.VO (w' := sortWorldK nx 2 w gb 0 n d' os) (rs' := (d'.toList.map Subtype.val).map ak) hb hblk hF rfl rfl rfl (by
   show _ ≤ (_ ++ os).size
   rw [Array.size_append]
   show _ ≤ (w.heap.modify gb _).size + _
   rw [Array.size_modify]; omega) n4 (fun k hk bL => by
   show (_ ++ os)[k]? = _
   rw [Array.getElem?_append_left (by simpa [Go.Sort.putRowK] using hk)]
   show ((w.heap.modify gb _))[k]? = _
   rw [Array.getElem?_modify, if_neg (fun e => bL e.symm)]) (by simp [Go.Sort.putCells, tD]) (by simp [ui]; exact Qa) (fun i row hi => by
   rw [List.map_map, List.getElem?_map, Option.map_eq_some_iff] at hi
   obtain ⟨u, hu, rfl⟩ := hi
   have hid : i < d'.size := by simpa using (List.getElem?_eq_some_iff.1 hu).1
   have YZ : d'[i]! = u := by
    rw [getElem!_pos d' i hid]
    have := (List.getElem?_eq_some_iff.1 hu).2
    simpa using this
   have key : ∀ j, j < 2 → (Go.Sort.putCells id 0 (flatK nx 2 d') cs)[i * 2 + j]? = some ((nx u)[j]!) := fun j hj => by
    have az : i * 2 + j < cs.size := by rw [tD]; omega
    unfold Go.Sort.putCells
    rw [Array.getElem?_mapIdx, Array.getElem?_eq_getElem az, Option.map_some, if_pos ⟨Nat.zero_le _, by simp; omega⟩]
    simp only [id,Nat.sub_zero]
    rw [uR _ _ _ hid hj, YZ]
   refine ⟨rfl, fun j cc hj => ?_⟩
   match j, hj with
   | 0, hj => cases hj; exact ⟨.int .i64 u.1.lo, by simpa [nx] using key 0 (by omega), rfl, .sc _ _⟩
   | 1, hj => cases hj; exact ⟨.int .i64 u.1.hi, by simpa [nx] using key 1 (by omega), rfl, .sc _ _⟩
   | j + 2, hj => simp [ak, V.cells] at hj)
 refine ⟨E, _, _, _, rfl, ⟨rfl, d'.toList.map Subtype.val, ?_, ?_, rfl⟩, h2, h1, .sc _ _⟩
 ·have := hp.2.2
  rw [← E4]
  refine List.Perm.map _ ?_
  simpa [ui, yP, Array.extract_eq_self_of_le] using this
 ·refine List.pairwise_iff_getElem.2 fun i j hi hj rP => ?_
  have Xs : j < d'.size := by simpa using hj
  have := V7 i j (Nat.zero_le _) rP (by simpa [ui] using Xs)
  rw [getElem!_pos d' j Xs, getElem!_pos d' i (by omega)] at this
  have := of_decide_eq_false this
  unfold G4 at this
  simp only [List.getElem_map,Array.getElem_toList]
  omega
def Sw : FuncId → List V → Option V := fun _ _ => none
theorem yQ : sx Tryz.prog Sw := fun f vs r h => by cases h
theorem G6 : jf Tryz.prog (fun _ _ => none) := fun f vs r h => by cases h
theorem A4 : aQ Tryz.prog 118 [.slice [], .sc (.func (.func 119) #[] #[])] (.bP []) := Cj yQ G6 3000 (by kernel_rfl)
theorem A5 (m : List aw) (b v : Nat) (l : List bF) (hb : m[b]? = some (.rows v 2 (l.map ak))) (hl : l.length ≤ 1048576) (hC : ∀ x ∈ l, 0 ≤ x.lo ∧ x.lo ≤ 1000000) :
  gA Tryz.prog 118 [.ms b v 0 l.length, .sc (.func (.func 119) #[] #[])] m fun r m' => r = .sc (.tuple #[]) ∧ ∃ l' : List bF, l'.Perm l ∧ fP l' ∧ m' = m.set b (.rows v 2 (l'.map ak)) := by
 rcases Nat.eq_zero_or_pos l.length with h0 | h0
 ·obtain rfl : l = [] := List.length_eq_zero_iff.1 h0
  refine (aQ.D1 (m := m) (b := b) (v := v) A4 fun E xs h => ?_).rel.mono fun r m' ⟨h1, h2⟩ => ⟨h1, [], List.Perm.refl _, List.Pairwise.nil, by
   rw [h2]
   apply List.ext_getElem?
   intro i
   rw [List.getElem?_set]
   split
   ·rename_i hi; subst hi
    rw [if_pos (List.getElem?_eq_some_iff.1 hb).1, hb]
   ·rfl⟩
  obtain ⟨y, ys, rfl, hr, hy⟩ := h.of_cons
  rw [hy.of_nil]
  have := bZ hr
  subst this
  exact aP.cons (.sc _ _) (.nil _)
 ·exact A3 m b v l hb h0 hl hC
end Go.Proofs.YtnfeacnbgbggfaaGreatDoor
end

section
namespace Go.Proofs.YtnfeacnbgbggfaaGreatDoor
open Go.Eng
open Nat renaming reduceAdd → zA, reduceLT → zB, reduceLeDiff → zC, reduceMul → zD, reduceEqDiff → zE, reduceSub → zF
variable [aE]
set_option maxHeartbeats 4000000
set_option maxRecDepth 100000
theorem mg {s : List bF} {i : Nat} {x : bF} (h : s[i]? = some x) : clip (s.take (i + 1)) = clip (s.take i) ++ (mc x).toList := by
 rw [List.take_add_one, h]
 unfold clip
 rw [List.filterMap_append]
 cases hx : mc x <;> simp [hx]
theorem iW (s : List bF) : (clip s).length ≤ s.length := List.length_filterMap_le _ _
theorem CC {x : bF} (h : max x.lo 0 < min x.hi 1000000) : mc x = some ⟨max x.lo 0, min x.hi 1000000⟩ := if_pos h
theorem CD {x : bF} (h : ¬ max x.lo 0 < min x.hi 1000000) : mc x = none := if_neg h
structure Mg (l R : List bF) (i n : Nat) : Prop where
 hi : i ≤ l.length
 hn : n ≤ i
 hl : R.length = l.length
 ht : R.take n = merge (l.take i)
 hd : R.drop i = l.drop i
 h0 : 0 < i → 0 < n
theorem iC {l : List bF} {i : Nat} {x : bF} (h : l[i]? = some x) : merge (l.take (i + 1)) = dj (merge (l.take i)) x := by
 rw [List.take_add_one, h]
 unfold merge
 rw [List.foldl_append]; rfl
theorem Mg.start (l : List bF) : Mg l l 0 0 := ⟨Nat.zero_le _, Nat.le_refl _, rfl, rfl, rfl, fun h => absurd h (Nat.lt_irrefl _)⟩
theorem Mg.at {l R : List bF} {i n : Nat} (h : Mg l R i n) (az : i < l.length) : ∃ x, l[i]? = some x ∧ R[i]? = some x := by
 refine ⟨l[i], List.getElem?_eq_getElem az, ?_⟩
 have h1 : (R.drop i)[0]? = (l.drop i)[0]? := by rw [h.hd]
 rw [List.getElem?_drop, List.getElem?_drop, Nat.add_zero] at h1
 rw [h1, List.getElem?_eq_getElem az]
theorem Mg.last {l R : List bF} {i n : Nat} (h : Mg l R i n) (ir : 0 < i) (az : i < l.length) : ∃ y, R[n - 1]? = some y ∧ (merge (l.take i)).getLast? = some y := by
 have hn := h.h0 ir
 have CE : n - 1 < R.length := by rw [h.hl]; have := h.hn; omega
 refine ⟨R[n - 1], List.getElem?_eq_getElem CE, ?_⟩
 rw [← h.ht, List.getLast?_eq_getElem?, List.length_take, Nat.min_eq_left (by have := h.hn; rw [h.hl]; omega), List.getElem?_take_of_lt (by omega), List.getElem?_eq_getElem CE]
theorem Mg.push {l R : List bF} {i n : Nat} {x : bF} (h : Mg l R i n) (hx : l[i]? = some x) (hm : dj (merge (l.take i)) x = merge (l.take i) ++ [x]) : Mg l (R.set n x) (i + 1) (n + 1) := by
 have az := (List.getElem?_eq_some_iff.1 hx).1
 have hn := h.hn
 refine ⟨az, by omega, by rw [List.length_set]; exact h.hl, ?_, ?_, fun _ => Nat.succ_pos _⟩
 ·rw [iC hx, hm, ← h.ht]
  apply List.ext_getElem?
  intro j
  have Xt : n < R.length := by rw [h.hl]; omega
  rcases Nat.lt_trichotomy j n with hj | hj | hj
  ·rw [List.getElem?_take_of_lt (by omega), List.getElem?_set_ne (by omega), List.getElem?_append_left (by rw [List.length_take]; omega), List.getElem?_take_of_lt hj]
  ·subst hj
   rw [List.getElem?_take_of_lt (by omega), List.getElem?_append_right (by rw [List.length_take]; omega), List.length_take, Nat.min_eq_left (by omega), Nat.sub_self]
   simp [Xt]
  ·rw [List.getElem?_eq_none (by rw [List.length_take]; omega), List.getElem?_eq_none (by rw [List.length_append, List.length_take]; simp; omega)]
 ·apply List.ext_getElem?
  intro j
  rw [List.getElem?_drop, List.getElem?_drop, List.getElem?_set_ne (by omega)]
  have h1 : (R.drop i)[1 + j]? = (l.drop i)[1 + j]? := by rw [h.hd]
  rw [List.getElem?_drop, List.getElem?_drop] at h1
  rw [show i + 1 + j = i + (1 + j) by omega]; exact h1
theorem Mg.join {l R : List bF} {i n : Nat} {x y : bF} (h : Mg l R i n) (hx : l[i]? = some x) (ir : 0 < i) (hy : R[n - 1]? = some y) (hle : x.lo ≤ y.hi) : Mg l (R.set (n - 1) ⟨y.lo, max y.hi x.hi⟩) (i + 1) n := by
 have az := (List.getElem?_eq_some_iff.1 hx).1
 have hn := h.hn
 have Xu := h.h0 ir
 obtain ⟨y', Xv, qC⟩ := h.last ir az
 rw [hy] at Xv; cases Xv
 have Xt : n ≤ R.length := by rw [h.hl]; omega
 refine ⟨az, by omega, by rw [List.length_set]; exact h.hl, ?_, ?_, fun _ => Xu⟩
 ·rw [iC hx]
  unfold dj
  rw [qC]
  dsimp only
  rw [if_pos hle, ← h.ht]
  apply List.ext_getElem?
  intro j
  have E4 : ((R.take n).dropLast).length = n - 1 := by rw [List.length_dropLast, List.length_take]; omega
  rcases Nat.lt_trichotomy j (n - 1) with hj | hj | hj
  ·rw [List.getElem?_take_of_lt (by omega), List.getElem?_set_ne (by omega), List.getElem?_append_left (by omega), List.getElem?_dropLast, if_pos (by rw [List.length_take]; omega), List.getElem?_take_of_lt (by omega)]
  ·subst hj
   rw [List.getElem?_take_of_lt (by omega), List.getElem?_append_right (by omega), E4, Nat.sub_self, List.getElem?_set]
   simp; omega
  ·rw [List.getElem?_eq_none (by rw [List.length_take, List.length_set]; omega), List.getElem?_eq_none (by rw [List.length_append, E4]; simp; omega)]
 ·apply List.ext_getElem?
  intro j
  rw [List.getElem?_drop, List.getElem?_drop, List.getElem?_set_ne (by omega)]
  have h1 : (R.drop i)[1 + j]? = (l.drop i)[1 + j]? := by rw [h.hd]
  rw [List.getElem?_drop, List.getElem?_drop] at h1
  rw [show i + 1 + j = i + (1 + j) by omega]; exact h1
theorem mh {o : List bF} {x : bF} (h : ∀ y, o.getLast? = some y → ¬ x.lo ≤ y.hi) : dj o x = o ++ [x] := by
 unfold dj
 cases hl : o.getLast? with
 | none => rw [List.getLast?_eq_none_iff.1 hl]; rfl
 | some y => dsimp only; rw [if_neg (h y hl)]
theorem oQ (s : List bF) (hl : s.length ≤ 1048576) : aQ Tryz.prog 86 [al s] (al (canon s)) := by
 refine Sd tt_ok [19] 79 [.tmp 2] (fn := Tryz.f86) Tryz.func86 rfl Tryz.call86 ⟨rfl, rfl, by simp⟩ fun K hK => ?_
 simp only [al]
 simp only [List.length_map,go_sem,reduceIte,zA,zB,zC,zD,zE,zF,reduceCtorEq]
 refine D0 3 0 2 (by decide) rfl ?_
 refine cY tt_ok [19] (fun a : Nat × List bF => [(3, .ms 0 a.2.length 0 a.2.length), (9, .slice (s.map ak)), (10, num s.length), (11, num a.1)]) (fun a : Nat × List bF => [.rows a.2.length 2 (a.2.map ak)]) (fun a => s.length - a.1) (fun a => a.1 ≤ s.length ∧ a.2 = clip (s.take a.1)) ((0, [])) 1 (bj (by omega) (by simp only [List.length_map,List.map_nil,List.length_nil,Int.cast_ofNat_Int,go_sem,reduceIte,zA,zB,zC,zD,zE,zF,reduceCtorEq] <;> rfl)) (⟨Nat.zero_le _, rfl⟩) ?_
 rintro ⟨i, l⟩ ⟨hi, jo⟩
 try dsimp only at hi jo
 try dsimp only
 intro Z1 cd
 simp only [List.length_map,go_sem,reduceIte,zA,zB,zC,zD,zE,zF,reduceCtorEq]
 refine aN (fun OB => ?_) (fun OB => ?_)
 ·have az : i < s.length := by simpa using OB
  have hw := ay i (by omega)
  obtain ⟨x, hx⟩ : ∃ x, s[i]? = some x := ⟨_, List.getElem?_eq_getElem az⟩
  have rp : (if x.lo < 0 then 0 else x.lo) = max x.lo 0 := by split <;> omega
  have qO : (if (1000000 : Int) < x.hi then 1000000 else x.hi) = min x.hi 1000000 := by split <;> omega
  have Qa : l.length ≤ 1048576 := by rw [jo]; have := iW (s.take i); rw [List.length_take] at this; omega
  have eO : l.length + 1 ≤ 34359738368 := by omega
  simp only [hw,List.getElem?_map,hx,ak,rp,qO,eO,List.length_append,List.length_cons,List.length_nil,Nat.zero_add,List.length_map,go_sem,reduceIte,zA,zB,zC,zD,zE,zF,reduceCtorEq]
  refine aN (fun gh => ?_) (fun gh => ?_)
  ·let nv : Nat × List bF := (i + 1, l ++ [⟨max x.lo 0, min x.hi 1000000⟩])
   have OC : l ++ [⟨max x.lo 0, min x.hi 1000000⟩] = clip (s.take (i + 1)) := by rw [mg hx, CC (by simpa using gh), jo]; rfl
   simp only [hw,List.getElem?_map,hx,ak,rp,qO,eO,List.length_append,List.length_cons,List.length_nil,Nat.zero_add,List.length_map,go_sem,reduceIte,zA,zB,zC,zD,zE,zF,reduceCtorEq]
   refine cd _ ⟨nv, ?_, ?_, bj (by omega) (by (simp [nv, my, lk, bz, bR, ai, aB, List.map_append, ak]))⟩
   ·exact ⟨az, by dsimp only [nv]; exact OC⟩
   ·dsimp only [nv]; omega
  ·let nv : Nat × List bF := (i + 1, l)
   have OC : l = clip (s.take (i + 1)) := by rw [mg hx, CD (by simpa using gh), jo]; simp
   simp only [hw,List.getElem?_map,hx,ak,rp,qO,eO,List.length_append,List.length_cons,List.length_nil,Nat.zero_add,List.length_map,go_sem,reduceIte,zA,zB,zC,zD,zE,zF,reduceCtorEq]
   refine cd _ ⟨nv, ?_, ?_, bj (by omega) (by (simp [nv, my, lk, bz, bR, ai, aB, List.map_append, ak]))⟩
   ·exact ⟨az, by dsimp only [nv]; exact OC⟩
   ·dsimp only [nv]; omega
 ·have cH : ¬ i < s.length := by simpa using OB
  have OD : l = clip s := by rw [jo, show i = s.length by omega, List.take_length]
  have zw : l.length ≤ 1048576 := by rw [OD]; have := iW s; omega
  have hC : ∀ x ∈ l, 0 ≤ x.lo ∧ x.lo ≤ 1000000 := fun x hx => by have := wj x (OD ▸ hx); omega
  simp only [List.length_map,go_sem,reduceIte,zA,zB,zC,zD,zE,zF,reduceCtorEq]
  refine cR (A5 _ 0 _ _ rfl zw hC) ?_
  rintro _ _ ⟨rfl, l2, hp, ha, rfl⟩
  simp only [List.length_map,go_sem,reduceIte,zA,zB,zC,zD,zE,zF,reduceCtorEq]
  obtain ⟨L, hL⟩ : ∃ L, L = l2 := ⟨_, rfl⟩
  rw [← hL] at hp ha
  have Ed : L.length = l.length := hp.length_eq
  rw [← Ed, ← hL]
  refine cY tt_ok [19] (fun a : Nat × Nat × List bF => [(3, .ms 0 L.length 0 L.length), (6, num a.2.1), (34, .ms 0 L.length 0 L.length), (35, num L.length), (36, num a.1)]) (fun a : Nat × Nat × List bF => [.rows L.length 2 (a.2.2.map ak)]) (fun a => L.length - a.1) (fun a => Mg L a.2.2 a.1 a.2.1) ((0, 0, L)) 1 (bj (by omega) (by simp only [List.length_map,Int.cast_ofNat_Int,go_sem,reduceIte,zA,zB,zC,zD,zE,zF,reduceCtorEq] <;> rfl)) (Mg.start L) ?_
  rintro ⟨i, n, R⟩ hM
  try dsimp only at hM
  try dsimp only
  have Z8 := hM.hi
  have Z9 := hM.hn
  have Ml := hM.hl
  intro Z2 nw
  simp only [List.length_map,go_sem,reduceIte,zA,zB,zC,zD,zE,zF,reduceCtorEq]
  refine aN (fun qU => ?_) (fun qU => ?_)
  ·have az : i < L.length := by simpa using qU
   rw [qU]
   have cP : (i : Int) < (L.length : Int) := by omega
   have hw := ay i (by omega)
   have DA := ay n (by omega)
   obtain ⟨x, hx, OE⟩ := hM.at az
   have sU : (n : Int) < (L.length : Int) := by omega
   simp only [hw,DA,List.getElem?_map,OE,ak,Ml,cP,Int.natCast_nonneg,sU,List.length_map,go_sem,reduceIte,zA,zB,zC,zD,zE,zF,reduceCtorEq]
   refine bu tt_ok aG [⟨.n, 0, [], [], []⟩, ⟨.n, 0, [], [], []⟩, ⟨.n, 0, [], [], []⟩, ⟨.n, 0, [], [], []⟩, ⟨.r, 0, [], [], []⟩, ⟨.n, 0, [], [], []⟩, ⟨.n, 0, [], [], []⟩, ⟨.n, 0, [], [], []⟩, ⟨.r, 0, [], [], []⟩, ⟨.n, 0, [], [], []⟩, ⟨.r, 0, [], [], []⟩, ⟨.n, 0, [], [], []⟩, ⟨.n, 0, [], [], []⟩] 0 (by kernel_rfl) ?_
   simp only [hw,DA,List.getElem?_map,OE,ak,Ml,cP,Int.natCast_nonneg,sU,List.length_map,go_sem,reduceIte,zA,zB,zC,zD,zE,zF,reduceCtorEq]
   refine aN (fun A6 => ?_) (fun A6 => ?_)
   ·have ir : 0 < i := by have := of_decide_eq_true A6; omega
    have Xu := hM.h0 ir
    obtain ⟨y, hy, qC⟩ := hM.last ir az
    have Kh : IntKind.i64.wrap ((n : Int) - 1) = ((n - 1 : Nat) : Int) := jA _ _ (by omega) (by omega)
    have CE : ((n - 1 : Nat) : Int) < (L.length : Int) := by omega
    simp only [hw,DA,List.getElem?_map,OE,ak,Ml,cP,Int.natCast_nonneg,sU,Kh,hy,CE,List.length_map,go_sem,reduceIte,zA,zB,zC,zD,zE,zF,reduceCtorEq]
    refine aN (fun OF => ?_) (fun OF => ?_)
    ·have hle : x.lo ≤ y.hi := by simpa using OF
     have rp : (if y.hi < x.hi then x.hi else y.hi) = max y.hi x.hi := by split <;> omega
     let nv : Nat × Nat × List bF := (i + 1, n, R.set (n - 1) ⟨y.lo, max y.hi x.hi⟩)
     have Sx := hM.join hx ir hy hle
     simp only [hw,DA,List.getElem?_map,OE,ak,Ml,cP,Int.natCast_nonneg,sU,Kh,hy,CE,rp,List.length_map,go_sem,reduceIte,zA,zB,zC,zD,zE,zF,reduceCtorEq]
     refine bu tt_ok aG [⟨.n, 0, [], [], []⟩, ⟨.n, 0, [], [], []⟩, ⟨.n, 0, [], [1], []⟩, ⟨.n, 0, [], [], []⟩, ⟨.n, 0, [], [], []⟩, ⟨.n, 0, [], [4], []⟩, ⟨.r, 0, [], [3,4,5], []⟩, ⟨.n, 0, [], [3,4,5,6], []⟩, ⟨.r, 0, [], [3,4,5,6,7], []⟩, ⟨.n, 0, [], [], []⟩, ⟨.r, 0, [], [9], []⟩, ⟨.n, 0, [], [3,4,5,6,7,8,9,10], []⟩, ⟨.r, 0, [], [0,1,2,3,4,5,6,7,8,9,10,11], []⟩, ⟨.n, 0, [], [0,1,2,3,4,5,6,7,8,9,10,11,12], []⟩, ⟨.w, 0, [], [0,1,2,3,4,5,6,7,8,9,10,11,12,13], []⟩] 1 (by kernel_rfl) ?_
     simp only [hw,DA,List.getElem?_map,OE,ak,Ml,cP,Int.natCast_nonneg,sU,Kh,hy,CE,rp,List.length_map,go_sem,reduceIte,zA,zB,zC,zD,zE,zF,reduceCtorEq]
     refine nw _ ⟨nv, ?_, ?_, bj (by omega) (by (simp [nv, my, lk, bz, bR, ai, aB, List.map_set, ak, setRow, b8, V.cells]))⟩
     ·dsimp only [nv]; exact Sx
     ·dsimp only [nv]; omega
    ·have zr : dj (merge (L.take i)) x = merge (L.take i) ++ [x] := mh fun z hz => by
      rw [qC] at hz; cases hz; simpa using OF
     let nv : Nat × Nat × List bF := (i + 1, n + 1, R.set n x)
     have Sx := hM.push hx zr
     obtain ⟨z, hz⟩ : ∃ z, R[n]? = some z := ⟨_, List.getElem?_eq_getElem (by omega)⟩
     simp only [hw,DA,List.getElem?_map,OE,ak,Ml,cP,Int.natCast_nonneg,sU,Kh,hy,CE,hz,List.length_map,go_sem,reduceIte,zA,zB,zC,zD,zE,zF,reduceCtorEq]
     refine nw _ ⟨nv, ?_, ?_, bj (by omega) (by (simp [nv, my, lk, bz, bR, ai, aB, List.map_set, ak, setRow, b8, V.cells]))⟩
     ·dsimp only [nv]; exact Sx
     ·dsimp only [nv]; omega
   ·have FA : i = 0 := by have := of_decide_eq_false A6; omega
    have zr : dj (merge (L.take i)) x = merge (L.take i) ++ [x] := mh fun y hy => by simp [FA, merge] at hy
    let nv : Nat × Nat × List bF := (i + 1, n + 1, R.set n x)
    have Sx := hM.push hx zr
    obtain ⟨z, hz⟩ : ∃ z, R[n]? = some z := ⟨_, List.getElem?_eq_getElem (by omega)⟩
    simp only [hw,DA,List.getElem?_map,OE,ak,Ml,cP,Int.natCast_nonneg,sU,hz,List.length_map,go_sem,reduceIte,zA,zB,zC,zD,zE,zF,reduceCtorEq]
    refine nw _ ⟨nv, ?_, ?_, bj (by omega) (by (simp [nv, my, lk, bz, bR, ai, aB, List.map_set, ak, setRow, b8, V.cells]))⟩
    ·dsimp only [nv]; exact Sx
    ·dsimp only [nv]; omega
  ·have cH : ¬ i < L.length := by simpa using qU
   have Y0 : i = L.length := by omega
   simp only [List.length_map,go_sem,reduceIte,zA,zB,zC,zD,zE,zF,reduceCtorEq]
   refine sE (v' := .slice (R.map ak)) 3 (by decide) rfl (by rw [← Ml]; simp [lk, fi, bU, List.take_of_length_le]) ?_
   have Y1 : (n : Int) ≤ (R.length : Int) := by omega
   refine TY tt_ok [19] ?_
   simp only [Y1,Int.le_refl,Int.natCast_nonneg,List.length_map,go_sem,reduceIte,zA,zB,zC,zD,zE,zF,reduceCtorEq]
   refine hK _ ?_
   have kr : (R.take n).map ak = (canon s).map ak := by rw [hM.ht, Y0, List.take_length, yw (hp.trans (List.Perm.of_eq OD)) ha]
   simp [tQ, se, xI, LQ, fi, bU, al, ← List.map_take, kr]
end Go.Proofs.YtnfeacnbgbggfaaGreatDoor
end

section
namespace Go.Proofs.YtnfeacnbgbggfaaGreatDoor
open Go.Eng
open Nat renaming reduceAdd → zA, reduceLT → zB, reduceLeDiff → zC, reduceMul → zD, reduceEqDiff → zE, reduceSub → zF
variable [aE]
set_option maxHeartbeats 4000000
set_option maxRecDepth 100000
theorem aR (T : TypeId) (x y : Operand) (a b : ByteArray) : aS Tryz.prog (fI .leq T x y) (str a) (str b) = some (bl (Op.bytesLess a.toList b.toList || a.toList == b.toList)) := by
 simp [aS, bw, fI, binOp, Op.stringOp, eqGuard, aF, dF, bind, pure, Sem.bind]
theorem dO (T : TypeId) (x y : Operand) (a b : ByteArray) : aS Tryz.prog (fI .geq T x y) (str a) (str b) = some (bl (!Op.bytesLess a.toList b.toList)) := by
 simp [aS, bw, fI, binOp, Op.stringOp, eqGuard, aF, dF, bind, pure, Sem.bind]
theorem iD (x y : Operand) : aS Tryz.prog (fI .neq 168 x y) (.sc (.pointer none)) (.sc (.pointer none)) = some (bl false) := by kernel_rfl
theorem er.Mm (v : er) (i : Nat) (h : i < 3) : List.drop i [num v.mj, num v.mn, num v.pt] = num (v.part i) :: List.drop (i + 1) [num v.mj, num v.mn, num v.pt] := by
 obtain ⟨a, b, c⟩ := v
 match i, h with
 | 0, _ => rfl
 | 1, _ => rfl
 | 2, _ => rfl
def IQ (a b : ByteArray) : Bool := jO a b || decide (a = b)
def mi (q : Rq) (b : Option Rq) : Int := if bC q.path ≠ 0 then 4 else if (decide (q.set.length = 0) || !decide (q.set = canon q.set) || (match b with | some p => IQ q.path p.path | none => false)) = true then 1 else 0
def eM (b : Option Rq) : List Rq → Int
 | [] => 0
 | q :: r => if mi q b ≠ 0 then mi q b else eM (some q) r
def fo (l : List Rq) : Int := if 16 < l.length then 7 else eM none l
def jm (s : ByteArray) : Bool := decide (s.size = 0) || decide (s.size = 32)
def gi (r : Rl) : Int := if bC r.path ≠ 0 then 4 else if (!r.aA.ok || !decide (r.aA.mj = bN r.path)) = true then 2 else if fo r.reqs ≠ 0 then fo r.reqs else if (jm r.ar && (jm r.fY && jm r.ce)) = true then 0 else 1
def c5 (b : Option Rl) : List Rl → Int
 | [] => 0
 | r :: t => if gi r ≠ 0 then gi r else match b with
  | none => c5 (some r) t
  | some p => if p.key = r.key then 5 else if 0 < p.cmp r then 1 else c5 (some r) t
theorem eE (b : Option Rl) (r : Rl) (t : List Rl) : c5 b (r :: t) = if gi r ≠ 0 then gi r else match b with
  | none => c5 (some r) t
  | some p => if p.key = r.key then 5 else if 0 < p.cmp r then 1 else c5 (some r) t := by cases b <;> rfl
def ey (l : List Rl) : Int := if 256 < l.length then 7 else c5 none l
def qD (q : Rq) : Prop := q.path.size ≤ 1048576 ∧ q.set.length ≤ 1048576
def IS (r : Rl) : Prop := r.path.size ≤ 1048576 ∧ r.reqs.length ≤ 1048576 ∧ ∀ q ∈ r.reqs, qD q
def w6 (l : List Rl) : Prop := l.length ≤ 1048576 ∧ ∀ r ∈ l, IS r
def bQ {α : Type} (l : List α) (i : Nat) : Option α := if i = 0 then none else l[i - 1]?
theorem sW {l : List Rq} {i : Nat} {q : Rq} (h : l[i]? = some q) (h0 : mi q (bQ l i) = 0) : eM (bQ l i) (l.drop i) = eM (bQ l (i + 1)) (l.drop (i + 1)) := by
 have az := (List.getElem?_eq_some_iff.1 h).1
 rw [List.drop_eq_getElem_cons az, (List.getElem?_eq_some_iff.1 h).2, eM, if_neg (by rw [h0]; simp)]
 unfold bQ
 rw [if_neg (Nat.succ_ne_zero i), Nat.add_sub_cancel, h]
theorem lC {l : List Rq} {i : Nat} {q : Rq} (h : l[i]? = some q) (h0 : mi q (bQ l i) ≠ 0) : eM (bQ l i) (l.drop i) = mi q (bQ l i) := by
 have az := (List.getElem?_eq_some_iff.1 h).1
 rw [List.drop_eq_getElem_cons az, (List.getElem?_eq_some_iff.1 h).2, eM, if_pos h0]
def bV (l : List Rq) (i : Nat) : V := match bQ l i with
 | none => .sc (.pointer none)
 | some p => .cj [str p.path, al p.set]
theorem iE (mem : List aw) (l : List Rq) (i : Nat) : fi mem (bV l i) = some (bV l i) := by unfold bV; split <;> rfl
theorem iF (l : List Rq) (i : Nat) : cp (bV l i) = [] := by unfold bV; split <;> rfl
theorem eH (n : Nat) (l : List Rq) (i : Nat) : ai n (bV l i) = true := by unfold bV; split <;> rfl
theorem Ki {l : List Rq} {i : Nat} {q : Rq} (h : l[i]? = some q) : bV l (i + 1) = .cj [str q.path, al q.set] := by
 unfold bV bQ
 rw [if_neg (Nat.succ_ne_zero i), Nat.add_sub_cancel, h]
def G7 (r : Rl) (i : Nat) : ByteArray := if i = 0 then r.ar else if i = 1 then r.fY else r.ce
theorem OG (r : Rl) (i : Nat) (h : i < 3) : [str r.ar, str r.fY, str r.ce][i]? = some (str (G7 r i)) := by
 match i, h with
 | 0, _ => rfl
 | 1, _ => rfl
 | 2, _ => rfl
theorem OH {r : Rl} (h : ∀ i < 3, jm (G7 r i) = true) : (jm r.ar && (jm r.fY && jm r.ce)) = true := by
 have h0 := h 0 (by omega); have h1 := h 1 (by omega); have h2 := h 2 (by omega)
 simp only [Bool.and_eq_true]
 exact ⟨h0, h1, h2⟩
theorem Sy {r : Rl} {i : Nat} (hi : i < 3) (h : jm (G7 r i) = false) : (jm r.ar && (jm r.fY && jm r.ce)) = false := by
 match i, hi with
 | 0, _ => rw [show jm r.ar = false from h]; rfl
 | 1, _ => rw [show jm r.fY = false from h]; simp
 | 2, _ => rw [show jm r.ce = false from h]; simp
theorem ml {l : List Rl} {i : Nat} {r : Rl} (h : l[i]? = some r) (h0 : gi r = 0) (hb : ∀ p, bQ l i = some p → p.key ≠ r.key ∧ ¬ 0 < p.cmp r) : c5 (bQ l i) (l.drop i) = c5 (bQ l (i + 1)) (l.drop (i + 1)) := by
 have az := (List.getElem?_eq_some_iff.1 h).1
 have hp : bQ l (i + 1) = some r := by
  unfold bQ
  rw [if_neg (Nat.succ_ne_zero i), Nat.add_sub_cancel, h]
 rw [List.drop_eq_getElem_cons az, (List.getElem?_eq_some_iff.1 h).2, eE, if_neg (by rw [h0]; simp), hp]
 cases hq : bQ l i with
 | none => rfl
 | some p => dsimp only; rw [if_neg (hb p hq).1, if_neg (hb p hq).2]
theorem CF {l : List Rl} {i : Nat} {r : Rl} (h : l[i]? = some r) (h0 : gi r ≠ 0) : c5 (bQ l i) (l.drop i) = gi r := by
 have az := (List.getElem?_eq_some_iff.1 h).1
 rw [List.drop_eq_getElem_cons az, (List.getElem?_eq_some_iff.1 h).2, eE, if_pos h0]
theorem sX {l : List Rl} {i : Nat} {r p : Rl} (h : l[i]? = some r) (h0 : gi r = 0) (hp : bQ l i = some p) : c5 (bQ l i) (l.drop i) = if p.key = r.key then 5 else if 0 < p.cmp r then 1 else c5 (some r) (l.drop (i + 1)) := by
 have az := (List.getElem?_eq_some_iff.1 h).1
 rw [List.drop_eq_getElem_cons az, (List.getElem?_eq_some_iff.1 h).2, eE, if_neg (by rw [h0]; simp), hp]
theorem pI {α : Type} {l : List α} {i : Nat} (h : i ≠ 0) : bQ l i = l[i - 1]? := if_neg h
theorem Kj (a b : er) : ∃ r_, (fun w => w = num (a.cmp b)) r_ ∧ aQ Tryz.prog 112 [bM a, bM b] r_ := by
 refine dZ tt_ok [] 27 [.tmp 4] (fn := Tryz.f112) Tryz.func112 rfl Tryz.call112 ⟨rfl, rfl, by simp⟩ fun K hK => ?_
 simp only [bM]
 simp only [Tryz.underlying151,go_sem,reduceIte,zA,zB,zC,zD,zE,zF,reduceCtorEq]
 refine bu tt_ok aG [⟨.r, 0, [0,1], [], []⟩, ⟨.n, 0, [], [], []⟩, ⟨.r, 0, [0,1], [], []⟩, ⟨.n, 0, [], [], []⟩, ⟨.a, 0, [], [], []⟩, ⟨.a, 1, [], [], []⟩, ⟨.s, 0, [], [], []⟩, ⟨.s, 1, [], [], []⟩] 2 (by kernel_rfl) ?_
 simp only [Tryz.underlying151,go_sem,reduceIte,zA,zB,zC,zD,zE,zF,reduceCtorEq]
 refine cG (by have h := sO a; simp only [bM] at h; exact h) ?_
 rintro _ rfl
 simp only [Tryz.underlying151,go_sem,reduceIte,zA,zB,zC,zD,zE,zF,reduceCtorEq]
 refine cG (by have h := sO b; simp only [bM] at h; exact h) ?_
 rintro _ rfl
 simp only [Tryz.underlying151,go_sem,reduceIte,zA,zB,zC,zD,zE,zF,reduceCtorEq]
 refine bx tt_ok [] [13] 4 [5,6] (fun vs => ((3 : Int) - Go.Eng.intOf (vs.headD .undef)).toNat) (fun vs => ∃ i : Nat, vs = [num i] ∧ i ≤ 3 ∧ ∀ j < i, fk (a.part j) (b.part j) = 0) (by omega) (by simp only [Tryz.underlying151,go_sem,reduceIte,zA,zB,zC,zD,zE,zF,reduceCtorEq]) (⟨0, rfl, Nat.zero_le _, fun j hj => absurd hj (Nat.not_lt_zero j)⟩) fun vs hI Z1 cd => ?_
 obtain ⟨i, rfl, hi, aV⟩ := hI
 simp only [Tryz.underlying151,go_sem,reduceIte,zA,zB,zC,zD,zE,zF,reduceCtorEq]
 refine aN (fun cX => ?_) (fun cX => ?_)
 ·have az : i < 3 := by have := of_decide_eq_true cX; omega
  rw [cX]
  have cP : (i : Int) < 3 := by omega
  have hw := ay i (by omega)
  have Qs := a.Mm i az
  have Qt := b.Mm i az
  have sY : ((3 : Nat) : Int) = 3 := rfl
  simp only [hw,cP,Qs,Qt,sY,Int.natCast_nonneg,Int.toNat_natCast,Nat.mul_one,Nat.zero_add,List.head?_cons,Tryz.underlying151,go_sem,reduceIte,zA,zB,zC,zD,zE,zF,reduceCtorEq]
  refine bu tt_ok aG [⟨.n, 0, [], [], []⟩, ⟨.r, 0, [], [], []⟩, ⟨.r, 0, [], [], []⟩, ⟨.n, 0, [], [], []⟩, ⟨.r, 0, [], [], []⟩, ⟨.r, 0, [], [], []⟩, ⟨.n, 0, [], [], []⟩, ⟨.n, 0, [], [], []⟩] 0 (by kernel_rfl) ?_
  simp only [hw,cP,Qs,Qt,sY,Int.natCast_nonneg,Int.toNat_natCast,Nat.mul_one,Nat.zero_add,List.head?_cons,Tryz.underlying151,go_sem,reduceIte,zA,zB,zC,zD,zE,zF,reduceCtorEq]
  refine cG (J4 _ _) ?_
  rintro _ rfl
  simp only [hw,cP,Qs,Qt,sY,Int.natCast_nonneg,Int.toNat_natCast,Nat.mul_one,Nat.zero_add,List.head?_cons,Tryz.underlying151,go_sem,reduceIte,zA,zB,zC,zD,zE,zF,reduceCtorEq]
  refine aN (fun oP => ?_) (fun oP => ?_)
  ·have au : fk (a.part i) (b.part i) = a.cmp b := (er.AU az aV (by simpa using oP)).symm
   simp only [hw,cP,Qs,Qt,sY,Int.natCast_nonneg,Int.toNat_natCast,Nat.mul_one,Nat.zero_add,List.head?_cons,Tryz.underlying151,go_sem,reduceIte,zA,zB,zC,zD,zE,zF,reduceCtorEq]
   exact hK _ (congrArg num au)
  ·simp only [hw,cP,Qs,Qt,sY,Int.natCast_nonneg,Int.toNat_natCast,Nat.mul_one,Nat.zero_add,List.head?_cons,Tryz.underlying151,go_sem,reduceIte,zA,zB,zC,zD,zE,zF,reduceCtorEq]
   refine cd _ (cC (by omega) (by simp only [hw,cP,Qs,Qt,sY,Int.natCast_nonneg,Int.toNat_natCast,Nat.mul_one,Nat.zero_add,List.head?_cons,Tryz.underlying151,go_sem,reduceIte,zA,zB,zC,zD,zE,zF,reduceCtorEq]) ?_ ?_) <;> simp only [fh,lk,reduceIte,zE]
   ·refine ⟨i + 1, rfl, az, fun j hj => ?_⟩
    rcases Nat.lt_or_ge j i with h | h
    ·exact aV j h
    ·obtain rfl : j = i := by omega
     simpa using oP
   ·simp only [Go.Eng.intOf,List.headD_cons]; omega
 ·have cH : i = 3 := by have := of_decide_eq_false cX; omega
  subst cH
  have au : 0 = a.cmp b := (er.cmp_eq aV).symm
  simp only [Tryz.underlying151,go_sem,reduceIte,zA,zB,zC,zD,zE,zF,reduceCtorEq]
  exact hK _ (congrArg num au)
theorem A7 (a b : Rl) : ∃ r_, (fun w => w = num (a.cmp b)) r_ ∧ aQ Tryz.prog 76 [ag a, ag b] r_ := by
 refine dZ tt_ok [] 17 [.tmp 4] (fn := Tryz.f76) Tryz.func76 rfl Tryz.call76 ⟨rfl, rfl, by simp⟩ fun K hK => ?_
 simp only [ag,ab]
 simp only [go_sem,reduceIte,zA,zB,zC,zD,zE,zF,reduceCtorEq]
 refine bu tt_ok aG [⟨.n, 0, [], [], []⟩, ⟨.r, 0, [], [], []⟩, ⟨.n, 0, [], [], []⟩, ⟨.r, 0, [], [], []⟩, ⟨.n, 0, [], [], []⟩, ⟨.n, 0, [], [], []⟩, ⟨.r, 0, [], [], []⟩, ⟨.n, 0, [], [], []⟩, ⟨.r, 0, [], [], []⟩, ⟨.n, 0, [], [], []⟩, ⟨.n, 0, [], [], []⟩, ⟨.n, 0, [], [], []⟩, ⟨.n, 0, [], [], []⟩] 0 (by kernel_rfl) ?_
 simp only [go_sem,reduceIte,zA,zB,zC,zD,zE,zF,reduceCtorEq]
 refine cG (J5 _ _) ?_
 rintro _ rfl
 simp only [go_sem,reduceIte,zA,zB,zC,zD,zE,zF,reduceCtorEq]
 refine cG (by have h := Kj a.aA b.aA; simp only [bM] at h; exact h) ?_
 rintro _ rfl
 simp only [go_sem,reduceIte,zA,zB,zC,zD,zE,zF,reduceCtorEq]
 refine cG (Sn [km a.path b.path, a.aA.cmp b.aA] (show 2 ≤ 1048576 by decide)) ?_
 rintro _ rfl
 simp only [go_sem,reduceIte,zA,zB,zC,zD,zE,zF,reduceCtorEq]
 exact hK _ (congrArg num (by rw [J3]; rfl))
theorem OI (hG : aE.g = some 0) (q : Rq) (hb : qD q) : ∃ r_, (fun w => w = num (mi q none)) r_ ∧ aQ Tryz.prog 134 [aj q, .sc (.pointer none)] r_ := by
 refine dZ tt_ok [] 43 [.tmp 4] (fn := Tryz.f134) Tryz.func134 rfl Tryz.call134 ⟨rfl, rfl, by simp⟩ fun K hK => ?_
 simp only [aj,al]
 obtain ⟨re, rV⟩ := hb
 have G8 := oQ q.set rV
 have qM := yC q.set (canon q.set) rV
 generalize hC : canon q.set = C at G8 qM
 simp only [List.length_map,iD,go_sem,reduceIte,zA,zB,zC,zD,zE,zF,reduceCtorEq]
 refine cF (rn hG q.path re) ?_
 rintro _ ⟨nm, rfl⟩
 simp only [List.length_map,iD,go_sem,reduceIte,zA,zB,zC,zD,zE,zF,reduceCtorEq]
 refine aN (fun kl => ?_) (fun kl => ?_)
 ·simp only [List.length_map,iD,go_sem,reduceIte,zA,zB,zC,zD,zE,zF,reduceCtorEq]
  exact hK _ (congrArg num (by unfold mi; rw [hC]; simp_all))
 ·simp only [List.length_map,iD,go_sem,reduceIte,zA,zB,zC,zD,zE,zF,reduceCtorEq]
  refine bu tt_ok aG [⟨.n, 0, [], [], []⟩, ⟨.r, 0, [], [], []⟩, ⟨.n, 0, [], [], []⟩, ⟨.n, 0, [], [], []⟩, ⟨.n, 0, [], [], []⟩, ⟨.n, 0, [], [], []⟩, ⟨.r, 0, [], [], []⟩, ⟨.n, 0, [], [], []⟩, ⟨.r, 0, [], [], []⟩, ⟨.n, 0, [], [], []⟩, ⟨.n, 0, [], [], []⟩, ⟨.n, 0, [], [], []⟩, ⟨.n, 0, [], [], []⟩, ⟨.n, 0, [], [], []⟩, ⟨.n, 0, [], [], []⟩, ⟨.n, 0, [], [], []⟩, ⟨.n, 0, [], [], []⟩, ⟨.n, 0, [], [], []⟩, ⟨.r, 0, [], [], []⟩, ⟨.n, 0, [], [], []⟩, ⟨.n, 0, [], [], []⟩, ⟨.n, 0, [], [], []⟩, ⟨.r, 0, [], [], []⟩, ⟨.n, 0, [], [], []⟩, ⟨.n, 0, [], [], []⟩, ⟨.n, 0, [], [], []⟩] 0 (by kernel_rfl) ?_
  simp only [List.length_map,iD,go_sem,reduceIte,zA,zB,zC,zD,zE,zF,reduceCtorEq]
  refine aN (fun sZ => ?_) (fun sZ => ?_)
  ·simp only [List.length_map,iD,go_sem,reduceIte,zA,zB,zC,zD,zE,zF,reduceCtorEq]
   exact hK _ (congrArg num (by unfold mi; rw [hC]; simp_all))
  ·simp only [List.length_map,iD,go_sem,reduceIte,zA,zB,zC,zD,zE,zF,reduceCtorEq]
   refine cG (⟨_, rfl, G8⟩) ?_
   rintro _ rfl
   simp only [List.length_map,iD,go_sem,reduceIte,zA,zB,zC,zD,zE,zF,reduceCtorEq]
   refine cG (qM) ?_
   rintro _ rfl
   simp only [List.length_map,iD,go_sem,reduceIte,zA,zB,zC,zD,zE,zF,reduceCtorEq]
   refine aN (fun A8 => ?_) (fun A8 => ?_)
   ·simp only [List.length_map,iD,go_sem,reduceIte,zA,zB,zC,zD,zE,zF,reduceCtorEq]
    exact hK _ (congrArg num (by unfold mi; rw [hC]; simp_all))
   ·simp only [List.length_map,iD,go_sem,reduceIte,zA,zB,zC,zD,zE,zF,reduceCtorEq]
    exact hK _ (congrArg num (by unfold mi; rw [hC]; simp_all))
theorem OJ (hG : aE.g = some 0) (q p : Rq) (hb : qD q) : ∃ r_, (fun w => w = num (mi q (some p))) r_ ∧ aQ Tryz.prog 134 [aj q, .cj [str p.path, al p.set]] r_ := by
 refine dZ tt_ok [] 43 [.tmp 4] (fn := Tryz.f134) Tryz.func134 rfl Tryz.call134 ⟨rfl, rfl, by simp⟩ fun K hK => ?_
 simp only [aj,al]
 obtain ⟨re, rV⟩ := hb
 have G8 := oQ q.set rV
 have qM := yC q.set (canon q.set) rV
 generalize hC : canon q.set = C at G8 qM
 simp only [List.length_map,Tryz.underlying168,aR,go_sem,reduceIte,zA,zB,zC,zD,zE,zF,reduceCtorEq]
 refine cF (rn hG q.path re) ?_
 rintro _ ⟨nm, rfl⟩
 simp only [List.length_map,Tryz.underlying168,aR,go_sem,reduceIte,zA,zB,zC,zD,zE,zF,reduceCtorEq]
 refine aN (fun kl => ?_) (fun kl => ?_)
 ·simp only [List.length_map,Tryz.underlying168,aR,go_sem,reduceIte,zA,zB,zC,zD,zE,zF,reduceCtorEq]
  exact hK _ (congrArg num (by unfold mi IQ jO; rw [hC]; simp_all [aJ]))
 ·simp only [List.length_map,Tryz.underlying168,aR,go_sem,reduceIte,zA,zB,zC,zD,zE,zF,reduceCtorEq]
  refine bu tt_ok aG [⟨.n, 0, [], [], []⟩, ⟨.r, 0, [], [], []⟩, ⟨.n, 0, [], [], []⟩, ⟨.n, 0, [], [], []⟩, ⟨.n, 0, [], [], []⟩, ⟨.n, 0, [], [], []⟩, ⟨.r, 0, [], [], []⟩, ⟨.n, 0, [], [], []⟩, ⟨.r, 0, [], [], []⟩, ⟨.n, 0, [], [], []⟩, ⟨.n, 0, [], [], []⟩, ⟨.n, 0, [], [], []⟩, ⟨.n, 0, [], [], []⟩, ⟨.n, 0, [], [], []⟩, ⟨.n, 0, [], [], []⟩, ⟨.n, 0, [], [], []⟩, ⟨.n, 0, [], [], []⟩, ⟨.n, 0, [], [], []⟩, ⟨.r, 0, [], [], []⟩, ⟨.n, 0, [], [], []⟩, ⟨.n, 0, [], [], []⟩, ⟨.n, 0, [], [], []⟩, ⟨.r, 0, [], [], []⟩, ⟨.n, 0, [], [], []⟩, ⟨.n, 0, [], [], []⟩, ⟨.n, 0, [], [], []⟩] 0 (by kernel_rfl) ?_
  simp only [List.length_map,Tryz.underlying168,aR,go_sem,reduceIte,zA,zB,zC,zD,zE,zF,reduceCtorEq]
  refine aN (fun sZ => ?_) (fun sZ => ?_)
  ·simp only [List.length_map,Tryz.underlying168,aR,go_sem,reduceIte,zA,zB,zC,zD,zE,zF,reduceCtorEq]
   exact hK _ (congrArg num (by unfold mi IQ jO; rw [hC]; simp_all [aJ]))
  ·simp only [List.length_map,Tryz.underlying168,aR,go_sem,reduceIte,zA,zB,zC,zD,zE,zF,reduceCtorEq]
   refine cG (⟨_, rfl, G8⟩) ?_
   rintro _ rfl
   simp only [List.length_map,Tryz.underlying168,aR,go_sem,reduceIte,zA,zB,zC,zD,zE,zF,reduceCtorEq]
   refine cG (qM) ?_
   rintro _ rfl
   simp only [List.length_map,Tryz.underlying168,aR,go_sem,reduceIte,zA,zB,zC,zD,zE,zF,reduceCtorEq]
   refine aN (fun A8 => ?_) (fun A8 => ?_)
   ·simp only [List.length_map,Tryz.underlying168,aR,go_sem,reduceIte,zA,zB,zC,zD,zE,zF,reduceCtorEq]
    exact hK _ (congrArg num (by unfold mi IQ jO; rw [hC]; simp_all [aJ]))
   ·simp only [List.length_map,Tryz.underlying168,aR,go_sem,reduceIte,zA,zB,zC,zD,zE,zF,reduceCtorEq]
    refine aN (fun OK => ?_) (fun OK => ?_)
    ·simp only [List.length_map,Tryz.underlying168,aR,go_sem,reduceIte,zA,zB,zC,zD,zE,zF,reduceCtorEq]
     exact hK _ (congrArg num (by unfold mi IQ jO; rw [hC]; simp_all [aJ]))
    ·simp only [List.length_map,Tryz.underlying168,aR,go_sem,reduceIte,zA,zB,zC,zD,zE,zF,reduceCtorEq]
     exact hK _ (congrArg num (by unfold mi IQ jO; rw [hC]; simp_all [aJ]))
theorem Sz (hG : aE.g = some 0) (q : Rq) (l : List Rq) (i : Nat) (hb : qD q) : ∃ r_, (fun w => w = num (mi q (bQ l i))) r_ ∧ aQ Tryz.prog 134 [aj q, bV l i] r_ := by
 unfold bV
 cases bQ l i with
 | none => exact OI hG q hb
 | some p => exact OJ hG q p hb
end Go.Proofs.YtnfeacnbgbggfaaGreatDoor
end

section
namespace Go.Proofs.YtnfeacnbgbggfaaGreatDoor
open Go.Eng
open Nat renaming reduceAdd → zA, reduceLT → zB, reduceLeDiff → zC, reduceMul → zD, reduceEqDiff → zE, reduceSub → zF
variable [aE]
set_option maxHeartbeats 4000000
set_option maxRecDepth 100000
theorem OL (hG : aE.g = some 0) (l : List Rq) (hl : l.length ≤ 1048576) (hb : ∀ q ∈ l, qD q) : ∃ r_, (fun w => w = num (fo l)) r_ ∧ aQ Tryz.prog 109 [ah l] r_ := by
 refine dZ tt_ok [] 27 [.tmp 2] (fn := Tryz.f109) Tryz.func109 rfl Tryz.call109 ⟨rfl, rfl, by simp⟩ fun K hK => ?_
 simp only [ah]
 obtain ⟨n, hn⟩ : ∃ n : Nat, n = 16 := ⟨_, rfl⟩
 simp only [eH,List.length_map,↓iE,↓iF,go_sem,reduceIte,zA,zB,zC,zD,zE,zF,reduceCtorEq]
 refine aN (fun ga => ?_) (fun ga => ?_)
 ·have au : 7 = fo l := by unfold fo; rw [if_pos (by have := of_decide_eq_true ga; omega)]
  simp only [eH,List.length_map,↓iE,↓iF,go_sem,reduceIte,zA,zB,zC,zD,zE,zF,reduceCtorEq]
  exact hK _ (congrArg num au)
 ·simp only [eH,List.length_map,↓iE,↓iF,go_sem,reduceIte,zA,zB,zC,zD,zE,zF,reduceCtorEq]
  refine bx tt_ok [] [12,3] 0 [0,9,10,11] (fun vs => ((l.length : Int) - Go.Eng.intOf (vs.headD .undef)).toNat) (fun vs => ∃ i : Nat, vs = [num i, bV l i] ∧ i ≤ l.length ∧ eM none l = eM (bQ l i) (l.drop i)) (by omega) (by simp only [eH,List.length_map,↓iE,↓iF,go_sem,reduceIte,zA,zB,zC,zD,zE,zF,reduceCtorEq]) (⟨0, rfl, Nat.zero_le _, rfl⟩) fun vs hI Z1 cd => ?_
  obtain ⟨i, rfl, hi, gR⟩ := hI
  simp only [eH,List.length_map,↓iE,↓iF,go_sem,reduceIte,zA,zB,zC,zD,zE,zF,reduceCtorEq]
  refine aN (fun lD => ?_) (fun lD => ?_)
  ·have az : i < l.length := by simpa using lD
   have hw := ay i (by omega)
   obtain ⟨x, hx⟩ : ∃ x, l[i]? = some x := ⟨_, List.getElem?_eq_getElem az⟩
   simp only [eH,hw,List.getElem?_map,hx,aj,al,List.length_map,↓iE,↓iF,go_sem,reduceIte,zA,zB,zC,zD,zE,zF,reduceCtorEq]
   refine cF (by have h := Sz hG x l i (hb x (List.mem_of_getElem? hx)); simp only [aj,al] at h; exact h) ?_
   rintro _ rfl
   simp only [eH,hw,List.getElem?_map,hx,aj,al,List.length_map,↓iE,↓iF,go_sem,reduceIte,zA,zB,zC,zD,zE,zF,reduceCtorEq]
   refine aN (fun gV => ?_) (fun gV => ?_)
   ·have au : mi x (bQ l i) = fo l := by unfold fo; rw [if_neg (by have := of_decide_eq_false ga; omega), gR, lC hx (by simpa using gV)]
    simp only [eH,hw,List.getElem?_map,hx,aj,al,List.length_map,↓iE,↓iF,go_sem,reduceIte,zA,zB,zC,zD,zE,zF,reduceCtorEq]
    exact hK _ (congrArg num au)
   ·simp only [eH,hw,List.getElem?_map,hx,aj,al,List.length_map,↓iE,↓iF,go_sem,reduceIte,zA,zB,zC,zD,zE,zF,reduceCtorEq]
    refine cd _ (cC (by omega) (by simp only [eH,hw,List.getElem?_map,hx,aj,al,List.length_map,↓iE,↓iF,go_sem,reduceIte,zA,zB,zC,zD,zE,zF,reduceCtorEq]) ?_ ?_) <;> simp only [fh,lk,reduceIte,zE]
    ·exact ⟨i + 1, by rw [Ki hx]; rfl, az, by rw [gR]; exact sW hx (by simpa using gV)⟩
    ·simp only [Go.Eng.intOf,List.headD_cons]; omega
  ·have cH : ¬ i < l.length := by simpa using lD
   have au : 0 = fo l := by unfold fo; rw [if_neg (by have := of_decide_eq_false ga; omega), gR, List.drop_eq_nil_of_le (by omega)]; rfl
   simp only [eH,List.length_map,↓iE,↓iF,go_sem,reduceIte,zA,zB,zC,zD,zE,zF,reduceCtorEq]
   exact hK _ (congrArg num au)
theorem A9 (hG : aE.g = some 0) (r : Rl) (hb : IS r) : ∃ r_, (fun w => w = num (gi r)) r_ ∧ aQ Tryz.prog 75 [ag r] r_ := by
 refine dZ tt_ok [] 56 [.tmp 2] (fn := Tryz.f75) Tryz.func75 rfl Tryz.call75 ⟨rfl, rfl, by simp⟩ fun K hK => ?_
 simp only [ag,ab,ah]
 obtain ⟨re, rV, Qg⟩ := hb
 simp only [go_sem,reduceIte,zA,zB,zC,zD,zE,zF,reduceCtorEq]
 refine cF (rn hG r.path re) ?_
 rintro _ ⟨nm, rfl⟩
 simp only [go_sem,reduceIte,zA,zB,zC,zD,zE,zF,reduceCtorEq]
 refine aN (fun lE => ?_) (fun lE => ?_)
 ·have au : 4 = gi r := by unfold gi; simp_all
  simp only [go_sem,reduceIte,zA,zB,zC,zD,zE,zF,reduceCtorEq]
  exact hK _ (congrArg num au)
 ·simp only [go_sem,reduceIte,zA,zB,zC,zD,zE,zF,reduceCtorEq]
  refine cF (by have h := yB r.aA; simp only [bM] at h; exact h) ?_
  rintro _ rfl
  simp only [go_sem,reduceIte,zA,zB,zC,zD,zE,zF,reduceCtorEq]
  refine aN (fun sZ => ?_) (fun sZ => ?_)
  ·have au : 2 = gi r := by unfold gi; simp_all
   simp only [go_sem,reduceIte,zA,zB,zC,zD,zE,zF,reduceCtorEq]
   exact hK _ (congrArg num au)
  ·simp only [go_sem,reduceIte,zA,zB,zC,zD,zE,zF,reduceCtorEq]
   refine aN (fun OM => ?_) (fun OM => ?_)
   ·have au : 2 = gi r := by unfold gi; simp_all
    simp only [go_sem,reduceIte,zA,zB,zC,zD,zE,zF,reduceCtorEq]
    exact hK _ (congrArg num au)
   ·simp only [go_sem,reduceIte,zA,zB,zC,zD,zE,zF,reduceCtorEq]
    refine cF (by have h := OL hG r.reqs rV Qg; simp only [ah] at h; exact h) ?_
    rintro _ rfl
    simp only [go_sem,reduceIte,zA,zB,zC,zD,zE,zF,reduceCtorEq]
    refine aN (fun yR => ?_) (fun yR => ?_)
    ·have au : fo r.reqs = gi r := by unfold gi; simp_all
     simp only [go_sem,reduceIte,zA,zB,zC,zD,zE,zF,reduceCtorEq]
     exact hK _ (congrArg num au)
    ·simp only [go_sem,reduceIte,zA,zB,zC,zD,zE,zF,reduceCtorEq]
     refine bx tt_ok [] [43] 2 [17,28,33,41,42] (fun vs => ((3 : Int) - Go.Eng.intOf (vs.headD .undef)).toNat) (fun vs => ∃ i : Nat, vs = [num i] ∧ i ≤ 3 ∧ ∀ j < i, jm (G7 r j) = true) (by omega) (by simp only [go_sem,reduceIte,zA,zB,zC,zD,zE,zF,reduceCtorEq]) (⟨0, rfl, Nat.zero_le _, fun j hj => absurd hj (Nat.not_lt_zero j)⟩) fun vs hI Z1 cd => ?_
     obtain ⟨i, rfl, hi, aV⟩ := hI
     simp only [go_sem,reduceIte,zA,zB,zC,zD,zE,zF,reduceCtorEq]
     refine aN (fun Kk => ?_) (fun Kk => ?_)
     ·have az : i < 3 := by have := of_decide_eq_true Kk; omega
      rw [Kk]
      have cP : (i : Int) < 3 := by omega
      have hw := ay i (by omega)
      have yL := OG r i az
      have sY : ((3 : Nat) : Int) = 3 := rfl
      simp only [hw,cP,yL,sY,Int.natCast_nonneg,Int.toNat_natCast,go_sem,reduceIte,zA,zB,zC,zD,zE,zF,reduceCtorEq]
      refine aN (fun ON => ?_) (fun ON => ?_)
      ·simp only [hw,cP,yL,sY,Int.natCast_nonneg,Int.toNat_natCast,go_sem,reduceIte,zA,zB,zC,zD,zE,zF,reduceCtorEq]
       refine aN (fun pJ => ?_) (fun pJ => ?_)
       ·have L3 : jm (G7 r i) = false := by unfold jm; simp_all <;> omega
        have hdn := Sy az L3
        have au : 1 = gi r := by unfold gi; simp_all
        simp only [hw,cP,yL,sY,Int.natCast_nonneg,Int.toNat_natCast,go_sem,reduceIte,zA,zB,zC,zD,zE,zF,reduceCtorEq]
        exact hK _ (congrArg num au)
       ·simp only [hw,cP,yL,sY,Int.natCast_nonneg,Int.toNat_natCast,go_sem,reduceIte,zA,zB,zC,zD,zE,zF,reduceCtorEq]
        refine cd _ (cC (by omega) (by simp only [hw,cP,yL,sY,Int.natCast_nonneg,Int.toNat_natCast,go_sem,reduceIte,zA,zB,zC,zD,zE,zF,reduceCtorEq]) ?_ ?_) <;> simp only [fh,lk,reduceIte,zE]
        ·refine ⟨i + 1, rfl, az, fun j hj => ?_⟩
         rcases Nat.lt_or_ge j i with h | h
         ·exact aV j h
         ·obtain rfl : j = i := by omega
          unfold jm; simp_all <;> omega
        ·simp only [Go.Eng.intOf,List.headD_cons]; omega
      ·simp only [hw,cP,yL,sY,Int.natCast_nonneg,Int.toNat_natCast,go_sem,reduceIte,zA,zB,zC,zD,zE,zF,reduceCtorEq]
       refine cd _ (cC (by omega) (by simp only [hw,cP,yL,sY,Int.natCast_nonneg,Int.toNat_natCast,go_sem,reduceIte,zA,zB,zC,zD,zE,zF,reduceCtorEq]) ?_ ?_) <;> simp only [fh,lk,reduceIte,zE]
       ·refine ⟨i + 1, rfl, az, fun j hj => ?_⟩
        rcases Nat.lt_or_ge j i with h | h
        ·exact aV j h
        ·obtain rfl : j = i := by omega
         unfold jm; simp_all <;> omega
       ·simp only [Go.Eng.intOf,List.headD_cons]; omega
     ·have cH : i = 3 := by have := of_decide_eq_false Kk; omega
      subst cH
      have L3 := OH aV
      have au : 0 = gi r := by unfold gi; simp_all
      simp only [go_sem,reduceIte,zA,zB,zC,zD,zE,zF,reduceCtorEq]
      exact hK _ (congrArg num au)
theorem s4 (hG : aE.g = some 0) (l : List Rl) (I : List V) (hb : w6 l) : ∃ r_, (fun w => w = num (ey l)) r_ ∧ aQ Tryz.prog 22 [bA l I] r_ := by
 refine dZ tt_ok [] 42 [.tmp 2] (fn := Tryz.f22) Tryz.func22 rfl Tryz.call22 ⟨rfl, rfl, by simp⟩ fun K hK => ?_
 simp only [bA,bh]
 obtain ⟨hl, hb⟩ := hb
 simp only [List.length_map,go_sem,reduceIte,zA,zB,zC,zD,zE,zF,reduceCtorEq]
 refine aN (fun dp => ?_) (fun dp => ?_)
 ·have au : 7 = ey l := by unfold ey; rw [if_pos (by have := of_decide_eq_true dp; omega)]
  simp only [List.length_map,go_sem,reduceIte,zA,zB,zC,zD,zE,zF,reduceCtorEq]
  exact hK _ (congrArg num au)
 ·simp only [List.length_map,go_sem,reduceIte,zA,zB,zC,zD,zE,zF,reduceCtorEq]
  refine bx tt_ok [] [14] 1 [1,10,12,13] (fun vs => ((l.length : Int) - Go.Eng.intOf (vs.headD .undef)).toNat) (fun vs => ∃ i : Nat, vs = [num i] ∧ i ≤ l.length ∧ c5 none l = c5 (bQ l i) (l.drop i)) (by omega) (by simp only [List.length_map,go_sem,reduceIte,zA,zB,zC,zD,zE,zF,reduceCtorEq]) (⟨0, rfl, Nat.zero_le _, rfl⟩) fun vs hI Z1 cd => ?_
  obtain ⟨i, rfl, hi, gR⟩ := hI
  simp only [List.length_map,go_sem,reduceIte,zA,zB,zC,zD,zE,zF,reduceCtorEq]
  refine aN (fun ly => ?_) (fun ly => ?_)
  ·have az : i < l.length := by simpa using ly
   have hw := ay i (by omega)
   obtain ⟨x, hx⟩ : ∃ x, l[i]? = some x := ⟨_, List.getElem?_eq_getElem az⟩
   simp only [hw,List.getElem?_map,hx,ag,ab,ah,List.length_map,go_sem,reduceIte,zA,zB,zC,zD,zE,zF,reduceCtorEq]
   refine cF (by have h := A9 hG x (hb x (List.mem_of_getElem? hx)); simp only [ag,ab,ah] at h; exact h) ?_
   rintro _ rfl
   simp only [hw,List.getElem?_map,hx,ag,ab,ah,List.length_map,go_sem,reduceIte,zA,zB,zC,zD,zE,zF,reduceCtorEq]
   refine aN (fun wu => ?_) (fun wu => ?_)
   ·have au : gi x = ey l := by unfold ey; rw [if_neg (by have := of_decide_eq_false dp; omega), gR, CF hx (by simpa using wu)]
    simp only [hw,List.getElem?_map,hx,ag,ab,ah,List.length_map,go_sem,reduceIte,zA,zB,zC,zD,zE,zF,reduceCtorEq]
    exact hK _ (congrArg num au)
   ·simp only [hw,List.getElem?_map,hx,ag,ab,ah,List.length_map,go_sem,reduceIte,zA,zB,zC,zD,zE,zF,reduceCtorEq]
    refine aN (fun fm => ?_) (fun fm => ?_)
    ·have FA : i = 0 := by have := of_decide_eq_true fm; omega
     have yi : ∀ p, bQ l i = some p → p.key ≠ x.key ∧ ¬ 0 < p.cmp x := fun p hp => by rw [FA] at hp; cases hp
     simp only [hw,List.getElem?_map,hx,ag,ab,ah,List.length_map,go_sem,reduceIte,zA,zB,zC,zD,zE,zF,reduceCtorEq]
     refine cd _ (cC (by omega) (by simp only [hw,List.getElem?_map,hx,ag,ab,ah,List.length_map,go_sem,reduceIte,zA,zB,zC,zD,zE,zF,reduceCtorEq]) ?_ ?_) <;> simp only [fh,lk,reduceIte,zE]
     ·exact ⟨i + 1, rfl, az, by rw [gR]; exact ml hx (by simpa using wu) yi⟩
     ·simp only [Go.Eng.intOf,List.headD_cons]; omega
    ·have FA : i ≠ 0 := by have := of_decide_eq_false fm; omega
     obtain ⟨p, hp⟩ : ∃ p, l[i - 1]? = some p := ⟨_, List.getElem?_eq_getElem (by omega)⟩
     have Ee : bQ l i = some p := by rw [pI FA, hp]
     have eu : IntKind.i64.wrap ((i : Int) - 1) = ((i - 1 : Nat) : Int) := jA _ _ (by omega) (by omega)
     have wv := fun a b => GQ a b p.key x.key
     simp only [hw,List.getElem?_map,hx,ag,ab,ah,eu,hp,wv,aH,List.length_map,go_sem,reduceIte,zA,zB,zC,zD,zE,zF,reduceCtorEq]
     refine bu tt_ok aG [⟨.r, 0, [], [], []⟩, ⟨.n, 0, [], [], []⟩, ⟨.r, 0, [], [], []⟩, ⟨.n, 0, [], [], []⟩, ⟨.n, 0, [], [], []⟩] 0 (by kernel_rfl) ?_
     simp only [hw,List.getElem?_map,hx,ag,ab,ah,eu,hp,wv,aH,List.length_map,go_sem,reduceIte,zA,zB,zC,zD,zE,zF,reduceCtorEq]
     refine cG (by have h := kp p; simp only [ag,ab,ah,aH] at h; exact h) ?_
     rintro _ rfl
     simp only [hw,List.getElem?_map,hx,ag,ab,ah,eu,hp,wv,aH,List.length_map,go_sem,reduceIte,zA,zB,zC,zD,zE,zF,reduceCtorEq]
     refine cG (by have h := kp x; simp only [ag,ab,ah,aH] at h; exact h) ?_
     rintro _ rfl
     simp only [hw,List.getElem?_map,hx,ag,ab,ah,eu,hp,wv,aH,List.length_map,go_sem,reduceIte,zA,zB,zC,zD,zE,zF,reduceCtorEq]
     refine aN (fun pH => ?_) (fun pH => ?_)
     ·have au : 5 = ey l := by unfold ey; rw [if_neg (by have := of_decide_eq_false dp; omega), gR, sX hx (by simpa using wu) Ee, if_pos (by simpa using pH)]
      simp only [hw,List.getElem?_map,hx,ag,ab,ah,eu,hp,wv,aH,List.length_map,go_sem,reduceIte,zA,zB,zC,zD,zE,zF,reduceCtorEq]
      exact hK _ (congrArg num au)
     ·simp only [hw,List.getElem?_map,hx,ag,ab,ah,eu,hp,wv,aH,List.length_map,go_sem,reduceIte,zA,zB,zC,zD,zE,zF,reduceCtorEq]
      refine cF (by have h := A7 p x; simp only [ag,ab,ah] at h; exact h) ?_
      rintro _ rfl
      simp only [hw,List.getElem?_map,hx,ag,ab,ah,eu,hp,wv,aH,List.length_map,go_sem,reduceIte,zA,zB,zC,zD,zE,zF,reduceCtorEq]
      refine aN (fun OO => ?_) (fun OO => ?_)
      ·have au : 1 = ey l := by unfold ey; rw [if_neg (by have := of_decide_eq_false dp; omega), gR, sX hx (by simpa using wu) Ee, if_neg (by simpa using pH), if_pos (by simpa using OO)]
       simp only [hw,List.getElem?_map,hx,ag,ab,ah,eu,hp,wv,aH,List.length_map,go_sem,reduceIte,zA,zB,zC,zD,zE,zF,reduceCtorEq]
       exact hK _ (congrArg num au)
      ·have yi : ∀ p, bQ l i = some p → p.key ≠ x.key ∧ ¬ 0 < p.cmp x := fun q hq => by rw [Ee] at hq; cases hq; exact ⟨by simpa using pH, by simpa using OO⟩
       simp only [hw,List.getElem?_map,hx,ag,ab,ah,eu,hp,wv,aH,List.length_map,go_sem,reduceIte,zA,zB,zC,zD,zE,zF,reduceCtorEq]
       refine cd _ (cC (by omega) (by simp only [hw,List.getElem?_map,hx,ag,ab,ah,eu,hp,wv,aH,List.length_map,go_sem,reduceIte,zA,zB,zC,zD,zE,zF,reduceCtorEq]) ?_ ?_) <;> simp only [fh,lk,reduceIte,zE]
       ·exact ⟨i + 1, rfl, az, by rw [gR]; exact ml hx (by simpa using wu) yi⟩
       ·simp only [Go.Eng.intOf,List.headD_cons]; omega
  ·have cH : ¬ i < l.length := by simpa using ly
   have au : 0 = ey l := by unfold ey; rw [if_neg (by have := of_decide_eq_false dp; omega), gR, List.drop_eq_nil_of_le (by omega)]; rfl
   simp only [List.length_map,go_sem,reduceIte,zA,zB,zC,zD,zE,zF,reduceCtorEq]
   exact hK _ (congrArg num au)
end Go.Proofs.YtnfeacnbgbggfaaGreatDoor
end

section
namespace Go.Proofs.YtnfeacnbgbggfaaGreatDoor
open Go.Eng
theorem okWide_slice {P : Program} {W : World} {base : Nat} {T e : TypeId} {v : Value} (hT : P.underlying T = some (.slice e)) (h : Value.okWide P W .any base T v) : ∃ a l c, v = .slice a l c := by
 unfold Value.okWide at h
 rw [hT] at h
 unfold Cell.okWide at h
 rw [hT] at h
 cases v with
 | slice a l c => exact ⟨a, l, c, rfl⟩
 | _ => simp [Cell.ok, hT] at h
variable [aE]
theorem c3 : Tryz.prog.cellsOf 3 = 1 := by kernel_rfl
theorem c4 : Tryz.prog.cellsOf 4 = 1 := by kernel_rfl
theorem c9 : Tryz.prog.cellsOf 9 = 1 := by kernel_rfl
theorem Y2 : Tryz.prog.cellsOf 22 = 1 := by kernel_rfl
theorem Y3 : Tryz.prog.cellsOf 23 = 1 := by kernel_rfl
theorem Y4 : Tryz.prog.cellsOf 25 = 2 := by kernel_rfl
theorem Y5 : Tryz.prog.cellsOf 26 = 1 := by kernel_rfl
theorem V8 : Tryz.prog.cellsOf 38 = 3 := by kernel_rfl
theorem Xw : Tryz.prog.cellsOf 40 = 9 := by kernel_rfl
theorem Y6 : Tryz.prog.cellsOf 49 = 1 := by kernel_rfl
theorem Xx : Tryz.prog.cellsOf 51 = 2 := by kernel_rfl
theorem Xy : Tryz.prog.cellsOf 54 = 4 := by kernel_rfl
theorem Xz : Tryz.prog.cellsOf 78 = 2 := by kernel_rfl
theorem V9 : Tryz.prog.cellsOf 228 = 1 := by kernel_rfl
theorem Wa : Tryz.prog.cellsOf 229 = 1 := by kernel_rfl
theorem Wb : Tryz.prog.cellsOf 230 = 1 := by kernel_rfl
theorem Wc : Tryz.prog.cellsOf 231 = 1 := by kernel_rfl
theorem SA : Tryz.prog.cellsOf 233 = 5 := by kernel_rfl
section
variable {F : Addr → Option Value} {hg : Gl F} {H : Type} {enc : TypeId × Value → H} {w : World} {sp : Nat → Bool} {held : Bool} {f : Nat} {cs : List Value} {d : DataW H} {p : List MemPlace}
theorem ku {a : List V} {cs : List Value} {off n : Nat} (h1 : Rd F hg a ((cs.drop off).take n)) (h : cs.length = off + n) : Rd F hg a (cs.drop off) := by
 rwa [List.take_of_length_le (by simp; omega)] at h1
theorem s5 (h : DataW.trod enc Tryz.prog w 0 sp held f 3 cs = some (d, p)) : ∃ n : Int, Rd F hg [num n] cs ∧ 1 ≤ Rows.uptoBulk d := by
 cases f with
 | zero => simp [DataW.trod] at h
 | succ f => obtain ⟨n, rfl, rfl⟩ := trod_int Tryz.underlying3 h; exact ⟨n, AJ rfl, by simp [Rows.uptoBulk]⟩
theorem ny (h : DataW.trod enc Tryz.prog w 0 sp held f 9 cs = some (d, p)) : ∃ s : ByteArray, Rd F hg [str s] cs ∧ s.size + 1 ≤ Rows.uptoBulk d := by
 cases f with
 | zero => simp [DataW.trod] at h
 | succ f =>
  obtain ⟨n, rfl, rfl⟩ := trod_string Tryz.underlying9 h
  exact ⟨n, AJ rfl, by simp only [Rows.uptoBulk,Array.length_toList]; exact Nat.le_refl _⟩
theorem SB (h : DataW.trod enc Tryz.prog w 0 sp held f 4 cs = some (d, p)) : ∃ b : Bool, Rd F hg [bl b] cs := by
 cases f with
 | zero => simp [DataW.trod] at h
 | succ f => obtain ⟨n, rfl, -⟩ := trod_bool Tryz.underlying4 h; exact ⟨n, AJ rfl⟩
theorem yS {T T' : TypeId} {α : Type} {row : α → V} {g : α → Nat} {n : Nat} (hF : F = w.cell?) (hT : Tryz.prog.underlying T = some (.slice T')) (hn : Tryz.prog.cellsOf T' = n)
  (hr : ∀ f', f' < f → ∀ {cs : List Value} {d : DataW H} {p : List MemPlace}, DataW.trod enc Tryz.prog w 0 sp held f' T' cs = some (d, p) → ∃ a : α, Rd F hg (row a).cells cs ∧ g a ≤ Rows.uptoBulk d)
  (h : DataW.trod enc Tryz.prog w 0 sp held f T cs = some (d, p)) : ∃ l : List α, Rd F hg [.slice (l.map row)] cs ∧ cZ g l + 1 ≤ Rows.uptoBulk d := by
 cases f with
 | zero => simp [DataW.trod] at h
 | succ f => exact GJ hF hT hn (fun h => hr f (Nat.lt_succ_self f) h) h
theorem wx {T T' : TypeId} (hT : Tryz.prog.underlying T = some (.slice T')) (h : DataW.trod enc Tryz.prog w 0 sp held f T cs = some (d, p)) : Rd F hg [.undef] cs := by
 cases f with
 | zero => simp [DataW.trod] at h
 | succ f =>
  rcases trod_slice hT h with ⟨rfl, -⟩ | ⟨a, cap, elems, spare, rfl, -⟩
  ·exact ⟨.cons (.undef _ _) (.nil _), by simp [Value.oneCell']⟩
  ·exact ⟨.cons (.undef _ _) (.nil _), by simp [Value.oneCell']⟩
def OP (_ : bF) : Nat := 1
def G9 (q : Rq) : Nat := q.path.size + q.set.length + 1
def Ha (r : Rl) : Nat := r.path.size + r.ar.size + r.fY.size + r.ce.size + cZ G9 r.reqs + 1
def Ba (s : dA) : Nat := s.path.size + 1
theorem Kl {α : Type} (l : List α) : cZ (fun _ => 1) l = l.length := by induction l with | nil => rfl | cons a t ih => simp [cZ, ih]; omega
theorem OQ (h : DataW.trod enc Tryz.prog w 0 sp held f 78 cs = some (d, p)) : ∃ x : bF, Rd F hg (ak x).cells cs ∧ OP x ≤ Rows.uptoBulk d := by
 cases f with
 | zero => simp [DataW.trod] at h
 | succ f =>
  obtain ⟨hl, d0, p0, h0, d1, p1, h1, rfl⟩ := fe Tryz.underlying78 h
  simp only [c3] at h0 h1
  rw [Xz] at hl
  obtain ⟨a, ha, b0⟩ := s5 (F := F) (hg := hg) h0
  obtain ⟨b, hb, b1⟩ := s5 (F := F) (hg := hg) h1
  refine ⟨⟨a, b⟩, ?_, ?_⟩
  ·exact dt (a := [num a]) (off := 0) ha (ku (a := [num b]) hb hl)
  ·simp only [Rows.uptoBulk,Rows.uptoBulkAll,OP]; omega
theorem OR (hF : F = w.cell?) (h : DataW.trod enc Tryz.prog w 0 sp held f 49 cs = some (d, p)) : ∃ l : List bF, Rd F hg [.slice (l.map ak)] cs ∧ l.length + 1 ≤ Rows.uptoBulk d := by
 obtain ⟨l, h1, h2⟩ := yS (F := F) (hg := hg) (row := ak) (g := OP) hF Tryz.underlying49 Xz (fun f' _ {cs d p} h => OQ h) h
 exact ⟨l, h1, by rw [← Kl l]; exact h2⟩
theorem SC (hF : F = w.cell?) (h : DataW.trod enc Tryz.prog w 0 sp held f 51 cs = some (d, p)) : ∃ x : Rq, Rd F hg (aj x).cells cs ∧ G9 x ≤ Rows.uptoBulk d := by
 cases f with
 | zero => simp [DataW.trod] at h
 | succ f =>
  obtain ⟨hl, d0, p0, h0, d1, p1, h1, rfl⟩ := fe Tryz.underlying51 h
  simp only [c9,Y6] at h0 h1
  rw [Xx] at hl
  obtain ⟨a, ha, b0⟩ := ny (F := F) (hg := hg) h0
  obtain ⟨l, zw, b1⟩ := OR (F := F) (hg := hg) hF h1
  refine ⟨⟨a, l⟩, ?_, ?_⟩
  ·exact dt (a := [str a]) (off := 0) ha (ku (a := [.slice (l.map ak)]) zw hl)
  ·simp only [Rows.uptoBulk,Rows.uptoBulkAll,G9]; omega
theorem Hb (hF : F = w.cell?) (h : DataW.trod enc Tryz.prog w 0 sp held f 26 cs = some (d, p)) : ∃ l : List Rq, Rd F hg [.slice (l.map aj)] cs ∧ cZ G9 l + 1 ≤ Rows.uptoBulk d :=
 yS (row := aj) (g := G9) hF Tryz.underlying26 Xx (fun f' _ {cs d p} h => SC hF h) h
theorem Hc (h : DataW.trod enc Tryz.prog w 0 sp held f 38 cs = some (d, p)) : ∃ v : er, Rd F hg [num v.mj, num v.mn, num v.pt] cs := by
 cases f with
 | zero => simp [DataW.trod] at h
 | succ f =>
  obtain ⟨hl, d0, p0, h0, d1, p1, h1, d2, p2, h2, rfl⟩ := fe Tryz.underlying38 h
  simp only [c3] at h0 h1 h2
  rw [V8] at hl
  obtain ⟨a, ha, -⟩ := s5 (F := F) (hg := hg) h0
  obtain ⟨b, hb, -⟩ := s5 (F := F) (hg := hg) h1
  obtain ⟨c, hc, -⟩ := s5 (F := F) (hg := hg) h2
  exact ⟨⟨a, b, c⟩, dt (a := [num a]) (off := 0) ha (dt (a := [num b]) hb (ku (a := [num c]) hc hl))⟩
theorem SD (hF : F = w.cell?) (h : DataW.trod enc Tryz.prog w 0 sp held f 40 cs = some (d, p)) : ∃ x : Rl, Rd F hg (ag x).cells cs ∧ Ha x ≤ Rows.uptoBulk d := by
 cases f with
 | zero => simp [DataW.trod] at h
 | succ f =>
  obtain ⟨hl, d0, p0, h0, d1, p1, h1, d2, p2, h2, d3, p3, h3, d4, p4, h4, d5, p5, h5, d6, p6, h6, rfl⟩ := fe Tryz.underlying40 h
  simp only [c9,V8,Y5,c4] at h0 h1 h2 h3 h4 h5 h6
  rw [Xw] at hl
  obtain ⟨x0, a0, b0⟩ := ny (F := F) (hg := hg) h0
  obtain ⟨x1, a1⟩ := Hc (F := F) (hg := hg) h1
  obtain ⟨x2, a2, b2⟩ := Hb (F := F) (hg := hg) hF h2
  obtain ⟨x3, a3, b3⟩ := ny (F := F) (hg := hg) h3
  obtain ⟨x4, a4, b4⟩ := ny (F := F) (hg := hg) h4
  obtain ⟨x5, a5, b5⟩ := ny (F := F) (hg := hg) h5
  obtain ⟨x6, a6⟩ := SB (F := F) (hg := hg) h6
  refine ⟨⟨x0, x1, x2, x3, x4, x5, x6⟩, ?_, ?_⟩
  ·show Rd F hg ([str x0] ++ [num x1.mj, num x1.mn, num x1.pt] ++ [.slice (x2.map aj)] ++ [str x3] ++ [str x4] ++ [str x5] ++ [bl x6]) (cs.drop 0)
   simp only [List.append_assoc]
   exact dt (a := [str x0]) (off := 0) a0 (dt (a := [num x1.mj, num x1.mn, num x1.pt]) a1 (dt (a := [.slice (x2.map aj)]) a2 (dt (a := [str x3]) a3 (dt (a := [str x4]) a4 (dt (a := [str x5]) a5 (ku (a := [bl x6]) a6 hl))))))
  ·simp only [Rows.uptoBulk,Rows.uptoBulkAll,Ha]; omega
theorem OS (hF : F = w.cell?) (h : DataW.trod enc Tryz.prog w 0 sp held f 22 cs = some (d, p)) : ∃ l : List Rl, Rd F hg [.slice (l.map ag)] cs ∧ cZ Ha l + 1 ≤ Rows.uptoBulk d :=
 yS (row := ag) (g := Ha) hF Tryz.underlying22 Xw (fun f' _ {cs d p} h => SD hF h) h
theorem OT (h : DataW.trod enc Tryz.prog w 0 sp held f 54 cs = some (d, p)) : ∃ x : dA, Rd F hg (aH x).cells cs ∧ Ba x ≤ Rows.uptoBulk d := by
 cases f with
 | zero => simp [DataW.trod] at h
 | succ f =>
  obtain ⟨hl, d0, p0, h0, d1, p1, h1, rfl⟩ := fe Tryz.underlying54 h
  simp only [c9,V8] at h0 h1
  rw [Xy] at hl
  obtain ⟨x0, a0, b0⟩ := ny (F := F) (hg := hg) h0
  obtain ⟨x1, a1⟩ := Hc (F := F) (hg := hg) h1
  refine ⟨⟨x0, x1⟩, ?_, ?_⟩
  ·exact dt (a := [str x0]) (off := 0) a0 (ku (a := [num x1.mj, num x1.mn, num x1.pt]) a1 hl)
  ·simp only [Rows.uptoBulk,Rows.uptoBulkAll,Ba]; omega
theorem Km (hF : F = w.cell?) (h : DataW.trod enc Tryz.prog w 0 sp held f 27 cs = some (d, p)) : ∃ l : List dA, Rd F hg [.slice (l.map aH)] cs ∧ cZ Ba l + 1 ≤ Rows.uptoBulk d :=
 yS (row := aH) (g := Ba) hF Tryz.underlying27 Xy (fun f' _ {cs d p} h => OT h) h
def wy (_ : Unit) : V := .agg [.undef, .undef, .undef, .undef, .undef]
theorem OU (h : DataW.trod enc Tryz.prog w 0 sp held f 233 cs = some (d, p)) : ∃ x : Unit, Rd F hg (wy x).cells cs ∧ 0 ≤ Rows.uptoBulk d := by
 cases f with
 | zero => simp [DataW.trod] at h
 | succ f =>
  obtain ⟨hl, d0, p0, h0, d1, p1, h1, d2, p2, h2, d3, p3, h3, d4, p4, h4, rfl⟩ := fe Tryz.underlying233 h
  simp only [c9,V9,Wa,Wb,Wc] at h0 h1 h2 h3 h4
  rw [SA] at hl
  obtain ⟨x0, a0, -⟩ := ny (F := F) (hg := hg) h0
  have Y7 : Rd F hg [.undef] ((cs.drop 0).take 1) := ⟨⟨a0.1.1, fun i v x hv hx => by
   match i with
   | 0 => simp at hv; subst hv; exact .undef _ _
   | i + 1 => simp at hv⟩, a0.2⟩
  refine ⟨(), ?_, Nat.zero_le _⟩
  exact dt (a := [.undef]) (off := 0) Y7 (dt (a := [.undef]) (wx Tryz.underlying228 h1) (dt (a := [.undef]) (wx Tryz.underlying229 h2) (dt (a := [.undef]) (wx Tryz.underlying230 h3) (ku (a := [.undef]) (wx Tryz.underlying231 h4) hl))))
theorem SE (hF : F = w.cell?) (h : DataW.trod enc Tryz.prog w 0 sp held f 25 cs = some (d, p)) : ∃ (l : List Rl) (I : List V), Rd F hg [.slice (l.map ag), .slice I] cs ∧ cZ Ha l + 1 ≤ Rows.uptoBulk d := by
 cases f with
 | zero => simp [DataW.trod] at h
 | succ f =>
  obtain ⟨hl, d0, p0, h0, d1, p1, h1, rfl⟩ := fe Tryz.underlying25 h
  simp only [Y2,Y3] at h0 h1
  rw [Y4] at hl
  obtain ⟨l, zw, b0⟩ := OS (F := F) (hg := hg) hF h0
  obtain ⟨us, hu, -⟩ := yS (F := F) (hg := hg) (row := wy) (g := fun _ => 0) hF Tryz.underlying23 SA (fun f' _ {cs d p} h => OU h) h1
  refine ⟨l, us.map wy, ?_, ?_⟩
  ·exact dt (a := [.slice (l.map ag)]) (off := 0) zw (ku (a := [.slice (us.map wy)]) hu hl)
  ·simp only [Rows.uptoBulk,Rows.uptoBulkAll]; omega
theorem OV {q : Rq} (h : G9 q ≤ 1048576) : qD q := by unfold G9 at h; exact ⟨by omega, by omega⟩
theorem Hd {l : List Rq} (h : cZ G9 l ≤ 1048576) : l.length ≤ 1048576 ∧ ∀ q ∈ l, qD q := by
 refine ⟨Nat.le_trans (ji G9 (fun q => by unfold G9; omega) l) h, fun q hq => ?_⟩
 obtain ⟨i, hi⟩ := List.mem_iff_getElem?.1 hq
 exact OV (Nat.le_trans (uL G9 hi) h)
theorem OW {r : Rl} (h : Ha r ≤ 1048576) : IS r := by
 unfold Ha at h
 have := Hd (l := r.reqs) (by omega)
 exact ⟨by omega, this.1, this.2⟩
theorem OX {l : List Rl} (h : cZ Ha l ≤ 1048576) : w6 l := by
 refine ⟨Nat.le_trans (ji Ha (fun q => by unfold Ha; omega) l) h, fun r hr => ?_⟩
 obtain ⟨i, hi⟩ := List.mem_iff_getElem?.1 hr
 exact OW (Nat.le_trans (uL Ha hi) h)
theorem OY {l : List dA} (h : cZ Ba l ≤ 1048576) : l.length ≤ 1048576 := Nat.le_trans (ji Ba (fun q => by unfold Ba; omega) l) h
end
end Go.Proofs.YtnfeacnbgbggfaaGreatDoor
end

section
namespace Go.Proofs.YtnfeacnbgbggfaaGreatDoor
open Go.Eng
open Nat renaming reduceAdd → zA, reduceLT → zB, reduceLeDiff → zC, reduceMul → zD, reduceEqDiff → zE, reduceSub → zF
variable [aE]
set_option maxHeartbeats 4000000
set_option maxRecDepth 100000
def Kn (b : UInt8) : V := .sc (.int .u8 (b.toNat : Int))
def bE (n : Nat) : V := .sc (.int .u64 (n : Int))
def bs (l : List UInt8) : ByteArray := ⟨l.toArray⟩
theorem oR (l : List UInt8) : (bs l).size = l.length := by simp [bs, ByteArray.size]
theorem jE (l : List UInt8) : bg (bs l) = l := by simp [bg, bs]
theorem Ef (s : ByteArray) : bs (bg s) = s := np (jE _)
theorem Bb (a b : ByteArray) : bg (a ++ b) = bg a ++ bg b := by unfold bg; rw [ByteArray.data_append, Array.toList_append]
theorem He (a b : List UInt8) : bs a ++ bs b = bs (a ++ b) := np (by rw [Bb, jE, jE, jE])
theorem Ko (t : ByteArray) : bs (uv t.size) ++ t = bs (eT t) := by
 have h : bs (uv t.size) ++ bs (bg t) = bs (eT t) := He _ _
 rwa [Ef] at h
theorem qE : ∀ l : List UInt8, ez (l.map Kn) = some (l.map fun b => (b.toNat : Int))
 | [] => rfl
 | b :: r => by
  show (match ez (r.map Kn) with | some l => some ((b.toNat : Int) :: l) | none => none) = _
  rw [qE r]; rfl
theorem oS (l : List UInt8) : strOfNums (l.map fun b => (b.toNat : Int)) = bs l := by
 unfold strOfNums bs
 rw [List.map_map]
 congr 2
 conv => rhs; rw [← List.map_id l]
 exact List.map_congr_left fun b _ => by simp
theorem Kp {mem : List aw} {b v : Nat} (l : List UInt8) (h : mem[b]? = some (.rows v 1 (l.map Kn))) : kF Tryz.prog mem 159 9 (.ms b v 0 l.length) = some (str (bs l)) := by
 have hs : Tryz.prog.underlying 159 = some (.slice 5) := by kernel_rfl
 have he : Tryz.prog.underlying 5 = some (.int .u8) := by kernel_rfl
 have hd : Tryz.prog.underlying 9 = some .string := by kernel_rfl
 have ht : ((l.map Kn).drop 0).take l.length = l.map Kn := List.take_of_length_le (by simp)
 simp only [kF,h,true_and,List.length_map,Nat.zero_add,Nat.le_refl,if_true,ht,ja,hs,he,hd,qE,oS]
theorem Hf : ∀ (k n : Nat), n < 2 ^ (7 * (k + 1)) → (uv n).length ≤ k + 1
 | 0, n, h => by rw [lx (by simpa using h)]; simp
 | k + 1, n, h => by
  by_cases hn : n < 128
  ·rw [lx hn]; simp
  ·rw [wk hn, List.length_cons]
   have hp : 2 ^ (7 * (k + 1 + 1)) = 2 ^ (7 * (k + 1)) * 128 := by rw [show (128 : Nat) = 2 ^ 7 from rfl, ← Nat.pow_add]; congr 1
   have := Hf k (n / 128) (Nat.div_lt_of_lt_mul (by rw [Nat.mul_comm, ← hp]; exact h))
   omega
theorem lF {n : Nat} (h : n < 2 ^ 64) : (uv n).length ≤ 10 := Hf 9 n (Nat.lt_of_lt_of_le h (Nat.pow_le_pow_right (by omega) (by omega)))
theorem OZ (n : Nat) : 0 < (uv n).length := by rw [uv]; split <;> simp
def s6 (k : IntKind) (a b : Int) : Int := k.wrap (BitVec.ofInt k.bits a ||| BitVec.ofInt k.bits b).toNat
theorem ew (T : TypeId) (x y : Operand) (k : IntKind) (a b : Int) : aS Tryz.prog (fI .or T x y) (.sc (.int k a)) (.sc (.int k b)) = some (.sc (.int k (s6 k a b))) := by
 simp [aS, bw, fI, binOp, eqGuard, aF, bind, pure, Sem.bind, Op.intBits, dF, s6]
theorem O0 (T : TypeId) (x y : Operand) (k k' : IntKind) (a b : Int) (hb : ¬ b < 0) : aS Tryz.prog (fI .shl T x y) (.sc (.int k a)) (.sc (.int k' b)) = some (.sc (.int k (k.wrap (a * 2 ^ min b.toNat k.bits)))) := by
 simp [aS, bw, fI, binOp, Op.shift, eqGuard, aF, dF, bind, pure, Sem.bind, hb]
theorem Eg : (List.range 256).all (fun a => s6 .u8 (a : Int) 128 == ((a % 128 + 128 : Nat) : Int)) = true := by kernel_rfl
theorem SG (a : Nat) (h : a < 256) : s6 .u8 (a : Int) 128 = ((a % 128 + 128 : Nat) : Int) := by
 have := List.all_eq_true.1 Eg a (by simpa using h)
 simpa using this
theorem Bc : (List.range 256).all (fun a => Gk .u8 (a : Int) 127 == ((a % 128 : Nat) : Int)) = true := by kernel_rfl
theorem O1 (a : Nat) (h : a < 256) : Gk .u8 (a : Int) 127 = ((a % 128 : Nat) : Int) := by
 have := List.all_eq_true.1 Bc a (by simpa using h)
 simpa using this
theorem Mn (n : Nat) : IntKind.u8.wrap (n : Int) = ((n % 256 : Nat) : Int) := by
 simp [IntKind.wrap, IntKind.signed, IntKind.bits]
theorem wrap64 (n : Nat) (h : n < 2 ^ 64) : IntKind.u64.wrap (n : Int) = (n : Int) := by
 simp [IntKind.wrap, IntKind.signed, IntKind.bits]
 omega
theorem u8_or (n : Nat) : s6 .u8 (IntKind.u8.wrap (n : Int)) 128 = ((UInt8.ofNat (n % 128 + 128)).toNat : Int) := by
 rw [Mn, SG _ (Nat.mod_lt _ (by omega)), iU (by omega)]; omega
theorem SH (n : Nat) (h : n < 128) : IntKind.u8.wrap (n : Int) = ((UInt8.ofNat n).toNat : Int) := by
 rw [Mn, iU (by omega)]; omega
theorem Wd (n : Nat) : ((n : Int)).fdiv (2 ^ min (7 : Int).toNat IntKind.u64.bits) = ((n / 128 : Nat) : Int) := by
 show ((n : Int)).fdiv ((128 : Nat) : Int) = _
 rw [Int.fdiv_eq_ediv_of_nonneg _ (by omega)]; omega
theorem Kq (x y : Operand) (k' : IntKind) (n : Nat) : aS Tryz.prog (fI .shr 136 x y) (.sc (.int .u64 (n : Int))) (.sc (.int k' 7)) = some (bE (n / 128)) := by
 rw [Gj Tryz.prog 136 x y .u64 k' n 7 (by omega), Wd]; rfl
theorem qF (n : Nat) (hn : n < 2 ^ 64) : aQ Tryz.prog 93 [bE n] (str (bs (uv n))) := by
 refine Sd tt_ok [] 20 [.tmp 2] (fn := Tryz.f93) Tryz.func93 rfl Tryz.call93 ⟨rfl, rfl, by simp⟩ fun K hK => ?_
 have CA : Tryz.prog.underlying 5 = some (.int .u8) := by kernel_rfl
 have gO : Tryz.prog.underlying 136 = some (.int .u64) := by kernel_rfl
 have CB : Tryz.prog.underlying 3 = some (.int .i64) := by kernel_rfl
 have Kr := fun (k : IntKind) (n : Int) => ep (P := Tryz.prog) (src := 136) (dst := 5) gO CA k n
 have Ks := fun (k : IntKind) (n : Int) => ep (P := Tryz.prog) (src := 3) (dst := 136) CB gO k n
 have hln := lF hn
 simp only [bE,Kr,ew,bE,List.length_map,go_sem,reduceIte,zA,zB,zC,zD,zE,zF,reduceCtorEq]
 refine D0 3 0 1 (by decide) rfl ?_
 refine cY tt_ok [] (fun a : List UInt8 × Nat => [(0, bE a.2), (3, .ms 0 a.1.length 0 a.1.length)]) (fun a : List UInt8 × Nat => [.rows a.1.length 1 (a.1.map Kn)]) (fun a => a.2) (fun a => a.1 ++ uv a.2 = uv n ∧ a.2 < 2 ^ 64) (([], n)) 1 (bj (by omega) (by simp only [bE,Kr,ew,bE,List.length_map,List.map_nil,List.length_nil,bE,Int.cast_ofNat_Int,go_sem,reduceIte,zA,zB,zC,zD,zE,zF,reduceCtorEq] <;> rfl)) (⟨rfl, hn⟩) ?_
 rintro ⟨p, m⟩ ⟨hp, hm⟩
 try dsimp only at hp hm
 try dsimp only [bE]
 have zx : p.length + (uv m).length ≤ 10 := by have := congrArg List.length hp; rw [List.length_append] at this; omega
 have eO : p.length + 1 ≤ 34359738368 := by omega
 intro Z1 cd
 simp only [bE,Kr,ew,bE,List.length_map,go_sem,reduceIte,zA,zB,zC,zD,zE,zF,reduceCtorEq]
 refine aN (fun Qu => ?_) (fun Qu => ?_)
 ·have QN : ¬ m < 128 := by have := of_decide_eq_true Qu; omega
  have B9 := u8_or m
  have Y8 := fun x y k => Kq x y k m
  have fO : ∀ x : Int, ck [V.sc (.int .u8 x)] 0 1 = true := fun x => rfl
  simp only [bE,B9,Y8,fO,eO,List.length_cons,List.length_nil,Nat.zero_add,Kr,ew,bE,List.length_map,go_sem,reduceIte,zA,zB,zC,zD,zE,zF,reduceCtorEq]
  refine cd _ ⟨(p ++ [UInt8.ofNat (m % 128 + 128)], m / 128), ?_, ?_, bj (by omega) (by (simp [my, lk, bz, bR, ai, aB, List.map_append, Kn, bE]))⟩
  ·refine ⟨?_, by dsimp only; omega⟩
   rw [← hp, wk QN, List.append_assoc]; rfl
  ·dsimp only; omega
 ·have CG : m < 128 := by have := of_decide_eq_false Qu; omega
  have kD := SH m CG
  have fO : ∀ x : Int, ck [V.sc (.int .u8 x)] 0 1 = true := fun x => rfl
  have pc : p ++ [UInt8.ofNat m] = uv n := by rw [← hp, lx CG]
  have IT : ∀ mem : List aw, mem[0]? = some (.rows (p.length + 1) 1 (p.map Kn ++ [V.sc (.int .u8 ((UInt8.ofNat m).toNat : Int))])) → kF Tryz.prog mem 159 9 (.ms 0 (p.length + 1) 0 (p.length + 1)) = some (str (bs (uv n))) := fun mem hm => by
   have h := Kp (b := 0) (v := p.length + 1) (p ++ [UInt8.ofNat m]) (mem := mem) (by rw [hm]; simp [Kn])
   rw [pc] at h
   rw [← h, ← pc, List.length_append]; rfl
  simp only [bE,kD,fO,eO,IT,List.length_append,List.length_cons,List.length_nil,Nat.zero_add,Kr,ew,bE,List.length_map,go_sem,reduceIte,zA,zB,zC,zD,zE,zF,reduceCtorEq]
  exact hK _ rfl
theorem Kt (s : ByteArray) (hs : s.size ≤ 1048576) : ∃ r_, (fun w => w = str (bs (eT s))) r_ ∧ aQ Tryz.prog 58 [str s] r_ := by
 refine dZ tt_ok [] 9 [.tmp 2] (fn := Tryz.f58) Tryz.func58 rfl Tryz.call58 ⟨rfl, rfl, by simp⟩ fun K hK => ?_
 have fL : Tryz.prog.underlying 9 = some .string := by kernel_rfl
 have sl : ∀ (a : ByteArray) (ty : TypeId), cI Tryz.prog (Builtin.len_ #[9] ty) [.sc (.string a)] = some (num a.size) := fun a ty => ct (P := Tryz.prog) (tt := tt) (T := 9) a fL ty
 have CA : Tryz.prog.underlying 5 = some (.int .u8) := by kernel_rfl
 have gO : Tryz.prog.underlying 136 = some (.int .u64) := by kernel_rfl
 have CB : Tryz.prog.underlying 3 = some (.int .i64) := by kernel_rfl
 have Kr := fun (k : IntKind) (n : Int) => ep (P := Tryz.prog) (src := 136) (dst := 5) gO CA k n
 have Ks := fun (k : IntKind) (n : Int) => ep (P := Tryz.prog) (src := 3) (dst := 136) CB gO k n
 have hw := wrap64 s.size (by omega)
 have CH := fun x y => om Tryz.prog 9 x y (bs (uv s.size)) s (by have := lF (n := s.size) (by omega); rw [oR, show IntKind.i64.max = 9223372036854775807 from rfl]; omega)
 have Fb := Ko s
 simp only [sl,Ks,hw,CH,Fb,go_sem,reduceIte,zA,zB,zC,zD,zE,zF,reduceCtorEq]
 refine cF (⟨_, rfl, qF s.size (by omega)⟩) ?_
 rintro _ rfl
 simp only [sl,Ks,hw,CH,Fb,go_sem,reduceIte,zA,zB,zC,zD,zE,zF,reduceCtorEq]
 exact hK _ rfl
theorem Ku (n : Nat) (hn : n < 2 ^ 63) : ∃ r_, (fun w => w = .bP [str (bs (uv n)), num 0]) r_ ∧ aQ Tryz.prog 56 [num n] r_ := by
 refine dZ tt_ok [] 9 [.tmp 2, .tmp 3] (fn := Tryz.f56) Tryz.func56 rfl Tryz.call56 ⟨rfl, rfl, by simp⟩ fun K hK => ?_
 have CA : Tryz.prog.underlying 5 = some (.int .u8) := by kernel_rfl
 have gO : Tryz.prog.underlying 136 = some (.int .u64) := by kernel_rfl
 have CB : Tryz.prog.underlying 3 = some (.int .i64) := by kernel_rfl
 have Kr := fun (k : IntKind) (n : Int) => ep (P := Tryz.prog) (src := 136) (dst := 5) gO CA k n
 have Ks := fun (k : IntKind) (n : Int) => ep (P := Tryz.prog) (src := 3) (dst := 136) CB gO k n
 have hw := wrap64 n (by omega)
 simp only [Ks,hw,go_sem,reduceIte,zA,zB,zC,zD,zE,zF,reduceCtorEq]
 refine aN (fun Qu => ?_) (fun Qu => ?_)
 ·exact absurd (of_decide_eq_true Qu) (by omega)
 ·simp only [Ks,hw,go_sem,reduceIte,zA,zB,zC,zD,zE,zF,reduceCtorEq]
  refine cF (⟨_, rfl, qF n (by omega)⟩) ?_
  rintro _ rfl
  simp only [Ks,hw,go_sem,reduceIte,zA,zB,zC,zD,zE,zF,reduceCtorEq]
  exact hK _ rfl
end Go.Proofs.YtnfeacnbgbggfaaGreatDoor
end

section
namespace Go.Proofs.YtnfeacnbgbggfaaGreatDoor
open Go.Eng
open Nat renaming reduceAdd → zA, reduceLT → zB, reduceLeDiff → zC, reduceMul → zD, reduceEqDiff → zE, reduceSub → zF
variable [aE]
set_option maxHeartbeats 4000000
set_option maxRecDepth 100000
theorem CI (A B : List UInt8) (h : A.length + B.length ≤ 4611686018427387904) (x y : Operand) : aS Tryz.prog (fI .add 9 x y) (str (bs A)) (str (bs B)) = some (str (bs (A ++ B))) := by
 rw [← He]
 exact om Tryz.prog 9 x y (bs A) (bs B) (by rw [oR, oR, show IntKind.i64.max = 9223372036854775807 from rfl]; omega)
def mC (n : Int) : List UInt8 := uv n.toNat
theorem Hg (n : Int) (h0 : 0 ≤ n) (h : n < 9223372036854775808) : ∃ r_, (fun w => w = .bP [str (bs (mC n)), num 0]) r_ ∧ aQ Tryz.prog 56 [num n] r_ := by
 obtain ⟨k, rfl⟩ : ∃ k : Nat, n = k := ⟨n.toNat, by omega⟩
 exact Ku k (by omega)
theorem du {n : Int} (h0 : 0 ≤ n) (h : n < 9223372036854775808) : (mC n).length ≤ 10 := lF (by omega)
theorem kx (t : ByteArray) (h : t.size ≤ 1048576) : (eT t).length ≤ 1048586 := by
 unfold eT; rw [List.length_append, eU]
 have := lF (n := t.size) (by omega)
 omega
theorem fG {α β : Type} {g : α → List β} {k : Nat} : ∀ {l : List α}, (∀ x ∈ l, (g x).length ≤ k) → (l.flatMap g).length ≤ k * l.length
 | [], _ => by simp
 | a :: t, h => by
  have h1 := h a (by simp)
  have h2 := fG (l := t) (g := g) (k := k) fun x hx => h x (by simp [hx])
  rw [List.flatMap_cons, List.length_append, List.length_cons, Nat.mul_succ]; omega
theorem mm {α β : Type} (g : α → List β) {l : List α} {i : Nat} {x : α} (h : l[i]? = some x) : (l.take (i + 1)).flatMap g = (l.take i).flatMap g ++ g x := by
 rw [List.take_add_one, h, List.flatMap_append]; simp
theorem yU {α : Type} {l : List α} {p : α → Prop} (h : ∀ x ∈ l, p x) (i : Nat) : ∀ x ∈ l.take i, p x := fun x hx => h x (List.mem_of_mem_take hx)
theorem uS {P : Program} {f : FuncId} {vs : List V} {r : V} {B0 B1 qR : aw} (h : aT P f vs [B0, B1] r [qR, B1]) (M : List aw) (k k2 : Nat) (hv : vs.all (ai 2) = true) (hm : [B0, B1].all (aB 2) = true) (hr : ai 2 r = true) (F1 : [qR, B1].all (aB 2) = true)
  (h1 : ∀ σ, cq σ B0 = B0) (h2 : ∀ σ, cq σ B1 = B1) (Fc : ∀ σ, cq σ qR = qR) (hk : M[k]? = some B0) (jl : M[k2]? = some B1) (bL : k ≠ k2) :
  aT P f (cb (fun j => if j = 0 then k else if j = 1 then k2 else M.length + (j - 2)) vs) M (bo (fun j => if j = 0 then k else if j = 1 then k2 else M.length + (j - 2)) r) (M.set k qR) := by
 have h3 := h.ym M (fun j => if j = 0 then k else if j = 1 then k2 else M.length + (j - 2)) 2 rfl hv hm hr F1 (by simp) (fun i B hi => by
  match i with
  | 0 => simp at hi; subst hi; rw [h1]; simpa using hk
  | 1 => simp at hi; subst hi; rw [h2]; simpa using jl
  | i + 2 => simp at hi) (fun i j hi hj he => by
  match i, j with
  | 0, 0 => rfl
  | 1, 1 => rfl
  | 0, 1 => exact absurd (by simpa using he) bL
  | 1, 0 => exact absurd (by simpa using he.symm) bL
  | i + 2, _ => omega
  | _, j + 2 => omega) (fun j hj => by rw [if_neg (by omega), if_neg (by omega)])
 have hM : mz (fun j => if j = 0 then k else if j = 1 then k2 else M.length + (j - 2)) 2 [qR, B1] M = M.set k qR := by
  unfold mz
  simp only [Fa,List.map_nil,List.append_nil,fX]
  show (M.set k (cq _ qR)).set k2 (cq _ B1) = _
  rw [Fc, h2]
  exact eS (by rw [List.getElem?_set_ne bL]; exact jl)
 rwa [hM] at h3
theorem Hh (O : List UInt8) (l : List ByteArray) (hl : l.length ≤ 1048576) (hO : O.length ≤ 1152921504606846976) (hx : ∀ x ∈ l, x.size ≤ 1048576) : ∃ r_ m_, (fun r m => r = .bP [] ∧ m = [.box [str (bs (O ++ l.flatMap eT))], .rows 0 1 (l.map str)]) r_ m_ ∧ aT Tryz.prog 57 [.ms 1 0 0 l.length, .ptr 0 0] ([.box [str (bs O)], .rows 0 1 (l.map str)]) r_ m_ := by
 refine E8 tt_ok [] 16 [] (2) (by simp) (fn := Tryz.f57) Tryz.func57 rfl Tryz.call57 ⟨rfl, rfl, by simp⟩ fun K hK => ?_
 have Y9 := fG (g := eT) (l := l) (k := 1048586) fun x h => kx x (hx x h)
 simp only [List.length_map,go_sem,reduceIte,zA,zB,zC,zD,zE,zF,reduceCtorEq]
 refine cY tt_ok [] (fun i : Nat => [(1, .ptr 0 0), (5, .ms 1 0 0 l.length), (6, num l.length), (7, num i)]) (fun i : Nat => [.box [str (bs (O ++ (l.take i).flatMap eT))], .rows 0 1 (l.map str)]) (fun i => l.length - i) (fun i => i ≤ l.length) (0) 2 (bj (by omega) (by simp only [List.length_map,List.take_zero,List.flatMap_nil,List.append_nil,Int.cast_ofNat_Int,go_sem,reduceIte,zA,zB,zC,zD,zE,zF,reduceCtorEq] <;> rfl)) (Nat.zero_le _) ?_
 intro i hi
 intro Z1 cd
 simp only [List.length_map,go_sem,reduceIte,zA,zB,zC,zD,zE,zF,reduceCtorEq]
 refine aN (fun Mh => ?_) (fun Mh => ?_)
 ·have az : i < l.length := by simpa using Mh
  have hw := ay i (by omega)
  rw [Mh]
  obtain ⟨x, IU⟩ : ∃ x, l[i]? = some x := ⟨_, List.getElem?_eq_getElem az⟩
  have cP : (i : Int) < (l.length : Int) := by omega
  have SI := mm eT IU
  have IV := hx x (List.mem_of_getElem? IU)
  have Eh := fG (g := eT) (l := l.take i) (k := 1048586) fun x h => (by have hx := yU hx i; exact kx x (hx x h))
  have Za : (eT x).length ≤ 1048586 := (by have hx : ∀ y ∈ [x], y.size ≤ 1048576 := (fun y hy => by rw [List.mem_singleton] at hy; exact hy ▸ IV); have h : x ∈ [x] := (by simp); exact kx x (hx x h))
  rw [List.length_take] at Eh
  have CH := CI (O ++ (l.take i).flatMap eT) (eT x) (by rw [List.length_append]; omega)
  simp only [hw,List.getElem?_map,IU,cP,CH,Option.map_some,Int.natCast_nonneg,List.length_map,go_sem,reduceIte,zA,zB,zC,zD,zE,zF,reduceCtorEq]
  refine bu tt_ok aG [⟨.r, 0, [], [], []⟩, ⟨.n, 0, [], [], []⟩, ⟨.n, 0, [], [], []⟩, ⟨.n, 0, [], [], []⟩, ⟨.w, 0, [], [], []⟩] 1 (by kernel_rfl) ?_
  simp only [hw,List.getElem?_map,IU,cP,CH,Option.map_some,Int.natCast_nonneg,List.length_map,go_sem,reduceIte,zA,zB,zC,zD,zE,zF,reduceCtorEq]
  refine cG (Kt x IV) ?_
  rintro _ rfl
  simp only [hw,List.getElem?_map,IU,cP,CH,Option.map_some,Int.natCast_nonneg,List.length_map,go_sem,reduceIte,zA,zB,zC,zD,zE,zF,reduceCtorEq]
  refine cd _ ⟨i + 1, ?_, ?_, bj (by omega) (by (simp only [SI,hw,List.append_assoc,go_sem,reduceIte,zA,zB,zC,zD,zE,zF,reduceCtorEq]))⟩
  ·exact az
  ·omega
 ·have cH : ¬ i < l.length := by simpa using Mh
  have vu : i = l.length := by omega
  subst vu
  rw [List.take_length]
  simp only [List.length_map,go_sem,reduceIte,zA,zB,zC,zD,zE,zF,reduceCtorEq]
  exact hK _ _ ⟨rfl, rfl⟩
theorem Kv (O : List UInt8) (l : List Int) (hl : l.length ≤ 1048576) (hO : O.length ≤ 1152921504606846976) (hx : ∀ x ∈ l, 0 ≤ x ∧ x < 9223372036854775808) : ∃ r_ m_, (fun r m => r = .bP [] ∧ m = [.box [str (bs (O ++ l.flatMap mC))], .rows 0 1 (l.map num)]) r_ m_ ∧ aT Tryz.prog 55 [.ms 1 0 0 l.length, .ptr 0 0] ([.box [str (bs O)], .rows 0 1 (l.map num)]) r_ m_ := by
 refine E8 tt_ok [] 22 [] (2) (by simp) (fn := Tryz.f55) Tryz.func55 rfl Tryz.call55 ⟨rfl, rfl, by simp⟩ fun K hK => ?_
 have Y9 := fG (g := mC) (l := l) (k := 10) fun x h => du (hx x h).1 (hx x h).2
 simp only [List.length_map,go_sem,reduceIte,zA,zB,zC,zD,zE,zF,reduceCtorEq]
 refine cY tt_ok [] (fun i : Nat => [(1, .ptr 0 0), (7, .ms 1 0 0 l.length), (8, num l.length), (9, num i)]) (fun i : Nat => [.box [str (bs (O ++ (l.take i).flatMap mC))], .rows 0 1 (l.map num)]) (fun i => l.length - i) (fun i => i ≤ l.length) (0) 2 (bj (by omega) (by simp only [List.length_map,List.take_zero,List.flatMap_nil,List.append_nil,Int.cast_ofNat_Int,go_sem,reduceIte,zA,zB,zC,zD,zE,zF,reduceCtorEq] <;> rfl)) (Nat.zero_le _) ?_
 intro i hi
 intro Z1 cd
 simp only [List.length_map,go_sem,reduceIte,zA,zB,zC,zD,zE,zF,reduceCtorEq]
 refine aN (fun dp => ?_) (fun dp => ?_)
 ·have az : i < l.length := by simpa using dp
  have hw := ay i (by omega)
  rw [dp]
  obtain ⟨x, IU⟩ : ∃ x, l[i]? = some x := ⟨_, List.getElem?_eq_getElem az⟩
  have cP : (i : Int) < (l.length : Int) := by omega
  have SI := mm mC IU
  have IV := hx x (List.mem_of_getElem? IU)
  have Eh := fG (g := mC) (l := l.take i) (k := 10) fun x h => (by have hx := yU hx i; exact du (hx x h).1 (hx x h).2)
  have Za : (mC x).length ≤ 10 := (by have hx : ∀ y ∈ [x], 0 ≤ y ∧ y < 9223372036854775808 := (fun y hy => by rw [List.mem_singleton] at hy; exact hy ▸ IV); have h : x ∈ [x] := (by simp); exact du (hx x h).1 (hx x h).2)
  rw [List.length_take] at Eh
  have CH := CI (O ++ (l.take i).flatMap mC) (mC x) (by rw [List.length_append]; omega)
  simp only [hw,List.getElem?_map,IU,cP,CH,Option.map_some,Int.natCast_nonneg,List.length_map,go_sem,reduceIte,zA,zB,zC,zD,zE,zF,reduceCtorEq]
  refine cF (Hg x IV.1 IV.2) ?_
  rintro _ rfl
  simp only [hw,List.getElem?_map,IU,cP,CH,Option.map_some,Int.natCast_nonneg,List.length_map,go_sem,reduceIte,zA,zB,zC,zD,zE,zF,reduceCtorEq]
  refine cd _ ⟨i + 1, ?_, ?_, bj (by omega) (by (simp only [SI,hw,List.append_assoc,go_sem,reduceIte,zA,zB,zC,zD,zE,zF,reduceCtorEq]))⟩
  ·exact az
  ·omega
 ·have cH : ¬ i < l.length := by simpa using dp
  have vu : i = l.length := by omega
  subst vu
  rw [List.take_length]
  simp only [List.length_map,go_sem,reduceIte,zA,zB,zC,zD,zE,zF,reduceCtorEq]
  exact hK _ _ ⟨rfl, rfl⟩
theorem s7 (O : List UInt8) (l : List ByteArray) (hl : l.length ≤ 1048576) (hO : O.length ≤ 1152921504606846976) (hx : ∀ x ∈ l, x.size ≤ 1048576) (M : List aw) (k k2 : Nat) (hk : M[k]? = some (.box [str (bs O)])) (jl : M[k2]? = some (.rows 0 1 (l.map str))) (bL : k ≠ k2) :
  ∃ r_ m_, (fun r m => r = .bP [] ∧ m = M.set k (.box [str (bs (O ++ l.flatMap eT))])) r_ m_ ∧ aT Tryz.prog 57 [.ms k2 0 0 l.length, .ptr k 0] M r_ m_ := by
 obtain ⟨r, m, ⟨rfl, rfl⟩, h⟩ := Hh O l hl hO hx
 have h3 := uS h M k k2 (by simp [ai]) (by simp [aB, ai]) rfl (by simp [aB, ai]) (fun σ => by simp [cq, cb, bo]) (fun σ => by simp [cq, cb, bo]) (fun σ => by simp [cq, cb, bo]) hk jl bL
 exact ⟨_, _, ⟨rfl, rfl⟩, by simpa [cb, bo] using h3⟩
theorem rq (O : List UInt8) (l : List Int) (hl : l.length ≤ 1048576) (hO : O.length ≤ 1152921504606846976) (hx : ∀ x ∈ l, 0 ≤ x ∧ x < 9223372036854775808) (M : List aw) (k k2 : Nat) (hk : M[k]? = some (.box [str (bs O)])) (jl : M[k2]? = some (.rows 0 1 (l.map num))) (bL : k ≠ k2) :
  ∃ r_ m_, (fun r m => r = .bP [] ∧ m = M.set k (.box [str (bs (O ++ l.flatMap mC))])) r_ m_ ∧ aT Tryz.prog 55 [.ms k2 0 0 l.length, .ptr k 0] M r_ m_ := by
 obtain ⟨r, m, ⟨rfl, rfl⟩, h⟩ := Kv O l hl hO hx
 have h3 := uS h M k k2 (by simp [ai]) (by simp [aB, ai]) rfl (by simp [aB, ai]) (fun σ => by simp [cq, cb, bo]) (fun σ => by simp [cq, cb, bo]) (fun σ => by simp [cq, cb, bo]) hk jl bL
 exact ⟨_, _, ⟨rfl, rfl⟩, by simpa [cb, bo] using h3⟩
end Go.Proofs.YtnfeacnbgbggfaaGreatDoor
end

section
namespace Go.Proofs.YtnfeacnbgbggfaaGreatDoor
open Go.Eng
open Nat renaming reduceAdd → zA, reduceLT → zB, reduceLeDiff → zC, reduceMul → zD, reduceEqDiff → zE, reduceSub → zF
variable [aE]
set_option maxHeartbeats 4000000
set_option maxRecDepth 100000
theorem hX {P : Program} {f : FuncId} {vs : List V} {r : V} {B0 qR : aw} (h : aT P f vs [B0] r [qR]) (M : List aw) (k : Nat) (hv : vs.all (ai 1) = true) (hm : [B0].all (aB 1) = true) (hr : ai 1 r = true) (F1 : [qR].all (aB 1) = true)
  (h1 : ∀ σ, cq σ B0 = B0) (Fc : ∀ σ, cq σ qR = qR) (hk : M[k]? = some B0) :
  aT P f (cb (fun j => if j = 0 then k else M.length + (j - 1)) vs) M (bo (fun j => if j = 0 then k else M.length + (j - 1)) r) (M.set k qR) := by
 have h3 := h.ym M (fun j => if j = 0 then k else M.length + (j - 1)) 1 rfl hv hm hr F1 (by simp) (fun i B hi => by
  match i with
  | 0 => simp at hi; subst hi; rw [h1]; simpa using hk
  | i + 1 => simp at hi) (fun i j hi hj he => by omega) (fun j hj => by rw [if_neg (by omega)])
 have hM : mz (fun j => if j = 0 then k else M.length + (j - 1)) 1 [qR] M = M.set k qR := by
  unfold mz
  simp only [Fa,List.map_nil,List.append_nil,fX]
  show M.set k (cq _ qR) = _
  rw [Fc]
 rwa [hM] at h3
theorem uT (m c i : Nat) (hm : m < 2 ^ i) (hs : m + c * 2 ^ i < 2 ^ 64) : s6 .u64 (m : Int) ((c * 2 ^ i : Nat) : Int) = ((m + c * 2 ^ i : Nat) : Int) := by
 unfold s6
 have e : (BitVec.ofInt IntKind.u64.bits (m : Int) ||| BitVec.ofInt IntKind.u64.bits ((c * 2 ^ i : Nat) : Int)).toNat = m + c * 2 ^ i := by
  show (BitVec.ofInt 64 (m : Int) ||| BitVec.ofInt 64 ((c * 2 ^ i : Nat) : Int)).toNat = _
  rw [BitVec.ofInt_natCast, BitVec.ofInt_natCast, BitVec.toNat_or, BitVec.toNat_ofNat, BitVec.toNat_ofNat, Nat.mod_eq_of_lt (by omega), Nat.mod_eq_of_lt (by omega)]
  have := Nat.two_pow_add_eq_or_of_lt hm c
  rw [Nat.or_comm, Nat.mul_comm c, ← this, Nat.add_comm]
 rw [e]
 exact wrap64 _ hs
theorem We (c i : Nat) (h : c * 2 ^ (7 * i) < 2 ^ 64) (hi : i ≤ 9) : IntKind.u64.wrap ((c : Int) * 2 ^ min ((7 * i : Nat) : Int).toNat IntKind.u64.bits) = ((c * 2 ^ (7 * i) : Nat) : Int) := by
 have e : min ((7 * i : Nat) : Int).toNat IntKind.u64.bits = 7 * i := by
  show min ((7 * i : Nat) : Int).toNat 64 = 7 * i
  omega
 rw [e]
 have : (c : Int) * 2 ^ (7 * i) = ((c * 2 ^ (7 * i) : Nat) : Int) := by push_cast; rfl
 rw [this]
 exact wrap64 _ h
theorem CJ (x y : Operand) (c i : Nat) (h : c * 2 ^ (7 * i) < 2 ^ 64) (hi : i ≤ 9) : aS Tryz.prog (fI .shl 136 x y) (.sc (.int .u64 (c : Int))) (num ((7 * i : Nat) : Int)) = some (bE (c * 2 ^ (7 * i))) := by
 rw [show num ((7 * i : Nat) : Int) = V.sc (.int .i64 ((7 * i : Nat) : Int)) from rfl, O0 136 x y .u64 .i64 _ _ (by omega), We c i h hi]; rfl
theorem Hi {s : ByteArray} {a : Nat} {c : UInt8} (h : s[a]? = some c) : from_ s a = c :: from_ s (a + 1) := by
 have h1 := jB h
 unfold from_
 obtain ⟨h2, h3⟩ := List.getElem?_eq_some_iff.1 h1
 rw [List.drop_eq_getElem_cons h2, h3]
theorem Hj {s : ByteArray} {a : Nat} (h : s.size ≤ a) : from_ s a = [] := List.drop_eq_nil_of_le (by rw [Array.length_toList]; exact h)
theorem Ei (i : Nat) : 2 ^ (7 * (i + 1)) = 128 * 2 ^ (7 * i) := by rw [show (128 : Nat) = 2 ^ 7 from rfl, ← Nat.pow_add]; congr 1; omega
def Ej (s : ByteArray) (a : Nat) (r : V) : Prop := ∃ (n j : Nat) (ok : Bool), r = .bP [bE n, num j, bl ok] ∧ n < 2 ^ 64 ∧ j ≤ s.size ∧ (ok = (dJ (from_ s a) 0 0).isSome) ∧ ∀ n' k, dJ (from_ s a) 0 0 = some (n', k) → n = n' ∧ j = a + k
theorem Ej.no {s : ByteArray} {a : Nat} (h : dJ (from_ s a) 0 0 = none) : Ej s a (.bP [bE 0, num (0 : Nat), bl false]) := ⟨0, 0, false, rfl, by decide, Nat.zero_le _, by rw [h]; rfl, fun _ _ h' => by rw [h] at h'; cases h'⟩
theorem Mo {i m c : Nat} (hi : i ≤ 9) (hm : m < 2 ^ (7 * i)) (hc : c < 128) (h9 : i = 9 → c ≤ 1) : m + c * 2 ^ (7 * i) < 2 ^ 64 ∧ (i + 1 ≤ 9 → m + c * 2 ^ (7 * i) < 2 ^ (7 * (i + 1))) ∧ c * 2 ^ (7 * i) < 2 ^ 64 := by
 by_cases h : i = 9
 ·subst h
  have := h9 rfl
  refine ⟨?_, by omega, ?_⟩ <;> omega
 ·have h1 : c * 2 ^ (7 * i) ≤ 127 * 2 ^ (7 * i) := Nat.mul_le_mul_right _ (by omega)
  have h2 := Ei i
  have h3 : 2 ^ (7 * (i + 1)) ≤ 2 ^ 63 := Nat.pow_le_pow_right (by omega) (by omega)
  refine ⟨?_, fun _ => ?_, ?_⟩ <;> omega
theorem Ej.yes {s : ByteArray} {a i m : Nat} {c : UInt8} {ok : Bool} (jk : dJ (from_ s a) 0 0 = if i = 0 ∨ 0 < c.toNat then some (m + c.toNat * 2 ^ (7 * i), i + 1) else none) (hc : c.toNat < 128) (Zb : m + c.toNat % 128 * 2 ^ (7 * i) < 2 ^ 64) (hj : a + i + 1 ≤ s.size) (bK : ok = decide (i = 0 ∨ 0 < c.toNat)) :
  Ej s a (.bP [bE (m + c.toNat % 128 * 2 ^ (7 * i)), num (a + i + 1 : Nat), bl ok]) := by
 refine ⟨_, _, _, rfl, Zb, hj, ?_, fun n' k h => ?_⟩
 ·rw [jk, bK]; split <;> simp_all
 ·rw [jk] at h
  split at h
  ·simp only [Option.some.injEq,Prod.mk.injEq] at h
   rw [Nat.mod_eq_of_lt hc]
   exact ⟨h.1, by rw [← h.2, Nat.add_assoc]⟩
  ·cases h
def Qv (s : ByteArray) (a : Nat) (r : V) : Prop := ∃ (n : Int) (j : Nat) (ok : Bool), r = .bP [num n, num j, bl ok] ∧ j ≤ s.size ∧ (ok = (oM s a).isSome) ∧ ∀ n' k, oM s a = some (n', k) → n = n' ∧ j = k
def Mp (s : ByteArray) (a : Nat) : V := match AM s a with | some (t, j) => .bP [str t, num j, bl true] | none => .bP [str ⟨#[]⟩, num 0, bl false]
theorem Kw (s : ByteArray) (hs : s.size ≤ 1073741824) (a a0 : Nat) (e : Int) (ha : a ≤ s.size) : ∃ r_, Ej s a r_ ∧ aT Tryz.prog 131 [.ptr 0 0, num a] ([.box [str s, num a0, num e]]) r_ ([.box [str s, num a0, num e]]) := by
 refine E9 tt_ok [] 54 [.tmp 4, .tmp 5, .tmp 6] (fn := Tryz.f131) Tryz.func131 rfl Tryz.call131 ⟨rfl, rfl, by simp⟩ fun K hK => ?_
 have fL : Tryz.prog.underlying 9 = some .string := by kernel_rfl
 have sl : ∀ (a : ByteArray) (ty : TypeId), cI Tryz.prog (Builtin.len_ #[9] ty) [.sc (.string a)] = some (num a.size) := fun a ty => ct (P := Tryz.prog) (tt := tt) (T := 9) a fL ty
 have CA : Tryz.prog.underlying 5 = some (.int .u8) := by kernel_rfl
 have gO : Tryz.prog.underlying 136 = some (.int .u64) := by kernel_rfl
 have CB : Tryz.prog.underlying 3 = some (.int .i64) := by kernel_rfl
 have Kr := fun (k : IntKind) (n : Int) => ep (P := Tryz.prog) (src := 136) (dst := 5) gO CA k n
 have Ks := fun (k : IntKind) (n : Int) => ep (P := Tryz.prog) (src := 3) (dst := 136) CB gO k n
 have wz := fun (k : IntKind) (n : Int) => ep (P := Tryz.prog) (src := 5) (dst := 136) CA gO k n
 have ea := fun x y (b : UInt8) => NK Tryz.prog 5 x y .u8 b.toNat 127
 have wA : ∀ b : UInt8, Gk .u8 (b.toNat : Int) 127 = ((b.toNat % 128 : Nat) : Int) := fun b => O1 _ b.toNat_lt
 have wB : ∀ b : UInt8, IntKind.u64.wrap ((b.toNat % 128 : Nat) : Int) = ((b.toNat % 128 : Nat) : Int) := fun b => wrap64 _ (by omega)
 simp only [bE,sl,wz,ea,wA,wB,ew,bE,go_sem,reduceIte,zA,zB,zC,zD,zE,zF,reduceCtorEq]
 refine cY tt_ok [] (fun b : Nat × Nat => [(0, .ptr 0 0), (1, num (a + b.1 : Nat)), (7, bE b.2), (8, num (7 * b.1 : Nat))]) (fun b : Nat × Nat => [.box [str s, num a0, num e]]) (fun b => 10 - b.1) (fun b => b.1 ≤ 10 ∧ a + b.1 ≤ s.size ∧ b.2 < 2 ^ 64 ∧ (b.1 ≤ 9 → b.2 < 2 ^ (7 * b.1)) ∧ dJ (from_ s a) 0 0 = dJ (from_ s (a + b.1)) b.1 b.2) ((0, 0)) 1 (bj (by omega) (by simp only [bE,sl,wz,ea,wA,wB,ew,bE,bE,Nat.mul_zero,Nat.add_zero,Int.cast_ofNat_Int,go_sem,reduceIte,zA,zB,zC,zD,zE,zF,reduceCtorEq] <;> rfl)) (⟨by decide, ha, by decide, fun _ => by decide, rfl⟩) ?_
 rintro ⟨i, m⟩ ⟨hi, Zc, Wf, hm, jk⟩
 try dsimp only at hi Zc Wf hm jk
 try dsimp only [bE]
 have hw := ay (a + i) (by omega)
 have Bd : IntKind.i64.wrap (((7 * i : Nat) : Int) + 7) = ((7 * (i + 1) : Nat) : Int) := by rw [IntWalk.i64_in _ (by omega)]; omega
 intro Z1 cd
 simp only [bE,sl,wz,ea,wA,wB,ew,bE,go_sem,reduceIte,zA,zB,zC,zD,zE,zF,reduceCtorEq]
 refine aN (fun yO => ?_) (fun yO => ?_)
 ·have az : a + i < s.size := by have := of_decide_eq_true yO; omega
  obtain ⟨c, kj⟩ := bW (s := s) (i := a + i) az
  have cV := cL (P := Tryz.prog) s fL .i64 ((a + i : Nat) : Int) (by omega) (c := c) (show s[((a + i : Nat) : Int).toNat]? = some c from kj)
  have TC := Hi kj
  rw [TC, dJ] at jk
  have jo := c.toNat_lt
  simp only [bE,cV,hw,Bd,sl,wz,ea,wA,wB,ew,bE,go_sem,reduceIte,zA,zB,zC,zD,zE,zF,reduceCtorEq]
  refine aN (fun Hk => ?_) (fun Hk => ?_)
  ·have Qp : i ≤ 9 := by have := of_decide_eq_true Hk; omega
   have T4 := hm Qp
   simp only [bE,cV,hw,Bd,sl,wz,ea,wA,wB,ew,bE,go_sem,reduceIte,zA,zB,zC,zD,zE,zF,reduceCtorEq]
   refine aN (fun CK => ?_) (fun CK => ?_)
   ·simp only [bE,cV,hw,Bd,sl,wz,ea,wA,wB,ew,bE,go_sem,reduceIte,zA,zB,zC,zD,zE,zF,reduceCtorEq]
    refine aN (fun pH => ?_) (fun pH => ?_)
    ·have hR : Ej s a (.bP [bE 0, num (0 : Nat), bl false]) := by
      rw [if_pos (.inr ⟨by have := of_decide_eq_true CK; omega, by have := of_decide_eq_true pH; omega⟩)] at jk
      exact Ej.no jk
     simp only [bE,cV,hw,Bd,sl,wz,ea,wA,wB,ew,bE,go_sem,reduceIte,zA,zB,zC,zD,zE,zF,reduceCtorEq]
     exact hK _ _ ⟨hR, rfl⟩
    ·have h9 : i = 9 → c.toNat ≤ 1 := by first | (intro _; have := of_decide_eq_false pH; omega) | (intro h; have := of_decide_eq_false CK; omega)
     obtain ⟨jn, gE, Qf⟩ := Mo (c := c.toNat % 128) Qp T4 (by omega) (fun h => by have := h9 h; omega)
     have kS := fun x y => CJ x y (c.toNat % 128) i Qf Qp
     have Hl := uT m (c.toNat % 128) (7 * i) T4 jn
     rw [if_neg (by omega)] at jk
     simp only [bE,cV,hw,Bd,kS,Hl,sl,wz,ea,wA,wB,ew,bE,go_sem,reduceIte,zA,zB,zC,zD,zE,zF,reduceCtorEq]
     refine aN (fun Be => ?_) (fun Be => ?_)
     ·have lG : c.toNat < 128 := by have := of_decide_eq_true Be; omega
      rw [if_pos lG] at jk
      simp only [bE,cV,hw,Bd,kS,Hl,sl,wz,ea,wA,wB,ew,bE,go_sem,reduceIte,zA,zB,zC,zD,zE,zF,reduceCtorEq]
      refine aN (fun nz => ?_) (fun nz => ?_)
      ·have hR := Ej.yes (ok := true) jk lG jn (by omega) (by have := of_decide_eq_true nz; simp; omega)
       simp only [bE,cV,hw,Bd,kS,Hl,sl,wz,ea,wA,wB,ew,bE,go_sem,reduceIte,zA,zB,zC,zD,zE,zF,reduceCtorEq]
       exact hK _ _ ⟨hR, rfl⟩
      ·have hR := Ej.yes (ok := decide (((7 * i : Nat) : Int) = 0)) jk lG jn (by omega) (by have := of_decide_eq_false nz; rw [decide_eq_decide]; omega)
       simp only [bE,cV,hw,Bd,kS,Hl,sl,wz,ea,wA,wB,ew,bE,go_sem,reduceIte,zA,zB,zC,zD,zE,zF,reduceCtorEq]
       exact hK _ _ ⟨hR, rfl⟩
     ·have lG : ¬ c.toNat < 128 := by have := of_decide_eq_false Be; omega
      rw [if_neg lG, show c.toNat - 128 = c.toNat % 128 by omega] at jk
      have yj : i + 1 ≤ 10 ∧ a + (i + 1) ≤ s.size ∧ m + c.toNat % 128 * 2 ^ (7 * i) < 2 ^ 64 ∧ (i + 1 ≤ 9 → m + c.toNat % 128 * 2 ^ (7 * i) < 2 ^ (7 * (i + 1))) ∧ dJ (from_ s a) 0 0 = dJ (from_ s (a + (i + 1))) (i + 1) (m + c.toNat % 128 * 2 ^ (7 * i)) := ⟨by omega, by omega, jn, gE, jk⟩
      simp only [bE,cV,hw,Bd,kS,Hl,sl,wz,ea,wA,wB,ew,bE,go_sem,reduceIte,zA,zB,zC,zD,zE,zF,reduceCtorEq]
      refine cd _ ⟨(i + 1, m + c.toNat % 128 * 2 ^ (7 * i)), ?_, ?_, bj (by omega) (by (simp only [bE,Nat.add_assoc,bE,go_sem,reduceIte,zA,zB,zC,zD,zE,zF,reduceCtorEq]))⟩
      ·exact yj
      ·dsimp only; omega
   ·have h9 : i = 9 → c.toNat ≤ 1 := by first | (intro _; have := of_decide_eq_false pH; omega) | (intro h; have := of_decide_eq_false CK; omega)
    obtain ⟨jn, gE, Qf⟩ := Mo (c := c.toNat % 128) Qp T4 (by omega) (fun h => by have := h9 h; omega)
    have kS := fun x y => CJ x y (c.toNat % 128) i Qf Qp
    have Hl := uT m (c.toNat % 128) (7 * i) T4 jn
    rw [if_neg (by omega)] at jk
    simp only [bE,cV,hw,Bd,kS,Hl,sl,wz,ea,wA,wB,ew,bE,go_sem,reduceIte,zA,zB,zC,zD,zE,zF,reduceCtorEq]
    refine aN (fun Be => ?_) (fun Be => ?_)
    ·have lG : c.toNat < 128 := by have := of_decide_eq_true Be; omega
     rw [if_pos lG] at jk
     simp only [bE,cV,hw,Bd,kS,Hl,sl,wz,ea,wA,wB,ew,bE,go_sem,reduceIte,zA,zB,zC,zD,zE,zF,reduceCtorEq]
     refine aN (fun nz => ?_) (fun nz => ?_)
     ·have hR := Ej.yes (ok := true) jk lG jn (by omega) (by have := of_decide_eq_true nz; simp; omega)
      simp only [bE,cV,hw,Bd,kS,Hl,sl,wz,ea,wA,wB,ew,bE,go_sem,reduceIte,zA,zB,zC,zD,zE,zF,reduceCtorEq]
      exact hK _ _ ⟨hR, rfl⟩
     ·have hR := Ej.yes (ok := decide (((7 * i : Nat) : Int) = 0)) jk lG jn (by omega) (by have := of_decide_eq_false nz; rw [decide_eq_decide]; omega)
      simp only [bE,cV,hw,Bd,kS,Hl,sl,wz,ea,wA,wB,ew,bE,go_sem,reduceIte,zA,zB,zC,zD,zE,zF,reduceCtorEq]
      exact hK _ _ ⟨hR, rfl⟩
    ·have lG : ¬ c.toNat < 128 := by have := of_decide_eq_false Be; omega
     rw [if_neg lG, show c.toNat - 128 = c.toNat % 128 by omega] at jk
     have yj : i + 1 ≤ 10 ∧ a + (i + 1) ≤ s.size ∧ m + c.toNat % 128 * 2 ^ (7 * i) < 2 ^ 64 ∧ (i + 1 ≤ 9 → m + c.toNat % 128 * 2 ^ (7 * i) < 2 ^ (7 * (i + 1))) ∧ dJ (from_ s a) 0 0 = dJ (from_ s (a + (i + 1))) (i + 1) (m + c.toNat % 128 * 2 ^ (7 * i)) := ⟨by omega, by omega, jn, gE, jk⟩
     simp only [bE,cV,hw,Bd,kS,Hl,sl,wz,ea,wA,wB,ew,bE,go_sem,reduceIte,zA,zB,zC,zD,zE,zF,reduceCtorEq]
     refine cd _ ⟨(i + 1, m + c.toNat % 128 * 2 ^ (7 * i)), ?_, ?_, bj (by omega) (by (simp only [bE,Nat.add_assoc,bE,go_sem,reduceIte,zA,zB,zC,zD,zE,zF,reduceCtorEq]))⟩
     ·exact yj
     ·dsimp only; omega
  ·have TK : i = 10 := by have := of_decide_eq_false Hk; omega
   rw [if_pos (.inl (by omega))] at jk
   have hR := Ej.no jk
   simp only [bE,cV,hw,Bd,sl,wz,ea,wA,wB,ew,bE,go_sem,reduceIte,zA,zB,zC,zD,zE,zF,reduceCtorEq]
   exact hK _ _ ⟨hR, rfl⟩
 ·have cH : s.size ≤ a + i := by have := of_decide_eq_false yO; omega
  rw [Hj cH, dJ] at jk
  have hR := Ej.no jk
  simp only [bE,sl,wz,ea,wA,wB,ew,bE,go_sem,reduceIte,zA,zB,zC,zD,zE,zF,reduceCtorEq]
  exact hK _ _ ⟨hR, rfl⟩
end Go.Proofs.YtnfeacnbgbggfaaGreatDoor
end

section
namespace Go.Proofs.YtnfeacnbgbggfaaGreatDoor
open Go.Eng
open Nat renaming reduceAdd → zA, reduceLT → zB, reduceLeDiff → zC, reduceMul → zD, reduceEqDiff → zE, reduceSub → zF
variable [aE]
set_option maxHeartbeats 4000000
set_option maxRecDepth 100000
theorem Qv.of {s : ByteArray} {a n j : Nat} {ok ok2 : Bool} (hn : n < 2 ^ 64) (hj : j ≤ s.size) (bK : ok = (dJ (from_ s a) 0 0).isSome) (jk : ∀ n' k, dJ (from_ s a) 0 0 = some (n', k) → n = n' ∧ j = a + k) (h2 : ok2 = (ok && decide (n < 9223372036854775808))) : Qv s a (.bP [num (IntKind.i64.wrap (n : Int)), num j, bl ok2]) := by
 refine ⟨_, _, _, rfl, hj, ?_, fun n' k h => ?_⟩
 ·unfold oM
  cases hs : dJ (from_ s a) 0 0 with
  | none => rw [hs] at bK; rw [h2, bK]; rfl
  | some p =>
   obtain ⟨n0, k0⟩ := p
   obtain ⟨rfl, rfl⟩ := jk _ _ hs
   rw [hs] at bK
   rw [h2, bK]
   dsimp only
   by_cases h9 : n < 9223372036854775808 <;> simp [h9]
 ·unfold oM at h
  cases hs : dJ (from_ s a) 0 0 with
  | none => rw [hs] at h; cases h
  | some p =>
   obtain ⟨n0, k0⟩ := p
   obtain ⟨rfl, rfl⟩ := jk _ _ hs
   rw [hs] at h
   dsimp only at h
   split at h
   ·simp only [Option.some.injEq,Prod.mk.injEq] at h
    obtain ⟨rfl, rfl⟩ := h
    exact ⟨IntWalk.i64_in _ (by omega), rfl⟩
   ·cases h
theorem SJ (x y : Operand) (k' : IntKind) (n : Nat) : aS Tryz.prog (fI .shr 136 x y) (.sc (.int .u64 (n : Int))) (.sc (.int k' 63)) = some (bE (n / 9223372036854775808)) := by
 rw [Gj Tryz.prog 136 x y .u64 k' n 63 (by omega)]
 have : ((n : Int)).fdiv (2 ^ min (63 : Int).toNat IntKind.u64.bits) = ((n / 9223372036854775808 : Nat) : Int) := by
  show ((n : Int)).fdiv ((9223372036854775808 : Nat) : Int) = _
  rw [Int.fdiv_eq_ediv_of_nonneg _ (by omega)]; omega
 rw [this]; rfl
theorem Bf {s : ByteArray} {a n j : Nat} (h : oM s a = some (n, j)) : n < 9223372036854775808 ∧ j ≤ s.size := ⟨(AO h).2.1, (AO h).2.2.2.1⟩
theorem wC (s : ByteArray) (hs : s.size ≤ 1073741824) (a a0 : Nat) (e : Int) (ha : a ≤ s.size) : ∃ r_, Qv s a r_ ∧ aT Tryz.prog 105 [.ptr 0 0, num a] ([.box [str s, num a0, num e]]) r_ ([.box [str s, num a0, num e]]) := by
 refine E9 tt_ok [] 26 [.tmp 4, .tmp 5, .tmp 6] (fn := Tryz.f105) Tryz.func105 rfl Tryz.call105 ⟨rfl, rfl, by simp⟩ fun K hK => ?_
 have CA : Tryz.prog.underlying 5 = some (.int .u8) := by kernel_rfl
 have gO : Tryz.prog.underlying 136 = some (.int .u64) := by kernel_rfl
 have CB : Tryz.prog.underlying 3 = some (.int .i64) := by kernel_rfl
 have Kr := fun (k : IntKind) (n : Int) => ep (P := Tryz.prog) (src := 136) (dst := 5) gO CA k n
 have Ks := fun (k : IntKind) (n : Int) => ep (P := Tryz.prog) (src := 3) (dst := 136) CB gO k n
 have T5 := fun (k : IntKind) (n : Int) => ep (P := Tryz.prog) (src := 136) (dst := 3) gO CB k n
 simp only [T5,bE,go_sem,reduceIte,zA,zB,zC,zD,zE,zF,reduceCtorEq]
 refine cS (Kw s hs a a0 e ha) ?_
 rintro _ ⟨n, j, ok, rfl, SK, SL, bK, jk⟩
 have BP := fun x y k => SJ x y k n
 simp only [BP,T5,bE,go_sem,reduceIte,zA,zB,zC,zD,zE,zF,reduceCtorEq]
 refine aN (fun Hm => ?_) (fun Hm => ?_)
 ·have hR := Qv.of (ok2 := decide (((n / 9223372036854775808 : Nat) : Int) = 0)) SK SL bK jk (by rw [Hm, Bool.true_and, decide_eq_decide]; omega)
  simp only [BP,T5,bE,go_sem,reduceIte,zA,zB,zC,zD,zE,zF,reduceCtorEq]
  exact hK _ _ ⟨hR, rfl⟩
 ·have hR := Qv.of (ok2 := false) SK SL bK jk (by rw [Hm]; rfl)
  simp only [BP,T5,bE,go_sem,reduceIte,zA,zB,zC,zD,zE,zF,reduceCtorEq]
  exact hK _ _ ⟨hR, rfl⟩
theorem Bg (s : ByteArray) (hs : s.size ≤ 1073741824) (a a0 : Nat) (e : Int) (ha : a ≤ s.size) : ∃ r_, (fun w => w = Mp s a) r_ ∧ aT Tryz.prog 100 [.ptr 0 0, num a] ([.box [str s, num a0, num e]]) r_ ([.box [str s, num a0, num e]]) := by
 refine E9 tt_ok [] 42 [.tmp 4, .tmp 5, .tmp 6] (fn := Tryz.f100) Tryz.func100 rfl Tryz.call100 ⟨rfl, rfl, by simp⟩ fun K hK => ?_
 have fL : Tryz.prog.underlying 9 = some .string := by kernel_rfl
 have sl : ∀ (a : ByteArray) (ty : TypeId), cI Tryz.prog (Builtin.len_ #[9] ty) [.sc (.string a)] = some (num a.size) := fun a ty => ct (P := Tryz.prog) (tt := tt) (T := 9) a fL ty
 simp only [sl,go_sem,reduceIte,zA,zB,zC,zD,zE,zF,reduceCtorEq]
 refine cS (wC s hs a a0 e ha) ?_
 rintro _ ⟨n, j, ok, rfl, SL, bK, jk⟩
 simp only [sl,go_sem,reduceIte,zA,zB,zC,zD,zE,zF,reduceCtorEq]
 refine aN (fun yK => ?_) (fun yK => ?_)
 ·have O2 : ok = false := by simpa using yK
  have hR : Mp s a = .bP [str ⟨#[]⟩, num 0, bl false] := by
   unfold Mp AM
   cases hr : oM s a with
   | none => rfl
   | some p => rw [O2, hr] at bK; cases bK
  simp only [sl,go_sem,reduceIte,zA,zB,zC,zD,zE,zF,reduceCtorEq]
  exact hK _ _ ⟨hR.symm, rfl⟩
 ·have Mq : ok = true := by simpa using yK
  obtain ⟨n0, j0, hr⟩ : ∃ n0 j0, oM s a = some (n0, j0) := by
   cases hr : oM s a with
   | none => rw [Mq, hr] at bK; cases bK
   | some p => exact ⟨p.1, p.2, rfl⟩
  obtain ⟨rfl, rfl⟩ := jk _ _ hr
  have eO := Bf hr
  have A0 : IntKind.i64.wrap ((s.size : Int) - (j : Int)) = (s.size : Int) - (j : Int) := IntWalk.i64_in _ (by omega)
  simp only [A0,sl,go_sem,reduceIte,zA,zB,zC,zD,zE,zF,reduceCtorEq]
  refine aN (fun tX => ?_) (fun tX => ?_)
  ·have hR : Mp s a = .bP [str ⟨#[]⟩, num 0, bl false] := by
    first
    | exact hR
    | (unfold Mp AM; rw [hr]; dsimp only; rw [if_neg (by have := of_decide_eq_true tX; omega)])
   simp only [A0,sl,go_sem,reduceIte,zA,zB,zC,zD,zE,zF,reduceCtorEq]
   exact hK _ _ ⟨hR.symm, rfl⟩
  ·have hle : n0 ≤ s.size - j := by have := of_decide_eq_false tX; omega
   have hR : Mp s a = .bP [str (s.extract j (j + n0)), num ((j + n0 : Nat) : Int), bl true] := by unfold Mp AM; rw [hr]; dsimp only; rw [if_pos hle]
   have Zd : IntKind.i64.wrap ((j : Int) + (n0 : Int)) = ((j + n0 : Nat) : Int) := by rw [IntWalk.i64_in _ (by omega)]; omega
   have Oz : aS Tryz.prog (fun a l => Instr.sliceAt 9 a (some l) (some (.int .i64 (((j + n0 : Nat) : Int)))) none) (.sc (.string s)) (.sc (.int .i64 ((j : Int)))) = some (.sc (.string (s.extract ((j : Int) : Int).toNat (((j + n0 : Nat) : Int) : Int).toNat))) := Dz (P := Tryz.prog) (tt := tt) (mem := []) (T := 9) s fL .i64 .i64 ((j : Int)) (((j + n0 : Nat) : Int)) (by omega) (by omega) (by omega)
   rw [Int.toNat_natCast, Int.toNat_natCast] at Oz
   simp only [A0,Zd,Oz,bw,sl,go_sem,reduceIte,zA,zB,zC,zD,zE,zF,reduceCtorEq]
   exact hK _ _ ⟨hR.symm, rfl⟩
theorem Kx (s : ByteArray) (hs : s.size ≤ 1073741824) (a a0 : Nat) (e : Int) (ha : a ≤ s.size) (M : List aw) (k : Nat) (hk : M[k]? = some (.box [str s, num a0, num e])) : ∃ r_, Qv s a r_ ∧ aT Tryz.prog 105 [.ptr k 0, num a] M r_ M := by
 obtain ⟨r, hr, h⟩ := wC s hs a a0 e ha
 have tF := hr
 obtain ⟨n, j, ok, rfl, -⟩ := tF
 have h3 := hX h M k (by simp [ai]) (by simp [aB, ai]) (by simp [ai, dk]) (by simp [aB, ai]) (fun σ => by simp [cq, cb, bo]) (fun σ => by simp [cq, cb, bo]) hk
 rw [eS hk] at h3
 exact ⟨_, hr, by simpa [cb, bo] using h3⟩
def kP (s : ByteArray) (a : Nat) (e : Int) : Nat × Nat × Int := if e ≠ 0 then (0, a, e) else match oM s a with | some (n, j) => (n, j, 0) | none => (0, a, 9)
def lH (s : ByteArray) (a : Nat) (e : Int) : ByteArray × Nat × Int := if e ≠ 0 then (⟨#[]⟩, a, e) else match AM s a with | some (t, j) => (t, j, 0) | none => (⟨#[]⟩, a, 9)
def qG (fp : Int) (s : ByteArray) (a : Nat) (e : Int) : Nat × Nat × Int := if e ≠ 0 then (0, a, e) else match oM s a with | some (n, j) => if (n : Int) ≤ fp then (n, j, 0) else (0, a, 9) | none => (0, a, 9)
def Wg (fp : Int) (s : ByteArray) (a : Nat) (r : V) : Prop := ∃ (n : Int) (j : Nat) (ok : Bool), r = .bP [num n, num j, bl ok] ∧ (ok = match oM s a with | some (n', _) => decide ((n' : Int) ≤ fp) | none => false) ∧ ∀ n' k, oM s a = some (n', k) → n = n' ∧ j = k
theorem Ek (s : ByteArray) (hs : s.size ≤ 1073741824) (fp : Int) (a a0 : Nat) (e : Int) (ha : a ≤ s.size) : ∃ r_, Wg fp s a r_ ∧ aT Tryz.prog 106 [num a, .ptr 1 0, .ptr 2 0] ([.box [str s, num a0, num e], .box [.ptr 0 0], .box [num fp]]) r_ ([.box [str s, num a0, num e], .box [.ptr 0 0], .box [num fp]]) := by
 refine E9 tt_ok [] 25 [.tmp 4, .tmp 5, .tmp 6] (fn := Tryz.f106) Tryz.func106 rfl Tryz.call106 ⟨rfl, rfl, by simp⟩ fun K hK => ?_
 simp only [go_sem,reduceIte,zA,zB,zC,zD,zE,zF,reduceCtorEq]
 refine cS (Kx s hs a a0 e ha _ 0 rfl) ?_
 rintro _ ⟨n, j, ok, rfl, SL, bK, jk⟩
 simp only [go_sem,reduceIte,zA,zB,zC,zD,zE,zF,reduceCtorEq]
 refine bu tt_ok aG [⟨.n, 0, [], [], []⟩, ⟨.n, 0, [], [], []⟩, ⟨.n, 0, [], [], []⟩, ⟨.n, 0, [], [], []⟩, ⟨.n, 0, [], [], []⟩, ⟨.r, 0, [], [], []⟩, ⟨.n, 0, [], [], []⟩, ⟨.n, 0, [], [], []⟩, ⟨.n, 0, [], [], []⟩, ⟨.n, 0, [], [], []⟩, ⟨.n, 0, [], [], []⟩] 0 (by kernel_rfl) ?_
 simp only [go_sem,reduceIte,zA,zB,zC,zD,zE,zF,reduceCtorEq]
 refine aN (fun sT => ?_) (fun sT => ?_)
 ·have hR : Wg fp s a (.bP [num n, num j, bl (decide (n ≤ fp))]) := by
   refine ⟨_, _, _, rfl, ?_, jk⟩
   cases hr : oM s a with
   | none => rw [hr] at bK; rw [bK] at sT; cases sT
   | some p => obtain ⟨n0, j0⟩ := p; obtain ⟨rfl, rfl⟩ := jk _ _ hr; rfl
  simp only [go_sem,reduceIte,zA,zB,zC,zD,zE,zF,reduceCtorEq]
  exact hK _ _ ⟨hR, rfl⟩
 ·have hR : Wg fp s a (.bP [num n, num j, bl false]) := by
   refine ⟨_, _, _, rfl, ?_, jk⟩
   cases hr : oM s a with
   | none => rfl
   | some p => rw [hr] at bK; rw [bK] at sT; cases sT
  simp only [go_sem,reduceIte,zA,zB,zC,zD,zE,zF,reduceCtorEq]
  exact hK _ _ ⟨hR, rfl⟩
theorem Hn (s : ByteArray) (hs : s.size ≤ 1073741824) (a : Nat) (e : Int) (ha : a ≤ s.size) : ∃ r_ m_, (fun r m => r = num (kP s a e).1 ∧ m = [.box [str s, num (kP s a e).2.1, num (kP s a e).2.2]]) r_ m_ ∧ aT Tryz.prog 104 [.ptr 0 0, .fM (.func 105) [.ptr 0 0] []] ([.box [str s, num a, num e]]) r_ m_ := by
 refine E8 tt_ok [] 36 [.tmp 4] (1) (by simp) (fn := Tryz.f104) Tryz.func104 rfl Tryz.call104 ⟨rfl, rfl, by simp⟩ fun K hK => ?_
 obtain ⟨σ, hσ⟩ : ∃ x, x = kP s a e := ⟨_, rfl⟩
 rw [← hσ] at hK
 simp only [go_sem,reduceIte,zA,zB,zC,zD,zE,zF,reduceCtorEq]
 refine aN (fun lD => ?_) (fun lD => ?_)
 ·have he : e ≠ 0 := by simpa using lD
  have gE : σ = (0, a, e) := by rw [hσ]; unfold kP; rw [if_pos he]
  subst gE
  simp only [go_sem,reduceIte,zA,zB,zC,zD,zE,zF,reduceCtorEq]
  exact hK _ _ ⟨rfl, rfl⟩
 ·have he : e = 0 := by simpa using lD
  subst he
  simp only [go_sem,reduceIte,zA,zB,zC,zD,zE,zF,reduceCtorEq]
  refine cS (wC s hs a a 0 ha) ?_
  rintro _ ⟨n, j, ok, rfl, SL, bK, jk⟩
  simp only [go_sem,reduceIte,zA,zB,zC,zD,zE,zF,reduceCtorEq]
  refine aN (fun gh => ?_) (fun gh => ?_)
  ·have O2 : ok = false := by simpa using gh
   have hr : oM s a = none := by
    cases hr : oM s a with
    | none => rfl
    | some p => rw [O2, hr] at bK; cases bK
   have gE : σ = (0, a, 9) := by rw [hσ]; unfold kP; rw [if_neg (by simp), hr]
   subst gE
   simp only [go_sem,reduceIte,zA,zB,zC,zD,zE,zF,reduceCtorEq]
   exact hK _ _ ⟨rfl, rfl⟩
  ·have Mq : ok = true := by simpa using gh
   obtain ⟨n0, j0, hr⟩ : ∃ n0 j0, oM s a = some (n0, j0) := by
    cases hr : oM s a with
    | none => rw [Mq, hr] at bK; cases bK
    | some p => exact ⟨p.1, p.2, rfl⟩
   obtain ⟨rfl, rfl⟩ := jk _ _ hr
   have gE : σ = (n0, j, 0) := by rw [hσ]; unfold kP; rw [if_neg (by simp), hr]
   subst gE
   simp only [go_sem,reduceIte,zA,zB,zC,zD,zE,zF,reduceCtorEq]
   exact hK _ _ ⟨rfl, rfl⟩
theorem Ho (s : ByteArray) (hs : s.size ≤ 1073741824) (fp : Int) (a : Nat) (e : Int) (ha : a ≤ s.size) : ∃ r_ m_, (fun r m => r = num (qG fp s a e).1 ∧ m = [.box [str s, num (qG fp s a e).2.1, num (qG fp s a e).2.2], .box [.ptr 0 0], .box [num fp]]) r_ m_ ∧ aT Tryz.prog 104 [.ptr 0 0, .fM (.func 106) [] [.ptr 1 0, .ptr 2 0]] ([.box [str s, num a, num e], .box [.ptr 0 0], .box [num fp]]) r_ m_ := by
 refine E8 tt_ok [] 36 [.tmp 4] (3) (by simp) (fn := Tryz.f104) Tryz.func104 rfl Tryz.call104 ⟨rfl, rfl, by simp⟩ fun K hK => ?_
 obtain ⟨σ, hσ⟩ : ∃ x, x = qG fp s a e := ⟨_, rfl⟩
 rw [← hσ] at hK
 simp only [go_sem,reduceIte,zA,zB,zC,zD,zE,zF,reduceCtorEq]
 refine aN (fun lD => ?_) (fun lD => ?_)
 ·have he : e ≠ 0 := by simpa using lD
  have gE : σ = (0, a, e) := by rw [hσ]; unfold qG; rw [if_pos he]
  subst gE
  simp only [go_sem,reduceIte,zA,zB,zC,zD,zE,zF,reduceCtorEq]
  exact hK _ _ ⟨rfl, rfl⟩
 ·have he : e = 0 := by simpa using lD
  subst he
  simp only [go_sem,reduceIte,zA,zB,zC,zD,zE,zF,reduceCtorEq]
  refine cS (Ek s hs fp a a 0 ha) ?_
  rintro _ ⟨n, j, ok, rfl, bK, jk⟩
  simp only [go_sem,reduceIte,zA,zB,zC,zD,zE,zF,reduceCtorEq]
  refine aN (fun gh => ?_) (fun gh => ?_)
  ·have O2 : ok = false := by simpa using gh
   have gE : σ = (0, a, 9) := by
    rw [hσ]; unfold qG; rw [if_neg (by simp)]
    cases hr : oM s a with
    | none => rfl
    | some p =>
     obtain ⟨n0, j0⟩ := p
     rw [O2, hr] at bK
     exact if_neg (of_decide_eq_false bK.symm)
   subst gE
   simp only [go_sem,reduceIte,zA,zB,zC,zD,zE,zF,reduceCtorEq]
   exact hK _ _ ⟨rfl, rfl⟩
  ·have Mq : ok = true := by simpa using gh
   obtain ⟨n0, j0, hr⟩ : ∃ n0 j0, oM s a = some (n0, j0) := by
    cases hr : oM s a with
    | none => rw [Mq, hr] at bK; cases bK
    | some p => exact ⟨p.1, p.2, rfl⟩
   obtain ⟨rfl, rfl⟩ := jk _ _ hr
   rw [Mq, hr] at bK
   have gE : σ = (n0, j, 0) := by rw [hσ]; unfold qG; rw [if_neg (by simp), hr]; exact if_pos (of_decide_eq_true bK.symm)
   subst gE
   simp only [go_sem,reduceIte,zA,zB,zC,zD,zE,zF,reduceCtorEq]
   exact hK _ _ ⟨rfl, rfl⟩
theorem SM (s : ByteArray) (hs : s.size ≤ 1073741824) (a a0 : Nat) (e : Int) (ha : a ≤ s.size) : ∃ r_, (∃ (t : ByteArray) (j : Nat) (ok : Bool), r_ = .bP [str t, num j, bl ok] ∧ (ok = true → AM s a = some (t, j)) ∧ (ok = false → AM s a = none)) ∧ aT Tryz.prog 100 [.ptr 0 0, num a] [.box [str s, num a0, num e]] r_ [.box [str s, num a0, num e]] := by
 obtain ⟨r, rfl, h⟩ := Bg s hs a a0 e ha
 refine ⟨_, ?_, h⟩
 unfold Mp
 cases hr : AM s a with
 | none => exact ⟨_, 0, _, rfl, (fun h => by cases h), fun _ => rfl⟩
 | some p => obtain ⟨t, j⟩ := p; exact ⟨_, _, _, rfl, (fun _ => rfl), fun h => by cases h⟩
theorem Hp (s : ByteArray) (hs : s.size ≤ 1073741824) (a : Nat) (e : Int) (ha : a ≤ s.size) : ∃ r_ m_, (fun r m => r = str (lH s a e).1 ∧ m = [.box [str s, num (lH s a e).2.1, num (lH s a e).2.2]]) r_ m_ ∧ aT Tryz.prog 99 [.ptr 0 0, .fM (.func 100) [.ptr 0 0] []] ([.box [str s, num a, num e]]) r_ m_ := by
 refine E8 tt_ok [] 36 [.tmp 4] (1) (by simp) (fn := Tryz.f99) Tryz.func99 rfl Tryz.call99 ⟨rfl, rfl, by simp⟩ fun K hK => ?_
 obtain ⟨σ, hσ⟩ : ∃ x, x = lH s a e := ⟨_, rfl⟩
 rw [← hσ] at hK
 simp only [go_sem,reduceIte,zA,zB,zC,zD,zE,zF,reduceCtorEq]
 refine aN (fun lD => ?_) (fun lD => ?_)
 ·have he : e ≠ 0 := by simpa using lD
  have gE : σ = (⟨#[]⟩, a, e) := by rw [hσ]; unfold lH; rw [if_pos he]
  subst gE
  simp only [go_sem,reduceIte,zA,zB,zC,zD,zE,zF,reduceCtorEq]
  exact hK _ _ ⟨rfl, rfl⟩
 ·have he : e = 0 := by simpa using lD
  subst he
  simp only [go_sem,reduceIte,zA,zB,zC,zD,zE,zF,reduceCtorEq]
  refine cS (SM s hs a a 0 ha) ?_
  rintro _ ⟨t, j, ok, rfl, bK, dV⟩
  simp only [go_sem,reduceIte,zA,zB,zC,zD,zE,zF,reduceCtorEq]
  refine aN (fun gh => ?_) (fun gh => ?_)
  ·have O2 : ok = false := by simpa using gh
   have hr := dV O2
   have gE : σ = (⟨#[]⟩, a, 9) := by rw [hσ]; unfold lH; rw [if_neg (by simp), hr]
   subst gE
   simp only [go_sem,reduceIte,zA,zB,zC,zD,zE,zF,reduceCtorEq]
   exact hK _ _ ⟨rfl, rfl⟩
  ·have Mq : ok = true := by simpa using gh
   have hr := bK Mq
   have gE : σ = (t, j, 0) := by rw [hσ]; unfold lH; rw [if_neg (by simp), hr]
   subst gE
   simp only [go_sem,reduceIte,zA,zB,zC,zD,zE,zF,reduceCtorEq]
   exact hK _ _ ⟨rfl, rfl⟩
end Go.Proofs.YtnfeacnbgbggfaaGreatDoor
end

section
namespace Go.Proofs.YtnfeacnbgbggfaaGreatDoor
open Go.Eng
open Nat renaming reduceAdd → zA, reduceLT → zB, reduceLeDiff → zC, reduceMul → zD, reduceEqDiff → zE, reduceSub → zF
variable [aE]
set_option maxHeartbeats 4000000
set_option maxRecDepth 100000
def pK (s : ByteArray) (a : Nat) (e : Int) : Int := if e = 0 ∧ a < s.size then 9 else e
theorem Hq (s : ByteArray) (hs : s.size ≤ 1073741824) (a : Nat) (e : Int) (ha : a ≤ s.size) : ∃ r_ m_, (fun r m => r = str (lH s a e).1 ∧ m = [.box [str s, num (lH s a e).2.1, num (lH s a e).2.2]]) r_ m_ ∧ aT Tryz.prog 64 [.ptr 0 0] ([.box [str s, num a, num e]]) r_ m_ := by
 refine E8 tt_ok [] 7 [.tmp 2] (1) (by simp) (fn := Tryz.f64) Tryz.func64 rfl Tryz.call64 ⟨rfl, rfl, by simp⟩ fun K hK => ?_
 simp only [go_sem,reduceIte,zA,zB,zC,zD,zE,zF,reduceCtorEq]
 refine cW (Hp s hs a e ha) ?_
 rintro _ _ ⟨rfl, rfl⟩
 simp only [go_sem,reduceIte,zA,zB,zC,zD,zE,zF,reduceCtorEq]
 exact hK _ _ ⟨rfl, rfl⟩
theorem Hr (s : ByteArray) (hs : s.size ≤ 1073741824) (a : Nat) (e : Int) (ha : a ≤ s.size) : ∃ r_ m_, (fun r m => r = num (kP s a e).1 ∧ m = [.box [str s, num (kP s a e).2.1, num (kP s a e).2.2]]) r_ m_ ∧ aT Tryz.prog 66 [.ptr 0 0] ([.box [str s, num a, num e]]) r_ m_ := by
 refine E8 tt_ok [] 7 [.tmp 2] (1) (by simp) (fn := Tryz.f66) Tryz.func66 rfl Tryz.call66 ⟨rfl, rfl, by simp⟩ fun K hK => ?_
 simp only [go_sem,reduceIte,zA,zB,zC,zD,zE,zF,reduceCtorEq]
 refine cW (Hn s hs a e ha) ?_
 rintro _ _ ⟨rfl, rfl⟩
 simp only [go_sem,reduceIte,zA,zB,zC,zD,zE,zF,reduceCtorEq]
 exact hK _ _ ⟨rfl, rfl⟩
theorem El (s : ByteArray) (hs : s.size ≤ 1073741824) (fp : Int) (a : Nat) (e : Int) (ha : a ≤ s.size) : ∃ r_ m_, (fun r m => r = num (qG fp s a e).1 ∧ m = [.box [str s, num (qG fp s a e).2.1, num (qG fp s a e).2.2]]) r_ m_ ∧ aT Tryz.prog 67 [.ptr 0 0, num fp] ([.box [str s, num a, num e]]) r_ m_ := by
 refine E8 tt_ok [] 8 [.tmp 4] (1) (by simp) (fn := Tryz.f67) Tryz.func67 rfl Tryz.call67 ⟨rfl, rfl, by simp⟩ fun K hK => ?_
 simp only [go_sem,reduceIte,zA,zB,zC,zD,zE,zF,reduceCtorEq]
 refine cW (Ho s hs fp a e ha) ?_
 rintro _ _ ⟨rfl, rfl⟩
 simp only [go_sem,reduceIte,zA,zB,zC,zD,zE,zF,reduceCtorEq]
 exact hK _ _ ⟨rfl, rfl⟩
theorem lI (s : ByteArray) (hs : s.size ≤ 1073741824) (a : Nat) (e : Int) (ha : a ≤ s.size) (M : List aw) (k : Nat) (hk : M[k]? = some (.box [str s, num a, num e])) :
  ∃ r_ m_, (fun r m => r = str (lH s a e).1 ∧ m = M.set k (.box [str s, num (lH s a e).2.1, num (lH s a e).2.2])) r_ m_ ∧ aT Tryz.prog 64 [.ptr k 0] M r_ m_ := by
 obtain ⟨r, m, ⟨rfl, rfl⟩, h⟩ := Hq s hs a e ha
 have h3 := hX h M k (by simp [ai]) (by simp [aB, ai]) (by simp [ai]) (by simp [aB, ai]) (fun σ => by simp [cq, cb, bo]) (fun σ => by simp [cq, cb, bo]) hk
 exact ⟨_, _, ⟨rfl, rfl⟩, by simpa [cb, bo] using h3⟩
theorem s8 (s : ByteArray) (hs : s.size ≤ 1073741824) (a : Nat) (e : Int) (ha : a ≤ s.size) (M : List aw) (k : Nat) (hk : M[k]? = some (.box [str s, num a, num e])) :
  ∃ r_ m_, (fun r m => r = num (kP s a e).1 ∧ m = M.set k (.box [str s, num (kP s a e).2.1, num (kP s a e).2.2])) r_ m_ ∧ aT Tryz.prog 66 [.ptr k 0] M r_ m_ := by
 obtain ⟨r, m, ⟨rfl, rfl⟩, h⟩ := Hr s hs a e ha
 have h3 := hX h M k (by simp [ai]) (by simp [aB, ai]) (by simp [ai]) (by simp [aB, ai]) (fun σ => by simp [cq, cb, bo]) (fun σ => by simp [cq, cb, bo]) hk
 exact ⟨_, _, ⟨rfl, rfl⟩, by simpa [cb, bo] using h3⟩
theorem s9 (s : ByteArray) (hs : s.size ≤ 1073741824) (a : Nat) (e : Int) (ha : a ≤ s.size) (k : Nat) :
  ∃ r_ B, (fun r B => r = num (kP s a e).1 ∧ B = .box [str s, num (kP s a e).2.1, num (kP s a e).2.2]) r_ B ∧ B.aA = 0 ∧ ∀ M : List aw, M[k]? = some (.box [str s, num a, num e]) → aT Tryz.prog 66 [.ptr k 0] M r_ (M.set k B) :=
 ⟨_, _, ⟨rfl, rfl⟩, rfl, fun M hk => by obtain ⟨r, m, ⟨rfl, rfl⟩, h⟩ := s8 s hs a e ha M k hk; exact h⟩
theorem pL (s : ByteArray) (hs : s.size ≤ 1073741824) (fp : Int) (a : Nat) (e : Int) (ha : a ≤ s.size) (M : List aw) (k : Nat) (hk : M[k]? = some (.box [str s, num a, num e])) :
  ∃ r_ m_, (fun r m => r = num (qG fp s a e).1 ∧ m = M.set k (.box [str s, num (qG fp s a e).2.1, num (qG fp s a e).2.2])) r_ m_ ∧ aT Tryz.prog 67 [.ptr k 0, num fp] M r_ m_ := by
 obtain ⟨r, m, ⟨rfl, rfl⟩, h⟩ := El s hs fp a e ha
 have h3 := hX h M k (by simp [ai]) (by simp [aB, ai]) (by simp [ai]) (by simp [aB, ai]) (fun σ => by simp [cq, cb, bo]) (fun σ => by simp [cq, cb, bo]) hk
 exact ⟨_, _, ⟨rfl, rfl⟩, by simpa [cb, bo] using h3⟩
theorem Em (s : ByteArray) (hs : s.size ≤ 1073741824) (a : Nat) (e : Int) : ∃ r_, (fun w => w = num e) r_ ∧ aT Tryz.prog 68 [.ptr 0 0] ([.box [str s, num a, num e]]) r_ ([.box [str s, num a, num e]]) := by
 refine E9 tt_ok [] 7 [.tmp 2] (fn := Tryz.f68) Tryz.func68 rfl Tryz.call68 ⟨rfl, rfl, by simp⟩ fun K hK => ?_
 simp only [go_sem,reduceIte,zA,zB,zC,zD,zE,zF,reduceCtorEq]
 exact hK _ _ ⟨rfl, rfl⟩
theorem Ky (s : ByteArray) (hs : s.size ≤ 1073741824) (a : Nat) (e : Int) : ∃ r_, (fun w => w = num (pK s a e)) r_ ∧ aT Tryz.prog 69 [.ptr 0 0] ([.box [str s, num a, num e]]) r_ ([.box [str s, num a, num e]]) := by
 refine E9 tt_ok [] 24 [.tmp 2] (fn := Tryz.f69) Tryz.func69 rfl Tryz.call69 ⟨rfl, rfl, by simp⟩ fun K hK => ?_
 have fL : Tryz.prog.underlying 9 = some .string := by kernel_rfl
 have sl : ∀ (a : ByteArray) (ty : TypeId), cI Tryz.prog (Builtin.len_ #[9] ty) [.sc (.string a)] = some (num a.size) := fun a ty => ct (P := Tryz.prog) (tt := tt) (T := 9) a fL ty
 simp only [sl,go_sem,reduceIte,zA,zB,zC,zD,zE,zF,reduceCtorEq]
 refine bu tt_ok aG [⟨.n, 0, [], [], []⟩, ⟨.n, 0, [], [], []⟩, ⟨.n, 0, [], [], []⟩, ⟨.r, 0, [], [], []⟩, ⟨.n, 0, [], [], []⟩, ⟨.n, 0, [], [], []⟩, ⟨.n, 0, [], [], []⟩, ⟨.n, 0, [], [], []⟩, ⟨.n, 0, [], [], []⟩, ⟨.r, 0, [], [], []⟩, ⟨.n, 0, [], [], []⟩, ⟨.n, 0, [], [], []⟩, ⟨.n, 0, [], [], []⟩, ⟨.r, 0, [], [], []⟩, ⟨.n, 0, [], [], []⟩, ⟨.n, 0, [], [], []⟩, ⟨.n, 0, [], [], []⟩] 0 (by kernel_rfl) ?_
 simp only [sl,go_sem,reduceIte,zA,zB,zC,zD,zE,zF,reduceCtorEq]
 refine aN (fun ta => ?_) (fun ta => ?_)
 ·have he : e = 0 := by simpa using ta
  simp only [sl,go_sem,reduceIte,zA,zB,zC,zD,zE,zF,reduceCtorEq]
  refine aN (fun nt => ?_) (fun nt => ?_)
  ·have hR : (9 : Int) = pK s a e := by unfold pK; rw [if_pos ⟨he, by have := of_decide_eq_true nt; omega⟩]
   simp only [sl,go_sem,reduceIte,zA,zB,zC,zD,zE,zF,reduceCtorEq]
   exact hK _ _ ⟨congrArg num hR, rfl⟩
  ·have hR : e = pK s a e := by first | exact hR | (unfold pK; rw [if_neg (fun h => by have := of_decide_eq_false nt; omega)])
   simp only [sl,go_sem,reduceIte,zA,zB,zC,zD,zE,zF,reduceCtorEq]
   exact hK _ _ ⟨congrArg num hR, rfl⟩
 ·have he : ¬ e = 0 := by simpa using ta
  have hR : e = pK s a e := by unfold pK; rw [if_neg (by simp [he])]
  simp only [sl,go_sem,reduceIte,zA,zB,zC,zD,zE,zF,reduceCtorEq]
  exact hK _ _ ⟨congrArg num hR, rfl⟩
theorem wD (s : ByteArray) : ∃ r_ m_, (fun r m => r = .ptr 0 0 ∧ m = [.box [str s, num (0 : Nat), num 0]]) r_ m_ ∧ aT Tryz.prog 63 [str s] ([]) r_ m_ := by
 refine E8 tt_ok [] 6 [.tmp 2] (1) (by decide) (fn := Tryz.f63) Tryz.func63 rfl Tryz.call63 ⟨rfl, rfl, by simp⟩ fun K hK => ?_
 simp only [go_sem,reduceIte,zA,zB,zC,zD,zE,zF,reduceCtorEq]
 exact hK _ _ ⟨rfl, rfl⟩
theorem En (s : ByteArray) (hs : s.size ≤ 1073741824) (a : Nat) (e : Int) (M : List aw) (k : Nat) (hk : M[k]? = some (.box [str s, num a, num e])) : ∃ r_, (fun w => w = num e) r_ ∧ aT Tryz.prog 68 [.ptr k 0] M r_ M := by
 obtain ⟨r, rfl, h⟩ := Em s hs a e
 have h3 := hX h M k (by simp [ai]) (by simp [aB, ai]) (by simp [ai]) (by simp [aB, ai]) (fun σ => by simp [cq, cb, bo]) (fun σ => by simp [cq, cb, bo]) hk
 rw [eS hk] at h3
 exact ⟨_, rfl, by simpa [cb, bo] using h3⟩
theorem Kz (s : ByteArray) (hs : s.size ≤ 1073741824) (a : Nat) (e : Int) (M : List aw) (k : Nat) (hk : M[k]? = some (.box [str s, num a, num e])) : ∃ r_, (fun w => w = num (pK s a e)) r_ ∧ aT Tryz.prog 69 [.ptr k 0] M r_ M := by
 obtain ⟨r, rfl, h⟩ := Ky s hs a e
 have h3 := hX h M k (by simp [ai]) (by simp [aB, ai]) (by simp [ai]) (by simp [aB, ai]) (fun σ => by simp [cq, cb, bo]) (fun σ => by simp [cq, cb, bo]) hk
 rw [eS hk] at h3
 exact ⟨_, rfl, by simpa [cb, bo] using h3⟩
theorem wE (s : ByteArray) (M : List aw) : ∃ r_ m_, (fun r m => r = .ptr M.length 0 ∧ m = M ++ [.box [str s, num (0 : Nat), num 0]]) r_ m_ ∧ aT Tryz.prog 63 [str s] M r_ m_ := by
 obtain ⟨r, m, ⟨rfl, rfl⟩, h⟩ := wD s
 have h2 := h.ym M (fun j => M.length + j) 0 rfl (by simp [ai]) rfl (by simp [ai]) (by simp [aB, ai]) (Nat.zero_le _) (fun i B hi => by simp at hi) (fun i j hi => by omega) (fun j _ => by omega)
 refine ⟨_, _, ⟨rfl, rfl⟩, ?_⟩
 simpa [cb, bo, cq, mz, fX] using h2
end Go.Proofs.YtnfeacnbgbggfaaGreatDoor
end

section
namespace Go.Proofs.YtnfeacnbgbggfaaGreatDoor
open Go.Eng
open Nat renaming reduceAdd → zA, reduceLT → zB, reduceLeDiff → zC, reduceMul → zD, reduceEqDiff → zE, reduceSub → zF
variable [aE]
set_option maxHeartbeats 4000000
set_option maxRecDepth 100000
theorem uU (hG : aE.g = some 0) (l : List Rl) (hb : w6 l) (rows : List V) : ∃ r_, (fun w => w = num (ey l)) r_ ∧ aQ Tryz.prog 22 [.agg [bh l, .slice rows]] r_ := s4 hG l rows hb
theorem Bh (r : Rl) : ey [r] = gi r := by
 unfold ey
 rw [if_neg (by simp)]
 unfold c5
 split
 ·rfl
 ·rename_i h; have h0 : gi r = 0 := by simpa using h
  simp [c5, h0]
theorem Eo {P : bF → Prop} (hP : ∀ y z : bF, P y → P z → P ⟨y.lo, max y.hi z.hi⟩) {o : List bF} {x : bF} (ho : ∀ y ∈ o, P y) (hx : P x) : ∀ y ∈ dj o x, P y := by
 intro y hy
 unfold dj at hy
 split at hy
 ·rename_i z hz
  have Ze := List.mem_of_getLast? hz
  split at hy
  ·rcases List.mem_append.1 hy with h | h
   ·exact ho y (List.dropLast_subset _ h)
   ·rw [List.mem_singleton] at h; subst h; exact hP z x (ho z Ze) hx
  ·rcases List.mem_append.1 hy with h | h
   ·exact ho y h
   ·rw [List.mem_singleton] at h; subst h; exact hx
 ·rw [List.mem_singleton] at hy; subst hy; exact hx
def nA (x : bF) : Prop := 0 ≤ x.lo ∧ x.lo < x.hi ∧ x.hi ≤ 1000000
theorem Ep (s : List bF) : ∀ x ∈ canon s, nA x := by
 have h1 : ∀ (l o : List bF), (∀ y ∈ l, nA y) → (∀ y ∈ o, nA y) → ∀ y ∈ l.foldl dj o, nA y := by
  intro l
  induction l with
  | nil => intro o _ ho; exact ho
  | cons a t ih =>
   intro o hl ho
   rw [List.foldl_cons]
   exact ih _ (fun y hy => hl y (by simp [hy])) (Eo (fun y z hy hz => by unfold nA at *; dsimp only; omega) ho (hl a (by simp)))
 unfold canon merge
 refine h1 _ _ (fun y hy => ?_) (fun y hy => by simp at hy)
 have h2 := (nn (clip s) [] List.Pairwise.nil).2.subset hy
 exact wj y (by simpa using h2)
def Qw (q : Rq) : Prop := bC q.path = 0 ∧ q.set = canon q.set ∧ q.set ≠ []
structure T6 (r : Rl) : Prop where
 path : bC r.path = 0
 mj : r.aA.mj = bN r.path
 aA : r.aA.ok = true
 len : r.reqs.length ≤ 16
 ar : jm r.ar = true
 fY : jm r.fY = true
 ce : jm r.ce = true
 reqs : ∀ q ∈ r.reqs, Qw q
theorem SN {c : Prop} [Decidable c] (h : (if c then (1 : Int) else 0) = 0) : ¬ c := fun hc => by rw [if_pos hc] at h; cases h
theorem uV : ∀ (l : List Rq) (b : Option Rq), eM b l = 0 → ∀ q ∈ l, Qw q
 | [], b, _, q, hq => by simp at hq
 | a :: t, b, h, q, hq => by
  rw [eM] at h
  split at h
  ·rename_i h1; exact absurd h h1
  ·rename_i h1
   rcases List.mem_cons.1 hq with rfl | hq
   ·have h2 : mi q b = 0 := by simpa using h1
    unfold mi at h2
    split at h2
    ·omega
    ·rename_i h3
     have h4 := SN h2
     simp only [Bool.or_eq_true,not_or,decide_eq_true_eq,Bool.not_eq_true',decide_eq_false_iff_not,Classical.not_not] at h4
     exact ⟨by simpa using h3, h4.1.2, fun e => h4.1.1 (by rw [e]; rfl)⟩
   ·exact uV t _ h q hq
theorem Hs {r : Rl} (h : gi r = 0) : T6 r := by
 unfold gi at h
 split at h
 ·omega
 ·rename_i h1
  split at h
  ·omega
  ·rename_i h2
   split at h
   ·rename_i h3; exact absurd h h3
   ·rename_i h3
    split at h
    ·rename_i h4
     have Qe : fo r.reqs = 0 := by simpa using h3
     unfold fo at Qe
     split at Qe
     ·omega
     ·rename_i h5
      simp only [Bool.or_eq_true,not_or,Bool.not_eq_true',Bool.not_eq_false,decide_eq_true_eq] at h2
      simp only [Bool.and_eq_true] at h4
      exact ⟨by simpa using h1, by simpa using h2.2, h2.1, by omega, h4.1, h4.2.1, h4.2.2, uV _ _ Qe⟩
    ·omega
theorem fH {s : ByteArray} (h : jm s = true) : s.size ≤ 32 := by
 unfold jm at h
 simp only [Bool.or_eq_true,decide_eq_true_eq] at h
 omega
theorem ru {v : er} (h : v.ok = true) : (0 ≤ v.mj ∧ v.mj ≤ 999) ∧ (0 ≤ v.mn ∧ v.mn ≤ 999) ∧ 0 ≤ v.pt ∧ v.pt ≤ 999 := by
 unfold er.ok gf at h
 simp only [Bool.and_eq_true,decide_eq_true_eq] at h
 omega
def Er (x : bF) : List UInt8 := mC x.lo ++ mC x.hi
def uW (q : Rq) : List UInt8 := (eT q.path ++ mC (q.set.length : Int)) ++ q.set.flatMap Er
def w7 (r : Rl) : Int := if r.yk = true then 1 else 0
def Fe (r : Rl) : List UInt8 := ((eT r.path ++ (mC r.aA.mn ++ (mC r.aA.pt ++ mC (w7 r)))) ++ (eT r.ar ++ (eT r.fY ++ eT r.ce))) ++ mC (r.reqs.length : Int)
def pM (r : Rl) : List UInt8 := Fe r ++ r.reqs.flatMap uW
def Es (r : Rl) : V := if ey [r] = 0 then .bP [str (bs (pM r)), num 0] else .bP [str (bs []), num (ey [r])]
theorem nB (r : Rl) : 0 ≤ w7 r ∧ w7 r ≤ 1 := by unfold w7; split <;> omega
theorem KA {x : bF} (h : nA x) : (Er x).length ≤ 20 := by
 have h1 := du (n := x.lo) (by unfold nA at h; omega) (by unfold nA at h; omega)
 have h2 := du (n := x.hi) (by unfold nA at h; omega) (by unfold nA at h; omega)
 unfold Er
 simp only [List.length_append]; omega
theorem kz {q : Rq} (h : Qw q) : ∀ x ∈ q.set, nA x := by
 rw [h.2.1]; exact Ep _
theorem wF {l : List bF} (h : ∀ x ∈ l, nA x) : (l.flatMap Er).length ≤ 20 * l.length := fG fun x hx => KA (h x hx)
theorem KB {q : Rq} (h : Qw q) (hb : qD q) : (uW q).length ≤ 22020190 := by
 have h1 := wF (kz h)
 have h2 := du (n := (q.set.length : Int)) (by omega) (by have := hb.2; omega)
 have h3 := kx q.path hb.1
 have h4 := hb.2
 unfold uW
 simp only [List.length_append]
 omega
theorem KC {r : Rl} (h : T6 r) (hb : IS r) : (Fe r).length ≤ 8388608 := by
 have h1 := kx r.path hb.1
 have h2 := kx r.ar (by have := fH h.ar; omega)
 have h3 := kx r.fY (by have := fH h.fY; omega)
 have h4 := kx r.ce (by have := fH h.ce; omega)
 have hv := ru h.aA
 have h5 := du (n := r.aA.mn) (by omega) (by omega)
 have h6 := du (n := r.aA.pt) (by omega) (by omega)
 have h7 := du (n := w7 r) (by have := nB r; omega) (by have := nB r; omega)
 have h8 := du (n := (r.reqs.length : Int)) (by omega) (by have := h.len; omega)
 unfold Fe
 simp only [List.length_append]
 omega
theorem Ht {r : Rl} (h : T6 r) (hb : IS r) (i : Nat) : ((r.reqs.take i).flatMap uW).length ≤ 352323040 := by
 have h1 := fG (g := uW) (l := r.reqs.take i) (k := 22020190) fun q hq => KB (h.reqs q (List.mem_of_mem_take hq)) (hb.2.2 q (List.mem_of_mem_take hq))
 have h2 := h.len
 rw [List.length_take] at h1
 have : min i r.reqs.length ≤ 16 := by omega
 have := Nat.mul_le_mul_left 22020190 this
 omega
theorem yV (hG : aE.g = some 0) (r : Rl) (hb : IS r) : ∃ r_, (fun w => w = Es r) r_ ∧ aQ Tryz.prog 17 [ag r] r_ := by
 refine dZ tt_ok [30000] 89 [.tmp 2, .tmp 3] (fn := Tryz.f17) Tryz.func17 rfl Tryz.call17 ⟨rfl, rfl, by simp⟩ fun K hK => ?_
 simp only [ag,ab,ah]
 have O3 := Bh r
 have O4 : w6 [r] := ⟨by simp, fun x hx => by rw [List.mem_singleton] at hx; exact hx ▸ hb⟩
 have bt : ∀ (mem : List aw) (ks : List (Nat × Nat)) (n : Int), cK mem ks (num n) = mem := fun _ _ _ => rfl
 simp only [List.length_map,bt,List.flatMap_nil,List.append_nil,go_sem,reduceIte,zA,zB,zC,zD,zE,zF,reduceCtorEq]
 refine sq tt_ok [30000] ?_
 simp only [List.length_map,bt,List.flatMap_nil,List.append_nil,go_sem,reduceIte,zA,zB,zC,zD,zE,zF,reduceCtorEq]
 refine cF (by have h := uU hG [r] O4 []; simp only [bh,List.map_cons,List.map_nil,ag,ab,ah] at h; exact h) ?_
 rintro _ rfl
 simp only [List.length_map,bt,List.flatMap_nil,List.append_nil,go_sem,reduceIte,zA,zB,zC,zD,zE,zF,reduceCtorEq]
 refine aN (fun G2 => ?_) (fun G2 => ?_)
 ·have bL : ey [r] ≠ 0 := by simpa using G2
  have au : V.bP [str ⟨#[]⟩, num (ey [r])] = Es r := by unfold Es; rw [if_neg bL]; rfl
  simp only [List.length_map,bt,List.flatMap_nil,List.append_nil,go_sem,reduceIte,zA,zB,zC,zD,zE,zF,reduceCtorEq]
  exact hK _ au
 ·have cV : ey [r] = 0 := by simpa using G2
  have Mr := Hs (O3 ▸ cV)
  have hv := ru Mr.aA
  have Wh := nB r
  have Zf := KC Mr hb
  have UR := Ht Mr hb
  have LH : (eT r.path).length ≤ 8388608 ∧ (mC r.aA.mn).length + ((mC r.aA.pt).length + (mC (w7 r)).length) ≤ 8388608 ∧ (eT r.ar).length + ((eT r.fY).length + (eT r.ce).length) ≤ 8388608 := by
   have h := Zf
   unfold Fe at h
   simp only [List.length_append] at h
   omega
  have Zg : ∀ x ∈ [r.aA.mn, r.aA.pt, w7 r], 0 ≤ x ∧ x < 9223372036854775808 := by intro x hx; simp at hx; rcases hx with rfl | rfl | rfl <;> omega
  have Zh : ∀ x ∈ [r.ar, r.fY, r.ce], x.size ≤ 1048576 := by
   have h1 := fH Mr.ar
   have h2 := fH Mr.fY
   have h3 := fH Mr.ce
   intro x hx; simp at hx; rcases hx with rfl | rfl | rfl <;> omega
  have jb := Mr.len
  have au : V.bP [str (bs (Fe r ++ r.reqs.flatMap uW)), num 0] = Es r := by unfold Es; rw [if_pos cV]; rfl
  simp only [List.length_map,bt,List.flatMap_nil,List.append_nil,go_sem,reduceIte,zA,zB,zC,zD,zE,zF,reduceCtorEq]
  refine cW (s7 [] [r.path] (by simp) (by simp) (by simpa using hb.1) _ 2 3 rfl rfl (by decide)) ?_
  rintro _ _ ⟨rfl, rfl⟩
  try simp only [List.set_cons_zero,List.set_cons_succ]
  simp only [List.length_map,bt,List.flatMap_nil,List.append_nil,go_sem,reduceIte,zA,zB,zC,zD,zE,zF,reduceCtorEq]
  refine Sc tt_ok [30000] [8] 4 [0,1,2,3,4,5,6,7,13,14,15,16,17,18,19,20,21,22,23,24,25] (fun vs => vs = [num (w7 r)]) (fun Z1 cd => ?_) ?_
  ·simp only [List.length_map,bt,List.flatMap_nil,List.append_nil,go_sem,reduceIte,zA,zB,zC,zD,zE,zF,reduceCtorEq]
   refine aN (fun OM => ?_) (fun OM => ?_)
   ·simp only [List.length_map,bt,List.flatMap_nil,List.append_nil,go_sem,reduceIte,zA,zB,zC,zD,zE,zF,reduceCtorEq]
    refine cd _ (Sb (by omega) (by simp only [List.length_map,bt,List.flatMap_nil,List.append_nil,go_sem,reduceIte,zA,zB,zC,zD,zE,zF,reduceCtorEq]) ?_)
    simp only [fh,lk,reduceIte,zE]
    simp_all [w7]
   ·simp only [List.length_map,bt,List.flatMap_nil,List.append_nil,go_sem,reduceIte,zA,zB,zC,zD,zE,zF,reduceCtorEq]
    refine cd _ (Sb (by omega) (by simp only [List.length_map,bt,List.flatMap_nil,List.append_nil,go_sem,reduceIte,zA,zB,zC,zD,zE,zF,reduceCtorEq]) ?_)
    simp only [fh,lk,reduceIte,zE]
    simp_all [w7]
  ·intro vs hJ
   obtain rfl := hJ
   simp only [List.length_map,bt,List.flatMap_nil,List.append_nil,go_sem,reduceIte,zA,zB,zC,zD,zE,zF,reduceCtorEq]
   refine cW (rq (eT r.path) [r.aA.mn, r.aA.pt, w7 r] (by simp) (by (try simp only [List.length_append]); omega) Zg _ 2 4 rfl rfl (by decide)) ?_
   rintro _ _ ⟨rfl, rfl⟩
   try simp only [List.set_cons_zero,List.set_cons_succ]
   simp only [List.length_map,bt,List.flatMap_nil,List.append_nil,go_sem,reduceIte,zA,zB,zC,zD,zE,zF,reduceCtorEq]
   refine cW (s7 (eT r.path ++ (mC r.aA.mn ++ (mC r.aA.pt ++ mC (w7 r)))) [r.ar, r.fY, r.ce] (by simp) (by (try simp only [List.length_append]); omega) Zh _ 2 5 rfl rfl (by decide)) ?_
   rintro _ _ ⟨rfl, rfl⟩
   try simp only [List.set_cons_zero,List.set_cons_succ]
   simp only [List.length_map,bt,List.flatMap_nil,List.append_nil,go_sem,reduceIte,zA,zB,zC,zD,zE,zF,reduceCtorEq]
   refine cW (rq ((eT r.path ++ (mC r.aA.mn ++ (mC r.aA.pt ++ mC (w7 r)))) ++ (eT r.ar ++ (eT r.fY ++ eT r.ce))) [(r.reqs.length : Int)] (by simp) (by (try simp only [List.length_append]); omega) (by simp; omega) _ 2 6 rfl rfl (by decide)) ?_
   rintro _ _ ⟨rfl, rfl⟩
   try simp only [List.set_cons_zero,List.set_cons_succ]
   simp only [List.length_map,bt,List.flatMap_nil,List.append_nil,go_sem,reduceIte,zA,zB,zC,zD,zE,zF,reduceCtorEq]
   refine sq tt_ok [30000] ?_
   simp only [List.length_map,bt,List.flatMap_nil,List.append_nil,go_sem,reduceIte,zA,zB,zC,zD,zE,zF,reduceCtorEq]
   refine cY tt_ok [30000] (fun i : Nat => [(5, .ptr 2 0), (6, .fM (.func 55) [] [.ptr 2 0]), (7, .fM (.func 57) [] [.ptr 2 0]), (55, .slice (r.reqs.map aj)), (56, num r.reqs.length), (57, num i)]) (fun i : Nat => [.box [str r.path, num r.aA.mj, num r.aA.mn, num r.aA.pt, .slice (r.reqs.map aj), str r.ar, str r.fY, str r.ce, bl r.yk], .rows 0 9 [.agg [str r.path, num r.aA.mj, num r.aA.mn, num r.aA.pt, .slice (r.reqs.map aj), str r.ar, str r.fY, str r.ce, bl r.yk]], .box [str (bs (Fe r ++ (r.reqs.take i).flatMap uW))], .rows 0 1 [str r.path], .rows 0 1 [num r.aA.mn, num r.aA.pt, num (w7 r)], .rows 0 1 [str r.ar, str r.fY, str r.ce], .rows 0 1 [num r.reqs.length]]) (fun i => r.reqs.length - i) (fun i => i ≤ r.reqs.length) (0) 7 (bj (by omega) (by simp only [List.length_map,bt,List.flatMap_nil,List.append_nil,List.take_zero,List.flatMap_nil,List.append_nil,Int.cast_ofNat_Int,go_sem,reduceIte,zA,zB,zC,zD,zE,zF,reduceCtorEq] <;> rfl)) (Nat.zero_le _) ?_
   intro i hi
   intro Z2 nw
   simp only [List.length_map,bt,List.flatMap_nil,List.append_nil,go_sem,reduceIte,zA,zB,zC,zD,zE,zF,reduceCtorEq]
   refine aN (fun KD => ?_) (fun KD => ?_)
   ·have az : i < r.reqs.length := by simpa using KD
    rw [KD]
    have cP : (i : Int) < (r.reqs.length : Int) := by omega
    have hw := ay i (by omega)
    obtain ⟨q, hx⟩ : ∃ q, r.reqs[i]? = some q := ⟨_, List.getElem?_eq_getElem az⟩
    have KE := List.mem_of_getElem? hx
    have Fm := hb.2.2 q KE
    have Zi := Mr.reqs q KE
    have tE := kz Zi
    have SI := mm uW hx
    have Zj := UR i
    have hlp := kx q.path Fm.1
    have QS := Fm.2
    have hls := du (n := (q.set.length : Int)) (by omega) (by omega)
    simp only [hw,List.getElem?_map,hx,Option.map_some,aj,al,cP,Int.natCast_nonneg,List.length_map,bt,List.flatMap_nil,List.append_nil,go_sem,reduceIte,zA,zB,zC,zD,zE,zF,reduceCtorEq]
    refine cW (s7 (Fe r ++ (r.reqs.take i).flatMap uW) [q.path] (by simp) (by rw [List.length_append]; omega) (by simpa using Fm.1) _ 2 8 rfl rfl (by decide)) ?_
    rintro _ _ ⟨rfl, rfl⟩
    try simp only [List.set_cons_zero,List.set_cons_succ]
    simp only [hw,List.getElem?_map,hx,Option.map_some,aj,al,cP,Int.natCast_nonneg,List.length_map,bt,List.flatMap_nil,List.append_nil,go_sem,reduceIte,zA,zB,zC,zD,zE,zF,reduceCtorEq]
    refine cW (rq ((Fe r ++ (r.reqs.take i).flatMap uW) ++ eT q.path) [(q.set.length : Int)] (by simp) (by (try simp only [List.length_append]); omega) (by simp; omega) _ 2 9 rfl rfl (by decide)) ?_
    rintro _ _ ⟨rfl, rfl⟩
    try simp only [List.set_cons_zero,List.set_cons_succ]
    simp only [hw,List.getElem?_map,hx,Option.map_some,aj,al,cP,Int.natCast_nonneg,List.length_map,bt,List.flatMap_nil,List.append_nil,go_sem,reduceIte,zA,zB,zC,zD,zE,zF,reduceCtorEq]
    refine cY tt_ok [30000] (fun j : Nat => [(5, .ptr 2 0), (6, .fM (.func 55) [] [.ptr 2 0]), (7, .fM (.func 57) [] [.ptr 2 0]), (55, .slice (r.reqs.map aj)), (56, num r.reqs.length), (57, num i), (73, .slice (q.set.map ak)), (74, num q.set.length), (75, num j)]) (fun j : Nat => [.box [str r.path, num r.aA.mj, num r.aA.mn, num r.aA.pt, .slice (r.reqs.map aj), str r.ar, str r.fY, str r.ce, bl r.yk], .rows 0 9 [.agg [str r.path, num r.aA.mj, num r.aA.mn, num r.aA.pt, .slice (r.reqs.map aj), str r.ar, str r.fY, str r.ce, bl r.yk]], .box [str (bs ((((Fe r ++ (r.reqs.take i).flatMap uW) ++ eT q.path) ++ mC (q.set.length : Int)) ++ (q.set.take j).flatMap Er))], .rows 0 1 [str r.path], .rows 0 1 [num r.aA.mn, num r.aA.pt, num (w7 r)], .rows 0 1 [str r.ar, str r.fY, str r.ce], .rows 0 1 [num r.reqs.length], .box [str q.path, .slice (q.set.map ak)], .rows 0 1 [str q.path], .rows 0 1 [num q.set.length]]) (fun j => q.set.length - j) (fun j => j ≤ q.set.length) (0) 10 (bj (by omega) (by simp only [hw,List.getElem?_map,hx,Option.map_some,aj,al,cP,Int.natCast_nonneg,List.length_map,bt,List.flatMap_nil,List.append_nil,List.take_zero,List.flatMap_nil,List.append_nil,Int.cast_ofNat_Int,go_sem,reduceIte,zA,zB,zC,zD,zE,zF,reduceCtorEq] <;> rfl)) (Nat.zero_le _) ?_
    intro j hj
    intro Z3 wG
    simp only [hw,List.getElem?_map,hx,Option.map_some,aj,al,cP,Int.natCast_nonneg,List.length_map,bt,List.flatMap_nil,List.append_nil,go_sem,reduceIte,zA,zB,zC,zD,zE,zF,reduceCtorEq]
    refine aN (fun KF => ?_) (fun KF => ?_)
    ·have Eh : j < q.set.length := by simpa using KF
     rw [KF]
     have SO : (j : Int) < (q.set.length : Int) := by omega
     have DA := ay j (by omega)
     obtain ⟨x, T7⟩ : ∃ x, q.set[j]? = some x := ⟨_, List.getElem?_eq_getElem Eh⟩
     have IV := tE x (List.mem_of_getElem? T7)
     have Wi := mm Er T7
     have wZ : ∀ y ∈ [x.lo, x.hi], 0 ≤ y ∧ y < 9223372036854775808 := by unfold nA at IV; intro y hy; simp at hy; rcases hy with rfl | rfl <;> omega
     have Zk := wF (l := q.set.take j) fun y hy => tE y (List.mem_of_mem_take hy)
     rw [List.length_take] at Zk
     simp only [hw,List.getElem?_map,hx,Option.map_some,aj,al,cP,Int.natCast_nonneg,DA,List.getElem?_map,T7,Option.map_some,ak,SO,Int.natCast_nonneg,List.length_map,bt,List.flatMap_nil,List.append_nil,go_sem,reduceIte,zA,zB,zC,zD,zE,zF,reduceCtorEq]
     refine cW (rq ((((Fe r ++ (r.reqs.take i).flatMap uW) ++ eT q.path) ++ mC (q.set.length : Int)) ++ (q.set.take j).flatMap Er) [x.lo, x.hi] (by simp) (by (try simp only [List.length_append]); omega) wZ _ 2 11 rfl rfl (by decide)) ?_
     rintro _ _ ⟨rfl, rfl⟩
     try simp only [List.set_cons_zero,List.set_cons_succ]
     simp only [hw,List.getElem?_map,hx,Option.map_some,aj,al,cP,Int.natCast_nonneg,DA,List.getElem?_map,T7,Option.map_some,ak,SO,Int.natCast_nonneg,List.length_map,bt,List.flatMap_nil,List.append_nil,go_sem,reduceIte,zA,zB,zC,zD,zE,zF,reduceCtorEq]
     refine wG _ ⟨j + 1, ?_, ?_, bj (by omega) (by (simp only [Wi,DA,Er,List.append_assoc,go_sem,reduceIte,zA,zB,zC,zD,zE,zF,reduceCtorEq]))⟩
     ·exact Eh
     ·omega
    ·have KG : ¬ j < q.set.length := by simpa using KF
     have qb : j = q.set.length := by omega
     subst qb
     rw [List.take_length]
     simp only [hw,List.getElem?_map,hx,Option.map_some,aj,al,cP,Int.natCast_nonneg,List.length_map,bt,List.flatMap_nil,List.append_nil,go_sem,reduceIte,zA,zB,zC,zD,zE,zF,reduceCtorEq]
     refine nw _ ⟨i + 1, ?_, ?_, bj (by omega) (by (simp only [SI,hw,uW,List.append_assoc,go_sem,reduceIte,zA,zB,zC,zD,zE,zF,reduceCtorEq]))⟩
     ·exact az
     ·omega
   ·have cH : ¬ i < r.reqs.length := by simpa using KD
    have vu : i = r.reqs.length := by omega
    subst vu
    rw [List.take_length]
    simp only [List.length_map,bt,List.flatMap_nil,List.append_nil,go_sem,reduceIte,zA,zB,zC,zD,zE,zF,reduceCtorEq]
    exact hK _ au
end Go.Proofs.YtnfeacnbgbggfaaGreatDoor
end
