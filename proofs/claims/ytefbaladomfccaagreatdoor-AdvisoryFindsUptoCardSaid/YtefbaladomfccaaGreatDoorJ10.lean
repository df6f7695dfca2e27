/-
  CONTRACTS: slices.SortFunc at clipped spans.
  CONTRACTS: Canonical.
  CONTRACTS: names, versions of paths.
  CONTRACTS: paths.
  CONTRACTS: advisories: Check, Concerns.
  READINGS of programs.
  CLOSING: what is common to the laws.
-/
import Derived.Test.YtefbaladomfccaaGreatDoorJ9
import Derived.WalkKit
import Derived.ProofKit
import Derived.OpenShut
import Derived.WideKeyArgs
import Derived.Deep.DeepHandedRow
set_option linter.all false
section
namespace Go.Proofs.YtefbaladomfccaaGreatDoor
open Go.Eng
open Go.Sort (SWO grow flatK HoldsK PermIn SortedIn)
variable [aK]
theorem vf (d : Array QK) (i j : Nat) (hi : i < d.size) (hj : j < 2) : (flatK nS 2 d)[i * 2 + j]! = (nS d[i]!)[j]! := by
 rw [Go.Sort.get_flatK _ _ _ _ (by omega)]
 rw [show (i * 2 + j) / 2 = i by omega, show (i * 2 + j) % 2 = j by omega]
theorem Y9 : ∀ l : List cj, (∀ x ∈ l, 0 ≤ x.lo ∧ x.lo ≤ 1000000) → ∃ d : List QK, d.map Subtype.val = l
 | [], _ => ⟨[], rfl⟩
 | x :: r, h => by
  obtain ⟨d, hd⟩ := Y9 r fun y hy => h y (by simp [hy])
  exact ⟨⟨x, h x (by simp)⟩ :: d, by simp [hd]⟩
theorem BE (m : List aC) (b v : Nat) (l : List cj) (hb : m[b]? = some (.rows v 2 (l.map au))) (h0 : 0 < l.length) (hl : l.length ≤ 1048576) (hC : ∀ x ∈ l, 0 ≤ x.lo ∧ x.lo ≤ 1000000) :
  fm Tryz.prog 122 [.ms b v 0 l.length, .sc (.func (.func 123) #[] #[])] m fun r m' => r = .sc (.tuple #[]) ∧ ∃ l' : List cj, l'.Perm l ∧ gB l' ∧ m' = m.set b (.rows v 2 (l'.map au)) := by
 refine ⟨Tryz.call122, fun E w xs hs hx => ?_⟩
 obtain ⟨x, ys, kG, hr, pb⟩ := hx.of_cons
 obtain ⟨f, zs, KF, WZ, hz⟩ := pb.of_cons
 have D8 := hz.of_nil
 subst D8
 have hf := bS WZ
 subst hf
 obtain rfl : xs = #[x, .func (.func 123) #[] #[]] := by rw [← Array.toArray_toList (xs := xs), kG, KF]
 rcases hs.mem b _ hb with ⟨vW, -⟩ | ⟨gb, T, cs, c, hblk, hh, pC, Gv, eD, hF⟩
 ·rw [List.map_eq_nil_iff] at vW; subst vW; simp at h0
 rw [List.length_map] at Gv
 obtain ⟨cap, rfl⟩ : ∃ cap, x = .slice (some ⟨gb, 0, none⟩) l.length cap := by
  clear pb hx kG eD hl
  generalize l.length = nl at hr h0 Gv ⊢
  cases hr with
  | ms _ _ _ _ _ g' e' c' a cap dt Nd QG LX =>
   rw [hblk] at dt; cases dt
   obtain ⟨rfl, -⟩ := QG rfl
   exact ⟨cap, rfl⟩
  | dg => exact absurd h0 (Nat.lt_irrefl _)
 obtain ⟨dl, hZ⟩ := Y9 l hC
 have kf : ∀ (i : Nat) (u : cj), l[i]? = some u → cs[i * 2]? = some (.int .i64 u.lo) ∧ cs[i * 2 + 1]? = some (.int .i64 u.hi) := fun i u hu => by
  obtain ⟨-, h2⟩ := eD i (au u) (by rw [List.getElem?_map, hu]; rfl)
  constructor
  ·obtain ⟨y, hy, -, vL⟩ := h2 0 (num u.lo) rfl
   rw [bS vL] at hy; exact hy
  ·obtain ⟨y, hy, -, vL⟩ := h2 1 (num u.hi) rfl
   rw [bS vL] at hy; exact hy
 have KX : gb < w.heap.size := (Array.getElem?_eq_some_iff.1 hh).1
 have zj : dl.length = l.length := by rw [← hZ, List.length_map]
 have eC : ∀ i, i < l.length → l[i]? = some (dl.toArray[i]!).1 := fun i hi => by
  have Uy : i < dl.length := by omega
  have e : l[i]? = some (dl[i]).1 := by
   have := congrArg (fun q : List cj => q[i]?) hZ
   simp only [List.getElem?_map,List.getElem?_eq_getElem Uy,Option.map_some] at this
   exact this.symm
  rw [e, getElem!_pos dl.toArray i (by simpa using Uy)]
  simp
 have hH : HoldsK nS 2 w gb 0 dl.toArray := fun t ht => by
  have ht' : t < l.length * 2 := by simpa [zj] using ht
  obtain ⟨i, j, hi, hj, rfl⟩ : ∃ i j, i < l.length ∧ j < 2 ∧ t = i * 2 + j := ⟨t / 2, t % 2, by omega, by omega, by omega⟩
  have hc := kf i _ (eC i hi)
  refine ⟨?_, by simp [World.frozen?, hh]⟩
  rw [gM hh, Nat.zero_add, vf _ _ _ (by simpa [zj] using hi) hj]
  obtain rfl | rfl : j = 0 ∨ j = 1 := by omega
  ·exact hc.1
  ·exact hc.2
 have call := KV gb 0 cap dl.toArray w hH KX (by simp; omega)
 have e1 : dl.toArray.size = l.length := by rw [List.size_toArray, zj]
 rw [e1] at call
 refine call.mono ?_
 rintro e w' ⟨rfl, d', n, os, hp, O0, rfl⟩
 have ni : d'.size = l.length := by rw [hp.1]; simp [zj]
 have lN : (sortWorldK nS 2 w gb 0 n d' os).heap[gb]? = some (.cells (Go.Sort.putCells id 0 (flatK nS 2 d') cs) T (0, 0)) := by
  show (_ ++ os)[gb]? = _
  rw [Array.getElem?_append_left (by simpa [Go.Sort.putRowK] using KX)]
  show ((w.heap.modify gb _))[gb]? = _
  rw [Array.getElem?_modify, if_pos rfl, hh]; rfl
 obtain ⟨h1, h2⟩ := hs.S4 (w' := sortWorldK nS 2 w gb 0 n d' os) (rs' := (d'.toList.map Subtype.val).map au) hb hblk hF rfl rfl rfl (by
   show _ ≤ (_ ++ os).size
   rw [Array.size_append]
   show _ ≤ (w.heap.modify gb _).size + _
   rw [Array.size_modify]; omega) lN (fun k hk bL => by
   show (_ ++ os)[k]? = _
   rw [Array.getElem?_append_left (by simpa [Go.Sort.putRowK] using hk)]
   show ((w.heap.modify gb _))[k]? = _
   rw [Array.getElem?_modify, if_neg (fun e => bL e.symm)]) (by simp [Go.Sort.putCells, pC]) (by simp [ni]; exact Gv) (fun i row hi => by
   rw [List.map_map, List.getElem?_map, Option.map_eq_some_iff] at hi
   obtain ⟨u, hu, rfl⟩ := hi
   have hid : i < d'.size := by simpa using (List.getElem?_eq_some_iff.1 hu).1
   have KY : d'[i]! = u := by
    rw [getElem!_pos d' i hid]
    have := (List.getElem?_eq_some_iff.1 hu).2
    simpa using this
   have key : ∀ j, j < 2 → (Go.Sort.putCells id 0 (flatK nS 2 d') cs)[i * 2 + j]? = some ((nS u)[j]!) := fun j hj => by
    have aL : i * 2 + j < cs.size := by rw [pC]; omega
    unfold Go.Sort.putCells
    rw [Array.getElem?_mapIdx, Array.getElem?_eq_getElem aL, Option.map_some, if_pos ⟨Nat.zero_le _, by simp; omega⟩]
    simp only [id,Nat.sub_zero]
    rw [vf _ _ _ hid hj, KY]
   refine ⟨rfl, fun j cc hj => ?_⟩
   match j, hj with
   | 0, hj => cases hj; exact ⟨.int .i64 u.1.lo, by simpa [nS] using key 0 (by omega), rfl, .sc _ _⟩
   | 1, hj => cases hj; exact ⟨.int .i64 u.1.hi, by simpa [nS] using key 1 (by omega), rfl, .sc _ _⟩
   | j + 2, hj => simp [au, V.cells] at hj)
 refine ⟨E, _, _, _, rfl, ⟨rfl, d'.toList.map Subtype.val, ?_, ?_, rfl⟩, h2, h1, .sc _ _⟩
 ·have := hp.2.2
  rw [← hZ]
  refine List.Perm.map _ ?_
  simpa [ni, zj, Array.extract_eq_self_of_le] using this
 ·refine List.pairwise_iff_getElem.2 fun i j hi hj qW => ?_
  have HL : j < d'.size := by simpa using hj
  have := O0 i j (Nat.zero_le _) qW (by simpa [ni] using HL)
  rw [getElem!_pos d' j HL, getElem!_pos d' i (by omega)] at this
  have := of_decide_eq_false this
  unfold HK at this
  simp only [List.getElem_map,Array.getElem_toList]
  omega
def S7 : FuncId → List V → Option V := fun _ _ => none
theorem HU : l9 Tryz.prog S7 := fun f vs r h => by cases h
theorem HV : iG Tryz.prog (fun _ _ => none) := fun f vs r h => by cases h
theorem zl : aR Tryz.prog 122 [.slice [], .sc (.func (.func 123) #[] #[])] (.ch []) := er HU HV 3000 (by kernel_rfl)
theorem BF (m : List aC) (b v : Nat) (l : List cj) (hb : m[b]? = some (.rows v 2 (l.map au))) (hl : l.length ≤ 1048576) (hC : ∀ x ∈ l, 0 ≤ x.lo ∧ x.lo ≤ 1000000) :
  fm Tryz.prog 122 [.ms b v 0 l.length, .sc (.func (.func 123) #[] #[])] m fun r m' => r = .sc (.tuple #[]) ∧ ∃ l' : List cj, l'.Perm l ∧ gB l' ∧ m' = m.set b (.rows v 2 (l'.map au)) := by
 rcases Nat.eq_zero_or_pos l.length with h0 | h0
 ·obtain rfl : l = [] := List.length_eq_zero_iff.1 h0
  refine (aR.ve (m := m) (b := b) (v := v) zl fun E xs h => ?_).rel.mono fun r m' ⟨h1, h2⟩ => ⟨h1, [], List.Perm.refl _, List.Pairwise.nil, by
   rw [h2]
   apply List.ext_getElem?
   intro i
   rw [List.getElem?_set]
   split
   ·rename_i hi; subst hi
    rw [if_pos (List.getElem?_eq_some_iff.1 hb).1, hb]
   ·rfl⟩
  obtain ⟨y, ys, rfl, hr, hy⟩ := h.of_cons
  rw [hy.of_nil]
  have := bS hr
  subst this
  exact aV.cons (.sc _ _) (.nil _)
 ·exact BE m b v l hb h0 hl hC
end Go.Proofs.YtefbaladomfccaaGreatDoor
end

section
namespace Go.Proofs.YtefbaladomfccaaGreatDoor
open Go.Eng
open Nat renaming reduceAdd → zA, reduceLT → zB, reduceLeDiff → zC, reduceMul → zD, reduceEqDiff → zE, reduceSub → zF
variable [aK]
set_option maxHeartbeats 4000000
set_option maxRecDepth 100000
theorem mV {s : List cj} {i : Nat} {x : cj} (h : s[i]? = some x) : clip (s.take (i + 1)) = clip (s.take i) ++ (mS x).toList := by
 rw [List.take_add_one, h]
 unfold clip
 rw [List.filterMap_append]
 cases hx : mS x <;> simp [hx]
theorem jT (s : List cj) : (clip s).length ≤ s.length := List.length_filterMap_le _ _
theorem Dv {x : cj} (h : max x.lo 0 < min x.hi 1000000) : mS x = some ⟨max x.lo 0, min x.hi 1000000⟩ := if_pos h
theorem Dw {x : cj} (h : ¬ max x.lo 0 < min x.hi 1000000) : mS x = none := if_neg h
structure Mg (l R : List cj) (i n : Nat) : Prop where
 hi : i ≤ l.length
 hn : n ≤ i
 hl : R.length = l.length
 ht : R.take n = merge (l.take i)
 hd : R.drop i = l.drop i
 h0 : 0 < i → 0 < n
theorem js {l : List cj} {i : Nat} {x : cj} (h : l[i]? = some x) : merge (l.take (i + 1)) = ef (merge (l.take i)) x := by
 rw [List.take_add_one, h]
 unfold merge
 rw [List.foldl_append]; rfl
theorem Mg.start (l : List cj) : Mg l l 0 0 := ⟨Nat.zero_le _, Nat.le_refl _, rfl, rfl, rfl, fun h => absurd h (Nat.lt_irrefl _)⟩
theorem Mg.at {l R : List cj} {i n : Nat} (h : Mg l R i n) (aL : i < l.length) : ∃ x, l[i]? = some x ∧ R[i]? = some x := by
 refine ⟨l[i], List.getElem?_eq_getElem aL, ?_⟩
 have h1 : (R.drop i)[0]? = (l.drop i)[0]? := by rw [h.hd]
 rw [List.getElem?_drop, List.getElem?_drop, Nat.add_zero] at h1
 rw [h1, List.getElem?_eq_getElem aL]
theorem Mg.last {l R : List cj} {i n : Nat} (h : Mg l R i n) (gC : 0 < i) (aL : i < l.length) : ∃ y, R[n - 1]? = some y ∧ (merge (l.take i)).getLast? = some y := by
 have hn := h.h0 gC
 have F8 : n - 1 < R.length := by rw [h.hl]; have := h.hn; omega
 refine ⟨R[n - 1], List.getElem?_eq_getElem F8, ?_⟩
 rw [← h.ht, List.getLast?_eq_getElem?, List.length_take, Nat.min_eq_left (by have := h.hn; rw [h.hl]; omega), List.getElem?_take_of_lt (by omega), List.getElem?_eq_getElem F8]
theorem Mg.none {l R : List cj} {n : Nat} (h : Mg l R 0 n) : n = 0 := Nat.le_zero.1 h.hn
theorem Mg.push {l R : List cj} {i n : Nat} {x : cj} (h : Mg l R i n) (hx : l[i]? = some x) (hm : ef (merge (l.take i)) x = merge (l.take i) ++ [x]) : Mg l (R.set n x) (i + 1) (n + 1) := by
 have aL := (List.getElem?_eq_some_iff.1 hx).1
 have hn := h.hn
 refine ⟨aL, by omega, by rw [List.length_set]; exact h.hl, ?_, ?_, fun _ => Nat.succ_pos _⟩
 ·rw [js hx, hm, ← h.ht]
  apply List.ext_getElem?
  intro j
  have Za : n < R.length := by rw [h.hl]; omega
  rcases Nat.lt_trichotomy j n with hj | hj | hj
  ·rw [List.getElem?_take_of_lt (by omega), List.getElem?_set_ne (by omega), List.getElem?_append_left (by rw [List.length_take]; omega), List.getElem?_take_of_lt hj]
  ·subst hj
   rw [List.getElem?_take_of_lt (by omega), List.getElem?_append_right (by rw [List.length_take]; omega), List.length_take, Nat.min_eq_left (by omega), Nat.sub_self]
   simp [Za]
  ·rw [List.getElem?_eq_none (by rw [List.length_take]; omega), List.getElem?_eq_none (by rw [List.length_append, List.length_take]; simp; omega)]
 ·apply List.ext_getElem?
  intro j
  rw [List.getElem?_drop, List.getElem?_drop, List.getElem?_set_ne (by omega)]
  have h1 : (R.drop i)[1 + j]? = (l.drop i)[1 + j]? := by rw [h.hd]
  rw [List.getElem?_drop, List.getElem?_drop] at h1
  rw [show i + 1 + j = i + (1 + j) by omega]; exact h1
theorem Mg.join {l R : List cj} {i n : Nat} {x y : cj} (h : Mg l R i n) (hx : l[i]? = some x) (gC : 0 < i) (hy : R[n - 1]? = some y) (hle : x.lo ≤ y.hi) : Mg l (R.set (n - 1) ⟨y.lo, max y.hi x.hi⟩) (i + 1) n := by
 have aL := (List.getElem?_eq_some_iff.1 hx).1
 have hn := h.hn
 have S8 := h.h0 gC
 obtain ⟨y', S9, qS⟩ := h.last gC aL
 rw [hy] at S9; cases S9
 have Za : n ≤ R.length := by rw [h.hl]; omega
 refine ⟨aL, by omega, by rw [List.length_set]; exact h.hl, ?_, ?_, fun _ => S8⟩
 ·rw [js hx]
  unfold ef
  rw [qS]
  dsimp only
  rw [if_pos hle, ← h.ht]
  apply List.ext_getElem?
  intro j
  have hZ : ((R.take n).dropLast).length = n - 1 := by rw [List.length_dropLast, List.length_take]; omega
  rcases Nat.lt_trichotomy j (n - 1) with hj | hj | hj
  ·rw [List.getElem?_take_of_lt (by omega), List.getElem?_set_ne (by omega), List.getElem?_append_left (by omega), List.getElem?_dropLast, if_pos (by rw [List.length_take]; omega), List.getElem?_take_of_lt (by omega)]
  ·subst hj
   rw [List.getElem?_take_of_lt (by omega), List.getElem?_append_right (by omega), hZ, Nat.sub_self, List.getElem?_set]
   simp; omega
  ·rw [List.getElem?_eq_none (by rw [List.length_take, List.length_set]; omega), List.getElem?_eq_none (by rw [List.length_append, hZ]; simp; omega)]
 ·apply List.ext_getElem?
  intro j
  rw [List.getElem?_drop, List.getElem?_drop, List.getElem?_set_ne (by omega)]
  have h1 : (R.drop i)[1 + j]? = (l.drop i)[1 + j]? := by rw [h.hd]
  rw [List.getElem?_drop, List.getElem?_drop] at h1
  rw [show i + 1 + j = i + (1 + j) by omega]; exact h1
theorem mW {o : List cj} {x : cj} (h : ∀ y, o.getLast? = some y → ¬ x.lo ≤ y.hi) : ef o x = o ++ [x] := by
 unfold ef
 cases hl : o.getLast? with
 | none => rw [List.getLast?_eq_none_iff.1 hl]; rfl
 | some y => dsimp only; rw [if_neg (h y hl)]
theorem HW (s : List cj) (hl : s.length ≤ 1048576) : aR Tryz.prog 76 [bY s] (bY (canon s)) := by
 refine Y1 tt_ok [19] 79 [.tmp 2] (fn := Tryz.f76) Tryz.func76 rfl Tryz.call76 ⟨rfl, rfl, by simp⟩ fun K hK => ?_
 simp only [bY]
 simp only [List.length_map,go_sem,reduceIte,zA,zB,zC,zD,zE,zF,reduceCtorEq]
 refine OI 3 0 2 (by decide) rfl ?_
 refine dk tt_ok [19] (fun a : Nat × List cj => [(3, .ms 0 a.2.length 0 a.2.length), (9, .slice (s.map au)), (10, num s.length), (11, num a.1)]) (fun a : Nat × List cj => [.rows a.2.length 2 (a.2.map au)]) (fun a => s.length - a.1) (fun a => a.1 ≤ s.length ∧ a.2 = clip (s.take a.1)) ((0, [])) 1 (bz (by omega) (by simp only [List.length_map,List.map_nil,List.length_nil,Int.cast_ofNat_Int,go_sem,reduceIte,zA,zB,zC,zD,zE,zF,reduceCtorEq] <;> rfl)) (⟨Nat.zero_le _, rfl⟩) ?_
 rintro ⟨i, l⟩ ⟨hi, gj⟩
 try dsimp only at hi gj
 try dsimp only
 intro Z1 bX
 simp only [List.length_map,go_sem,reduceIte,zA,zB,zC,zD,zE,zF,reduceCtorEq]
 refine aT (fun na => ?_) (fun na => ?_)
 ·have aL : i < s.length := by simpa using na
  have hw := aq i (by omega)
  obtain ⟨x, hx⟩ : ∃ x, s[i]? = some x := ⟨_, List.getElem?_eq_getElem aL⟩
  have rE : (if x.lo < 0 then 0 else x.lo) = max x.lo 0 := by split <;> omega
  have qX : (if (1000000 : Int) < x.hi then 1000000 else x.hi) = min x.hi 1000000 := by split <;> omega
  have Gv : l.length ≤ 1048576 := by rw [gj]; have := jT (s.take i); rw [List.length_take] at this; omega
  have nu : l.length + 1 ≤ 34359738368 := by omega
  simp only [hw,List.getElem?_map,hx,au,rE,qX,nu,List.length_append,List.length_cons,List.length_nil,Nat.zero_add,List.length_map,go_sem,reduceIte,zA,zB,zC,zD,zE,zF,reduceCtorEq]
  refine aT (fun mf => ?_) (fun mf => ?_)
  ·let nv : Nat × List cj := (i + 1, l ++ [⟨max x.lo 0, min x.hi 1000000⟩])
   have EV : l ++ [⟨max x.lo 0, min x.hi 1000000⟩] = clip (s.take (i + 1)) := by rw [mV hx, Dv (by simpa using mf), gj]; rfl
   simp only [hw,List.getElem?_map,hx,au,rE,qX,nu,List.length_append,List.length_cons,List.length_nil,Nat.zero_add,List.length_map,go_sem,reduceIte,zA,zB,zC,zD,zE,zF,reduceCtorEq]
   refine bX _ ⟨nv, ?_, ?_, bz (by omega) (by (simp [nv, pD, lk, cA, dK, ah, aB, List.map_append, au]))⟩
   ·exact ⟨aL, by dsimp only [nv]; exact EV⟩
   ·dsimp only [nv]; omega
  ·let nv : Nat × List cj := (i + 1, l)
   have EV : l = clip (s.take (i + 1)) := by rw [mV hx, Dw (by simpa using mf), gj]; simp
   simp only [hw,List.getElem?_map,hx,au,rE,qX,nu,List.length_append,List.length_cons,List.length_nil,Nat.zero_add,List.length_map,go_sem,reduceIte,zA,zB,zC,zD,zE,zF,reduceCtorEq]
   refine bX _ ⟨nv, ?_, ?_, bz (by omega) (by (simp [nv, pD, lk, cA, dK, ah, aB, List.map_append, au]))⟩
   ·exact ⟨aL, by dsimp only [nv]; exact EV⟩
   ·dsimp only [nv]; omega
 ·have cP : ¬ i < s.length := by simpa using na
  have O5 : l = clip s := by rw [gj, show i = s.length by omega, List.take_length]
  have W0 : l.length ≤ 1048576 := by rw [O5]; have := jT s; omega
  have hC : ∀ x ∈ l, 0 ≤ x.lo ∧ x.lo ≤ 1000000 := fun x hx => by have := Dk x (O5 ▸ hx); omega
  simp only [List.length_map,go_sem,reduceIte,zA,zB,zC,zD,zE,zF,reduceCtorEq]
  refine cR (BF _ 0 _ _ rfl W0 hC) ?_
  rintro _ _ ⟨rfl, l2, hp, ha, rfl⟩
  simp only [List.length_map,go_sem,reduceIte,zA,zB,zC,zD,zE,zF,reduceCtorEq]
  obtain ⟨L, hL⟩ : ∃ L, L = l2 := ⟨_, rfl⟩
  rw [← hL] at hp ha
  have Ta : L.length = l.length := hp.length_eq
  rw [← Ta, ← hL]
  refine dk tt_ok [19] (fun a : Nat × Nat × List cj => [(3, .ms 0 L.length 0 L.length), (6, num a.2.1), (34, .ms 0 L.length 0 L.length), (35, num L.length), (36, num a.1)]) (fun a : Nat × Nat × List cj => [.rows L.length 2 (a.2.2.map au)]) (fun a => L.length - a.1) (fun a => Mg L a.2.2 a.1 a.2.1) ((0, 0, L)) 1 (bz (by omega) (by simp only [List.length_map,Int.cast_ofNat_Int,go_sem,reduceIte,zA,zB,zC,zD,zE,zF,reduceCtorEq] <;> rfl)) (Mg.start L) ?_
  rintro ⟨i, n, R⟩ hM
  try dsimp only at hM
  try dsimp only
  have hMi := hM.hi
  have hMn := hM.hn
  have MF := hM.hl
  intro Z2 jD
  simp only [List.length_map,go_sem,reduceIte,zA,zB,zC,zD,zE,zF,reduceCtorEq]
  refine aT (fun lD => ?_) (fun lD => ?_)
  ·have aL : i < L.length := by simpa using lD
   rw [lD]
   have BG : (i : Int) < (L.length : Int) := by omega
   have hw := aq i (by omega)
   have gq := aq n (by omega)
   obtain ⟨x, hx, O6⟩ := hM.at aL
   have sY : (n : Int) < (L.length : Int) := by omega
   simp only [hw,gq,List.getElem?_map,O6,au,MF,BG,Int.natCast_nonneg,sY,List.length_map,go_sem,reduceIte,zA,zB,zC,zD,zE,zF,reduceCtorEq]
   refine bR tt_ok aN [⟨.n, 0, [], [], []⟩, ⟨.n, 0, [], [], []⟩, ⟨.n, 0, [], [], []⟩, ⟨.n, 0, [], [], []⟩, ⟨.r, 0, [], [], []⟩, ⟨.n, 0, [], [], []⟩, ⟨.n, 0, [], [], []⟩, ⟨.n, 0, [], [], []⟩, ⟨.r, 0, [], [], []⟩, ⟨.n, 0, [], [], []⟩, ⟨.r, 0, [], [], []⟩, ⟨.n, 0, [], [], []⟩, ⟨.n, 0, [], [], []⟩] 0 (by kernel_rfl) ?_
   simp only [hw,gq,List.getElem?_map,O6,au,MF,BG,Int.natCast_nonneg,sY,List.length_map,go_sem,reduceIte,zA,zB,zC,zD,zE,zF,reduceCtorEq]
   refine aT (fun BH => ?_) (fun BH => ?_)
   ·have gC : 0 < i := by have := of_decide_eq_true BH; omega
    have S8 := hM.h0 gC
    obtain ⟨y, hy, qS⟩ := hM.last gC aL
    have rF : IntKind.i64.wrap ((n : Int) - 1) = ((n - 1 : Nat) : Int) := jo _ _ (by omega) (by omega)
    have F8 : ((n - 1 : Nat) : Int) < (L.length : Int) := by omega
    simp only [hw,gq,List.getElem?_map,O6,au,MF,BG,Int.natCast_nonneg,sY,rF,hy,F8,List.length_map,go_sem,reduceIte,zA,zB,zC,zD,zE,zF,reduceCtorEq]
    refine aT (fun O7 => ?_) (fun O7 => ?_)
    ·have hle : x.lo ≤ y.hi := by simpa using O7
     have rE : (if y.hi < x.hi then x.hi else y.hi) = max y.hi x.hi := by split <;> omega
     let nv : Nat × Nat × List cj := (i + 1, n, R.set (n - 1) ⟨y.lo, max y.hi x.hi⟩)
     have JH := hM.join hx gC hy hle
     simp only [hw,gq,List.getElem?_map,O6,au,MF,BG,Int.natCast_nonneg,sY,rF,hy,F8,rE,List.length_map,go_sem,reduceIte,zA,zB,zC,zD,zE,zF,reduceCtorEq]
     refine bR tt_ok aN [⟨.n, 0, [], [], []⟩, ⟨.n, 0, [], [], []⟩, ⟨.n, 0, [], [1], []⟩, ⟨.n, 0, [], [], []⟩, ⟨.n, 0, [], [], []⟩, ⟨.n, 0, [], [4], []⟩, ⟨.r, 0, [], [3,4,5], []⟩, ⟨.n, 0, [], [3,4,5,6], []⟩, ⟨.r, 0, [], [3,4,5,6,7], []⟩, ⟨.n, 0, [], [], []⟩, ⟨.r, 0, [], [9], []⟩, ⟨.n, 0, [], [3,4,5,6,7,8,9,10], []⟩, ⟨.r, 0, [], [0,1,2,3,4,5,6,7,8,9,10,11], []⟩, ⟨.n, 0, [], [0,1,2,3,4,5,6,7,8,9,10,11,12], []⟩, ⟨.w, 0, [], [0,1,2,3,4,5,6,7,8,9,10,11,12,13], []⟩] 1 (by kernel_rfl) ?_
     simp only [hw,gq,List.getElem?_map,O6,au,MF,BG,Int.natCast_nonneg,sY,rF,hy,F8,rE,List.length_map,go_sem,reduceIte,zA,zB,zC,zD,zE,zF,reduceCtorEq]
     refine jD _ ⟨nv, ?_, ?_, bz (by omega) (by (simp [nv, pD, lk, cA, dK, ah, aB, List.map_set, au, setRow, cg, V.cells]))⟩
     ·dsimp only [nv]; exact JH
     ·dsimp only [nv]; omega
    ·have D4 : ef (merge (L.take i)) x = merge (L.take i) ++ [x] := mW fun z hz => by
      rw [qS] at hz; cases hz; simpa using O7
     let nv : Nat × Nat × List cj := (i + 1, n + 1, R.set n x)
     have JH := hM.push hx D4
     obtain ⟨z, hz⟩ : ∃ z, R[n]? = some z := ⟨_, List.getElem?_eq_getElem (by omega)⟩
     simp only [hw,gq,List.getElem?_map,O6,au,MF,BG,Int.natCast_nonneg,sY,rF,hy,F8,hz,List.length_map,go_sem,reduceIte,zA,zB,zC,zD,zE,zF,reduceCtorEq]
     refine jD _ ⟨nv, ?_, ?_, bz (by omega) (by (simp [nv, pD, lk, cA, dK, ah, aB, List.map_set, au, setRow, cg, V.cells]))⟩
     ·dsimp only [nv]; exact JH
     ·dsimp only [nv]; omega
   ·have AJ : i = 0 := by have := of_decide_eq_false BH; omega
    have D4 : ef (merge (L.take i)) x = merge (L.take i) ++ [x] := mW fun y hy => by simp [AJ, merge] at hy
    let nv : Nat × Nat × List cj := (i + 1, n + 1, R.set n x)
    have JH := hM.push hx D4
    obtain ⟨z, hz⟩ : ∃ z, R[n]? = some z := ⟨_, List.getElem?_eq_getElem (by omega)⟩
    simp only [hw,gq,List.getElem?_map,O6,au,MF,BG,Int.natCast_nonneg,sY,hz,List.length_map,go_sem,reduceIte,zA,zB,zC,zD,zE,zF,reduceCtorEq]
    refine jD _ ⟨nv, ?_, ?_, bz (by omega) (by (simp [nv, pD, lk, cA, dK, ah, aB, List.map_set, au, setRow, cg, V.cells]))⟩
    ·dsimp only [nv]; exact JH
    ·dsimp only [nv]; omega
  ·have cP : ¬ i < L.length := by simpa using lD
   have hiL : i = L.length := by omega
   simp only [List.length_map,go_sem,reduceIte,zA,zB,zC,zD,zE,zF,reduceCtorEq]
   refine o0 (v' := .slice (R.map au)) 3 (by decide) rfl (by rw [← MF]; simp [lk, dR, br, List.take_of_length_le]) ?_
   have hnR : (n : Int) ≤ (R.length : Int) := by omega
   refine Mw tt_ok [19] ?_
   simp only [hnR,Int.le_refl,Int.natCast_nonneg,List.length_map,go_sem,reduceIte,zA,zB,zC,zD,zE,zF,reduceCtorEq]
   refine hK _ ?_
   have qc : (R.take n).map au = (canon s).map au := by rw [hM.ht, hiL, List.take_length, yY (hp.trans (List.Perm.of_eq O5)) ha]
   simp [wB, wA, Ei, Nu, dR, br, bY, ← List.map_take, qc]
end Go.Proofs.YtefbaladomfccaaGreatDoor
end

section
namespace Go.Proofs.YtefbaladomfccaaGreatDoor
open Go.Eng
open Nat renaming reduceAdd → zA, reduceLT → zB, reduceLeDiff → zC, reduceMul → zD, reduceEqDiff → zE, reduceSub → zF
variable [aK]
set_option maxHeartbeats 4000000
set_option maxRecDepth 100000
def ny : ByteArray := ⟨#[32,97,110,100,32,97,110,121,32,97,115,32,98,111,111,108,32,100,101,112,114,101,99,97,116,101,100,32,101,108,115,101,32,101,120,112,111,114,116,32,102,97,108,115,101,32,102,110,32,102,111,108,100,32,102,114,111,109,32,105,102,32,105,109,112,111,114,116,32,105,110,32,105,110,116,32,108,101,110,103,116,104,32,108,101,116,32,108,105,115,116,32,109,97,116,99,104,32,109,111,100,117,108,101,32,110,111,110,101,32,110,111,116,32,111,114,32,116,101,120,116,32,116,104,101,110,32,116,114,117,101,32,116,121,112,101,32,117,115,101,32]⟩
def U2 (s : ByteArray) : Bool := Lib.contains ny.data.toList (⟨#[32]⟩ ++ s ++ ⟨#[32]⟩ : ByteArray).data.toList
def kx (s : ByteArray) : Bool := decide (1 ≤ s.size) && decide (s.size ≤ 32) && uu (c8 s 0) && gH k7 s && !U2 s
def nb (s : ByteArray) : Bool := kx s && gH sP s
def gI (s : ByteArray) : ByteArray := ⟨(Lib.trimPrefix s.data.toList [118]).toArray⟩
def mg (s : ByteArray) : Bool := Lib.hasPrefix s.data.toList [118]
def dZ (t : ByteArray) : Nat → Int
 | 0 => 0
 | k + 1 => 10 * dZ t k + (c8 t k - 48)
def mh (t : ByteArray) : Bool := decide (1 ≤ t.size) && decide (t.size ≤ 3) && !(decide (1 < t.size) && decide (c8 t 0 = 48)) && gH eZ t
def cx (s : ByteArray) : Bool := mg s && mh (gI s)
def jE (s : ByteArray) : Int := dZ (gI s) (gI s).size
theorem sZ {p : Int → Bool} {s : ByteArray} (h : gH p s = true) {i : Nat} {c : UInt8} (hc : s[i]? = some c) : p c.toNat = true := List.all_eq_true.1 h c (List.mem_of_getElem? (mc hc))
theorem nT {t : ByteArray} (h : gH eZ t = true) : ∀ k, k ≤ t.size → 0 ≤ dZ t k ∧ dZ t k < 10 ^ k
 | 0, _ => ⟨Int.le_refl _, by simp [dZ]⟩
 | k + 1, hk => by
  obtain ⟨h1, h2⟩ := nT h k (by omega)
  obtain ⟨c, hc⟩ := cr (s := t) (i := k) (by omega)
  have h3 := sZ h hc
  unfold eZ at h3
  simp only [Bool.and_eq_true,decide_eq_true_eq] at h3
  rw [dZ, dD hc, Int.pow_succ]
  omega
theorem HX {t : ByteArray} (h : gH eZ t = true) (h3 : t.size ≤ 3) {k : Nat} (hk : k ≤ t.size) : 0 ≤ dZ t k ∧ dZ t k < 1000 := by
 obtain ⟨h1, h2⟩ := nT h k hk
 refine ⟨h1, Int.lt_of_lt_of_le h2 ?_⟩
 have : k = 0 ∨ k = 1 ∨ k = 2 ∨ k = 3 := by omega
 rcases this with rfl | rfl | rfl | rfl <;> decide
theorem BI (hG : aK.g = some 0) (s : ByteArray) (hs : s.size ≤ 1000000) : ∃ r_, (fun w => w = bl (U2 s)) r_ ∧ aR Tryz.prog 222 [str s] r_ := by
 refine eu tt_ok [] 7 [.tmp 2] (fn := Tryz.f222) Tryz.func222 rfl Tryz.call222 ⟨rfl, rfl, by simp⟩ fun K hK => ?_
 have Zb := fun x y => wE Tryz.prog 9 x y ⟨#[32]⟩ s (by rw [show (⟨#[32]⟩ : ByteArray).size = 1 from rfl, show IntKind.i64.max = 9223372036854775807 from rfl]; omega)
 have Zc := fun x y => wE Tryz.prog 9 x y (⟨#[32]⟩ ++ s) ⟨#[32]⟩ (by rw [ByteArray.size_append, show (⟨#[32]⟩ : ByteArray).size = 1 from rfl, show IntKind.i64.max = 9223372036854775807 from rfl]; omega)
 simp only [Zb,Zc,go_sem,reduceIte,zA,zB,zC,zD,zE,zF,reduceCtorEq]
 refine cF (⟨_, rfl, y7 hG _ _ (by decide)⟩) ?_
 rintro _ rfl
 simp only [Zb,Zc,go_sem,reduceIte,zA,zB,zC,zD,zE,zF,reduceCtorEq]
 exact hK _ rfl
theorem EW (hG : aK.g = some 0) (s : ByteArray) : ∃ r_, (fun w => w = bl (kx s)) r_ ∧ aR Tryz.prog 169 [str s] r_ := by
 refine eu tt_ok [] 24 [.tmp 2] (fn := Tryz.f169) Tryz.func169 rfl Tryz.call169 ⟨rfl, rfl, by simp⟩ fun K hK => ?_
 have gv : Tryz.prog.underlying 9 = some .string := by kernel_rfl
 have sl : ∀ (a : ByteArray) (ty : TypeId), dh Tryz.prog (Builtin.len_ #[9] ty) [.sc (.string a)] = some (num a.size) := fun a ty => cH (P := Tryz.prog) (tt := tt) (T := 9) a gv ty
 simp only [sl,go_sem,reduceIte,zA,zB,zC,zD,zE,zF,reduceCtorEq]
 refine aT (fun eI => ?_) (fun eI => ?_)
 ·have h1 := Dl rfl eI
  obtain ⟨Tb, mi⟩ := cr (s := s) (i := (0 : Int).toNat) (by omega)
  have bf := dI (P := Tryz.prog) s gv .i64 (0) (by omega) (c := Tb) mi
  have Tc : c8 s 0 = Tb.toNat := dD mi
  simp only [bf,sl,go_sem,reduceIte,zA,zB,zC,zD,zE,zF,reduceCtorEq]
  refine aT (fun HY => ?_) (fun HY => ?_)
  ·simp only [bf,sl,go_sem,reduceIte,zA,zB,zC,zD,zE,zF,reduceCtorEq]
   refine cF (sQ _) ?_
   rintro _ rfl
   simp only [bf,sl,go_sem,reduceIte,zA,zB,zC,zD,zE,zF,reduceCtorEq]
   refine aT (fun BJ => ?_) (fun BJ => ?_)
   ·simp only [bf,sl,go_sem,reduceIte,zA,zB,zC,zD,zE,zF,reduceCtorEq]
    refine cF (w6 221 k7 KL s (by have := of_decide_eq_true HY; omega)) ?_
    rintro _ rfl
    simp only [bf,sl,go_sem,reduceIte,zA,zB,zC,zD,zE,zF,reduceCtorEq]
    refine aT (fun O8 => ?_) (fun O8 => ?_)
    ·simp only [bf,sl,go_sem,reduceIte,zA,zB,zC,zD,zE,zF,reduceCtorEq]
     refine cF (BI hG s (by have := of_decide_eq_true HY; omega)) ?_
     rintro _ rfl
     simp only [bf,sl,go_sem,reduceIte,zA,zB,zC,zD,zE,zF,reduceCtorEq]
     exact hK _ (congrArg bl (by simp_all [kx] <;> (intros; omega)))
    ·simp only [bf,sl,go_sem,reduceIte,zA,zB,zC,zD,zE,zF,reduceCtorEq]
     exact hK _ (congrArg bl (by simp_all [kx] <;> (intros; omega)))
   ·simp only [bf,sl,go_sem,reduceIte,zA,zB,zC,zD,zE,zF,reduceCtorEq]
    exact hK _ (congrArg bl (by simp_all [kx] <;> (intros; omega)))
  ·simp only [bf,sl,go_sem,reduceIte,zA,zB,zC,zD,zE,zF,reduceCtorEq]
   exact hK _ (congrArg bl (by simp_all [kx] <;> (intros; omega)))
 ·have h1 := yZ rfl eI
  simp only [sl,go_sem,reduceIte,zA,zB,zC,zD,zE,zF,reduceCtorEq]
  exact hK _ (congrArg bl (by simp_all [kx] <;> (intros; omega)))
theorem BK (hG : aK.g = some 0) (s : ByteArray) : ∃ r_, (fun w => w = .ch [num (if cx s = true then jE s else 0), bl (cx s)]) r_ ∧ aR Tryz.prog 168 [str s] r_ := by
 refine eu tt_ok [] 53 [.tmp 2, .tmp 3] (fn := Tryz.f168) Tryz.func168 rfl Tryz.call168 ⟨rfl, rfl, by simp⟩ fun K hK => ?_
 have gv : Tryz.prog.underlying 9 = some .string := by kernel_rfl
 have sl : ∀ (a : ByteArray) (ty : TypeId), dh Tryz.prog (Builtin.len_ #[9] ty) [.sc (.string a)] = some (num a.size) := fun a ty => cH (P := Tryz.prog) (tt := tt) (T := 9) a gv ty
 have W3 : Tryz.prog.underlying 5 = some (.int .u8) := by kernel_rfl
 have W4 : Tryz.prog.underlying 3 = some (.int .i64) := by kernel_rfl
 have cv := fun (k : IntKind) (n : Int) => CS (P := Tryz.prog) (src := 5) (dst := 3) W3 W4 k n
 simp only [sl,cv,go_sem,reduceIte,zA,zB,zC,zD,zE,zF,reduceCtorEq]
 refine cF (⟨_, rfl, ES hG s ⟨#[118]⟩⟩) ?_
 rintro _ rfl
 obtain ⟨t, ht⟩ : ∃ t, t = gI s := ⟨_, rfl⟩
 obtain ⟨hv, Ux⟩ : ∃ b, b = mg s := ⟨_, rfl⟩
 have e1 : (⟨(Lib.trimPrefix s.data.toList [118]).toArray⟩ : ByteArray) = t := ht.symm
 have e2 : Lib.hasPrefix s.data.toList [118] = hv := Ux.symm
 have Aq : cx s = (hv && mh t) := by rw [Ux, ht]; rfl
 simp only [e1,e2]
 simp only [sl,cv,go_sem,reduceIte,zA,zB,zC,zD,zE,zF,reduceCtorEq]
 refine aT (fun jU => ?_) (fun jU => ?_)
 ·have cT : cx s = false := by rw [Aq]; simp_all [mh] <;> (intros; omega)
  simp only [sl,cv,go_sem,reduceIte,zA,zB,zC,zD,zE,zF,reduceCtorEq]
  refine hK _ ?_
  first
   | (rw [cT]; rfl)
   | (rw [dc]; subst cP; unfold jE; rw [← ht]; rfl)
 ·simp only [sl,cv,go_sem,reduceIte,zA,zB,zC,zD,zE,zF,reduceCtorEq]
  refine aT (fun HZ => ?_) (fun HZ => ?_)
  ·have h1 : t.size = 0 := yZ (e := ⟨#[]⟩) rfl (by rw [HZ]; rfl)
   have cT : cx s = false := by rw [Aq]; simp_all [mh] <;> (intros; omega)
   simp only [sl,cv,go_sem,reduceIte,zA,zB,zC,zD,zE,zF,reduceCtorEq]
   refine hK _ ?_
   first
    | (rw [cT]; rfl)
    | (rw [dc]; subst cP; unfold jE; rw [← ht]; rfl)
  ·have h1 : 1 ≤ t.size := Dl (e := ⟨#[]⟩) rfl (by rw [HZ]; rfl)
   obtain ⟨Tb, mi⟩ := cr (s := t) (i := (0 : Int).toNat) (by omega)
   have bf := dI (P := Tryz.prog) t gv .i64 (0) (by omega) (c := Tb) mi
   have Tc : c8 t 0 = Tb.toNat := dD mi
   simp only [bf,sl,cv,go_sem,reduceIte,zA,zB,zC,zD,zE,zF,reduceCtorEq]
   refine aT (fun BL => ?_) (fun BL => ?_)
   ·have cT : cx s = false := by rw [Aq]; simp_all [mh] <;> (intros; omega)
    simp only [bf,sl,cv,go_sem,reduceIte,zA,zB,zC,zD,zE,zF,reduceCtorEq]
    refine hK _ ?_
    first
     | (rw [cT]; rfl)
     | (rw [dc]; subst cP; unfold jE; rw [← ht]; rfl)
   ·simp only [bf,sl,cv,go_sem,reduceIte,zA,zB,zC,zD,zE,zF,reduceCtorEq]
    refine aT (fun O9 => ?_) (fun O9 => ?_)
    ·simp only [bf,sl,cv,go_sem,reduceIte,zA,zB,zC,zD,zE,zF,reduceCtorEq]
     refine aT (fun Pa => ?_) (fun Pa => ?_)
     ·have cT : cx s = false := by rw [Aq]; simp_all [mh] <;> (intros; omega)
      simp only [bf,sl,cv,go_sem,reduceIte,zA,zB,zC,zD,zE,zF,reduceCtorEq]
      refine hK _ ?_
      first
       | (rw [cT]; rfl)
       | (rw [dc]; subst cP; unfold jE; rw [← ht]; rfl)
     ·simp only [bf,sl,cv,go_sem,reduceIte,zA,zB,zC,zD,zE,zF,reduceCtorEq]
      refine cF (w6 173 eZ o9 t (by have := of_decide_eq_false BL; omega)) ?_
      rintro _ rfl
      simp only [bf,sl,cv,go_sem,reduceIte,zA,zB,zC,zD,zE,zF,reduceCtorEq]
      refine aT (fun lD => ?_) (fun lD => ?_)
      ·have cT : cx s = false := by rw [Aq]; simp_all [mh] <;> (intros; omega)
       simp only [bf,sl,cv,go_sem,reduceIte,zA,zB,zC,zD,zE,zF,reduceCtorEq]
       refine hK _ ?_
       first
        | (rw [cT]; rfl)
        | (rw [dc]; subst cP; unfold jE; rw [← ht]; rfl)
      ·have dc : cx s = true := by rw [Aq]; simp_all [mh] <;> (intros; omega)
       have EX : mh t = true := by rw [Aq] at dc; simp at dc; exact dc.2
       have K1 : gH eZ t = true := by unfold mh at EX; simp only [Bool.and_eq_true] at EX; exact EX.2
       have h3 : t.size ≤ 3 := by unfold mh at EX; simp only [Bool.and_eq_true,decide_eq_true_eq] at EX; exact EX.1.1.2
       simp only [bf,sl,cv,go_sem,reduceIte,zA,zB,zC,zD,zE,zF,reduceCtorEq]
       refine bk tt_ok [] [40,5] 0 [0,2,3,37,39] (fun vs => ((t.size : Int) - Go.Eng.intOf (vs.headD .undef)).toNat) (fun vs => ∃ i : Nat, vs = [num i, num (dZ t i)] ∧ i ≤ t.size) (by omega) (by simp only [bf,sl,cv,go_sem,reduceIte,zA,zB,zC,zD,zE,zF,reduceCtorEq]) (⟨0, rfl, Nat.zero_le _⟩) fun vs hI Z1 bX => ?_
       obtain ⟨i, rfl, hi⟩ := hI
       simp only [bf,sl,cv,go_sem,reduceIte,zA,zB,zC,zD,zE,zF,reduceCtorEq]
       refine aT (fun uy => ?_) (fun uy => ?_)
       ·have aL : i < t.size := by simpa using uy
        have hw := aq i (by omega)
        obtain ⟨c, lH⟩ := cr (s := t) (i := i) aL
        have fP := dI (P := Tryz.prog) t gv .i64 (i : Int) (by omega) (c := c) (show t[((i : Nat) : Int).toNat]? = some c from lH)
        have K2 := sZ K1 lH
        unfold eZ at K2
        simp only [Bool.and_eq_true,decide_eq_true_eq] at K2
        obtain ⟨Qz, Mc⟩ := HX K1 h3 hi
        have hu : IntKind.u8.wrap ((c.toNat : Int) - 48) = (c.toNat : Int) - 48 := by have h := c.toNat_lt; simp only [IntKind.wrap,IntKind.bits,IntKind.signed]; simp; omega
        have s5 : IntKind.i64.wrap ((c.toNat : Int) - 48) = (c.toNat : Int) - 48 := IntWalk.i64_in _ (by omega)
        have s6 : IntKind.i64.wrap (10 * dZ t i) = 10 * dZ t i := IntWalk.i64_in _ (by omega)
        have H0 : IntKind.i64.wrap (10 * dZ t i + ((c.toNat : Int) - 48)) = dZ t (i + 1) := by rw [dZ, dD lH]; exact IntWalk.i64_in _ (by omega)
        simp only [bf,hw,fP,hu,s5,s6,H0,sl,cv,go_sem,reduceIte,zA,zB,zC,zD,zE,zF,reduceCtorEq]
        refine bX _ (b5 (by omega) (by simp only [bf,hw,fP,hu,s5,s6,H0,sl,cv,go_sem,reduceIte,zA,zB,zC,zD,zE,zF,reduceCtorEq]) ?_ ?_) <;> simp only [dY,lk,reduceIte,zE]
        ·exact ⟨i + 1, rfl, aL⟩
        ·simp only [Go.Eng.intOf,List.headD_cons]; omega
       ·have cP : i = t.size := Nat.le_antisymm hi (Nat.le_of_not_lt (by simpa using uy))
        simp only [bf,sl,cv,go_sem,reduceIte,zA,zB,zC,zD,zE,zF,reduceCtorEq]
        refine hK _ ?_
        first
         | (rw [cT]; rfl)
         | (rw [dc]; subst cP; unfold jE; rw [← ht]; rfl)
    ·simp only [bf,sl,cv,go_sem,reduceIte,zA,zB,zC,zD,zE,zF,reduceCtorEq]
     refine cF (w6 173 eZ o9 t (by have := of_decide_eq_false BL; omega)) ?_
     rintro _ rfl
     simp only [bf,sl,cv,go_sem,reduceIte,zA,zB,zC,zD,zE,zF,reduceCtorEq]
     refine aT (fun lD => ?_) (fun lD => ?_)
     ·have cT : cx s = false := by rw [Aq]; simp_all [mh] <;> (intros; omega)
      simp only [bf,sl,cv,go_sem,reduceIte,zA,zB,zC,zD,zE,zF,reduceCtorEq]
      refine hK _ ?_
      first
       | (rw [cT]; rfl)
       | (rw [dc]; subst cP; unfold jE; rw [← ht]; rfl)
     ·have dc : cx s = true := by rw [Aq]; simp_all [mh] <;> (intros; omega)
      have EX : mh t = true := by rw [Aq] at dc; simp at dc; exact dc.2
      have K1 : gH eZ t = true := by unfold mh at EX; simp only [Bool.and_eq_true] at EX; exact EX.2
      have h3 : t.size ≤ 3 := by unfold mh at EX; simp only [Bool.and_eq_true,decide_eq_true_eq] at EX; exact EX.1.1.2
      simp only [bf,sl,cv,go_sem,reduceIte,zA,zB,zC,zD,zE,zF,reduceCtorEq]
      refine bk tt_ok [] [40,5] 0 [0,2,3,37,39] (fun vs => ((t.size : Int) - Go.Eng.intOf (vs.headD .undef)).toNat) (fun vs => ∃ i : Nat, vs = [num i, num (dZ t i)] ∧ i ≤ t.size) (by omega) (by simp only [bf,sl,cv,go_sem,reduceIte,zA,zB,zC,zD,zE,zF,reduceCtorEq]) (⟨0, rfl, Nat.zero_le _⟩) fun vs hI Z2 jD => ?_
      obtain ⟨i, rfl, hi⟩ := hI
      simp only [bf,sl,cv,go_sem,reduceIte,zA,zB,zC,zD,zE,zF,reduceCtorEq]
      refine aT (fun uy => ?_) (fun uy => ?_)
      ·have aL : i < t.size := by simpa using uy
       have hw := aq i (by omega)
       obtain ⟨c, lH⟩ := cr (s := t) (i := i) aL
       have fP := dI (P := Tryz.prog) t gv .i64 (i : Int) (by omega) (c := c) (show t[((i : Nat) : Int).toNat]? = some c from lH)
       have K2 := sZ K1 lH
       unfold eZ at K2
       simp only [Bool.and_eq_true,decide_eq_true_eq] at K2
       obtain ⟨Qz, Mc⟩ := HX K1 h3 hi
       have hu : IntKind.u8.wrap ((c.toNat : Int) - 48) = (c.toNat : Int) - 48 := by have h := c.toNat_lt; simp only [IntKind.wrap,IntKind.bits,IntKind.signed]; simp; omega
       have s5 : IntKind.i64.wrap ((c.toNat : Int) - 48) = (c.toNat : Int) - 48 := IntWalk.i64_in _ (by omega)
       have s6 : IntKind.i64.wrap (10 * dZ t i) = 10 * dZ t i := IntWalk.i64_in _ (by omega)
       have H0 : IntKind.i64.wrap (10 * dZ t i + ((c.toNat : Int) - 48)) = dZ t (i + 1) := by rw [dZ, dD lH]; exact IntWalk.i64_in _ (by omega)
       simp only [bf,hw,fP,hu,s5,s6,H0,sl,cv,go_sem,reduceIte,zA,zB,zC,zD,zE,zF,reduceCtorEq]
       refine jD _ (b5 (by omega) (by simp only [bf,hw,fP,hu,s5,s6,H0,sl,cv,go_sem,reduceIte,zA,zB,zC,zD,zE,zF,reduceCtorEq]) ?_ ?_) <;> simp only [dY,lk,reduceIte,zE]
       ·exact ⟨i + 1, rfl, aL⟩
       ·simp only [Go.Eng.intOf,List.headD_cons]; omega
      ·have cP : i = t.size := Nat.le_antisymm hi (Nat.le_of_not_lt (by simpa using uy))
       simp only [bf,sl,cv,go_sem,reduceIte,zA,zB,zC,zD,zE,zF,reduceCtorEq]
       refine hK _ ?_
       first
        | (rw [cT]; rfl)
        | (rw [dc]; subst cP; unfold jE; rw [← ht]; rfl)
end Go.Proofs.YtefbaladomfccaaGreatDoor
end

section
namespace Go.Proofs.YtefbaladomfccaaGreatDoor
open Go.Eng
open Nat renaming reduceAdd → zA, reduceLT → zB, reduceLeDiff → zC, reduceMul → zD, reduceEqDiff → zE, reduceSub → zF
variable [aK]
set_option maxHeartbeats 4000000
set_option maxRecDepth 100000
def vg (s : ByteArray) : ByteArray := (pieces s).getLast?.getD ⟨#[]⟩
def bZ (s : ByteArray) : Bool := cx (vg s) && decide (s.size ≤ 64) && decide (2 ≤ (pieces s).length) && (pieces s).all nb
def cC (s : ByteArray) : Int := if bZ s = true then jE (vg s) else 0
def bM (s : ByteArray) : Int := if bZ s = true then 0 else 4
theorem vh (s : ByteArray) : (pieces s).length ≤ s.size + 1 := by
 rw [eP]
 have := Lib.countB_le ⟨#[47]⟩ (by decide) s.size s (Nat.le_refl _)
 omega
theorem zm {s z : ByteArray} (h : (pieces s)[(pieces s).length - 1]? = some z) : vg s = z := by
 unfold vg
 rw [List.getLast?_eq_getElem?, h]; rfl
theorem H2 {α : Type} {q : α → Bool} {l : List α} (h : ∀ j < l.length, ∀ x, l[j]? = some x → q x = true) : l.all q = true := by
 rw [List.all_eq_true]
 intro x hx
 obtain ⟨j, hj⟩ := List.mem_iff_getElem?.1 hx
 exact h j (List.getElem?_eq_some_iff.1 hj).1 x hj
theorem BM {α : Type} {q : α → Bool} {l : List α} {i : Nat} {x : α} (h : l[i]? = some x) (hq : q x = false) : l.all q = false := by
 cases ha : l.all q with
 | false => rfl
 | true => have := List.all_eq_true.1 ha x (List.mem_of_getElem? h); rw [hq] at this; cases this
theorem zn {s : ByteArray} (h : bZ s = true) : 0 ≤ Lib.lastIndexByte s 47 ∧ Lib.lastIndexByte s 47 ≤ s.size := by
 unfold bZ at h
 simp only [Bool.and_eq_true,decide_eq_true_eq] at h
 obtain ⟨⟨-, h2⟩, -⟩ := h
 rw [eP] at h2
 have hc : Lib.countB s ⟨#[47]⟩ = s.data.toList.count 47 := by
  unfold Lib.countB
  exact Lib.count_one 47 s.data.toList
 have hm : (47 : UInt8) ∈ s.data.toList := List.count_pos_iff.1 (by omega)
 rcases Lib.lastIndexByte_spec s 47 with ⟨-, cT⟩ | ⟨i, hi, he, -⟩
 ·exfalso
  obtain ⟨j, hj⟩ := List.mem_iff_getElem?.1 hm
  have rk : j < s.size := by have := (List.getElem?_eq_some_iff.1 hj).1; simpa using this
  refine cT j rk ?_
  have h3 : s.data[j]? = some 47 := by simpa using hj
  rw [getElem!_pos s.data j (by simpa using rk)]
  have := (Array.getElem?_eq_some_iff.1 h3).2
  rw [this]; rfl
 ·rw [he]; omega
theorem s7 (hG : aK.g = some 0) (s : ByteArray) (hs : s.size ≤ 1048576) : ∃ r_, (fun w => w = .ch [num (cC s), num (bM s)]) r_ ∧ aR Tryz.prog 118 [str s] r_ := by
 refine eu tt_ok [] 49 [.tmp 2, .tmp 3] (fn := Tryz.f118) Tryz.func118 rfl Tryz.call118 ⟨rfl, rfl, by simp⟩ fun K hK => ?_
 have gv : Tryz.prog.underlying 9 = some .string := by kernel_rfl
 have sl : ∀ (a : ByteArray) (ty : TypeId), dh Tryz.prog (Builtin.len_ #[9] ty) [.sc (.string a)] = some (num a.size) := fun a ty => cH (P := Tryz.prog) (tt := tt) (T := 9) a gv ty
 simp only [sl,List.length_map,go_sem,reduceIte,zA,zB,zC,zD,zE,zF,reduceCtorEq]
 refine cF (⟨_, rfl, HJ hG s (by omega)⟩) ?_
 rintro _ rfl
 obtain ⟨P, hP⟩ : ∃ P, P = pieces s := ⟨_, rfl⟩
 have QO := vh s
 have W5 := eP s
 rw [← hP]
 rw [← hP] at QO W5
 obtain ⟨z, hz⟩ : ∃ z, P[P.length - 1]? = some z := ⟨_, List.getElem?_eq_getElem (by omega)⟩
 have oh : vg s = z := zm (by rw [← hP]; exact hz)
 have eV : IntKind.i64.wrap ((P.length : Int) - 1) = ((P.length - 1 : Nat) : Int) := jo _ _ (by omega) (by omega)
 simp only [List.getElem?_map,hz,eV,sl,List.length_map,go_sem,reduceIte,zA,zB,zC,zD,zE,zF,reduceCtorEq]
 refine cF (BK hG z) ?_
 rintro _ rfl
 simp only [List.getElem?_map,hz,eV,sl,List.length_map,go_sem,reduceIte,zA,zB,zC,zD,zE,zF,reduceCtorEq]
 refine aT (fun Td => ?_) (fun Td => ?_)
 ·have cT : bZ s = false := by unfold bZ; rw [oh, ← hP]; simp_all <;> (intros; omega)
  simp only [List.getElem?_map,hz,eV,sl,List.length_map,go_sem,reduceIte,zA,zB,zC,zD,zE,zF,reduceCtorEq]
  refine hK _ ?_
  first
   | (unfold cC bM; rw [cT]; rfl)
   | (unfold cC bM; rw [dc, oh]; simp_all; done)
   | (unfold cC bM; rw [dc, oh]; simp_all; rfl)
 ·simp only [List.getElem?_map,hz,eV,sl,List.length_map,go_sem,reduceIte,zA,zB,zC,zD,zE,zF,reduceCtorEq]
  refine aT (fun Te => ?_) (fun Te => ?_)
  ·have cT : bZ s = false := by unfold bZ; rw [oh, ← hP]; simp_all <;> (intros; omega)
   simp only [List.getElem?_map,hz,eV,sl,List.length_map,go_sem,reduceIte,zA,zB,zC,zD,zE,zF,reduceCtorEq]
   refine hK _ ?_
   first
    | (unfold cC bM; rw [cT]; rfl)
    | (unfold cC bM; rw [dc, oh]; simp_all; done)
    | (unfold cC bM; rw [dc, oh]; simp_all; rfl)
  ·simp only [List.getElem?_map,hz,eV,sl,List.length_map,go_sem,reduceIte,zA,zB,zC,zD,zE,zF,reduceCtorEq]
   refine aT (fun w8 => ?_) (fun w8 => ?_)
   ·have cT : bZ s = false := by unfold bZ; rw [oh, ← hP]; simp_all <;> (intros; omega)
    simp only [List.getElem?_map,hz,eV,sl,List.length_map,go_sem,reduceIte,zA,zB,zC,zD,zE,zF,reduceCtorEq]
    refine hK _ ?_
    first
     | (unfold cC bM; rw [cT]; rfl)
     | (unfold cC bM; rw [dc, oh]; simp_all; done)
     | (unfold cC bM; rw [dc, oh]; simp_all; rfl)
   ·simp only [List.getElem?_map,hz,eV,sl,List.length_map,go_sem,reduceIte,zA,zB,zC,zD,zE,zF,reduceCtorEq]
    refine bk tt_ok [] [35] 0 [5,32,33,34] (fun vs => ((P.length : Int) - Go.Eng.intOf (vs.headD .undef)).toNat) (fun vs => ∃ i : Nat, vs = [num i] ∧ i ≤ P.length ∧ ∀ j < i, ∀ x, P[j]? = some x → nb x = true) (by omega) (by simp only [List.getElem?_map,hz,eV,sl,List.length_map,go_sem,reduceIte,zA,zB,zC,zD,zE,zF,reduceCtorEq]) (⟨0, rfl, Nat.zero_le _, fun j hj => absurd hj (Nat.not_lt_zero j)⟩) fun vs hI Z1 bX => ?_
    obtain ⟨i, rfl, hi, bp⟩ := hI
    simp only [List.getElem?_map,hz,eV,sl,List.length_map,go_sem,reduceIte,zA,zB,zC,zD,zE,zF,reduceCtorEq]
    refine aT (fun nU => ?_) (fun nU => ?_)
    ·have aL : i < P.length := by simpa using nU
     have hw := aq i (by omega)
     obtain ⟨x, hx⟩ : ∃ x, P[i]? = some x := ⟨_, List.getElem?_eq_getElem aL⟩
     simp only [List.getElem?_map,hz,eV,hw,hx,sl,List.length_map,go_sem,reduceIte,zA,zB,zC,zD,zE,zF,reduceCtorEq]
     refine cF (EW hG x) ?_
     rintro _ rfl
     simp only [List.getElem?_map,hz,eV,hw,hx,sl,List.length_map,go_sem,reduceIte,zA,zB,zC,zD,zE,zF,reduceCtorEq]
     refine aT (fun zo => ?_) (fun zo => ?_)
     ·have cT : bZ s = false := by
       have ha : P.all nb = false := BM hx (by unfold nb; simp_all)
       unfold bZ; rw [← hP, ha]; simp
      simp only [List.getElem?_map,hz,eV,hw,hx,sl,List.length_map,go_sem,reduceIte,zA,zB,zC,zD,zE,zF,reduceCtorEq]
      refine hK _ ?_
      first
       | (unfold cC bM; rw [cT]; rfl)
       | (unfold cC bM; rw [dc, oh]; simp_all; done)
       | (unfold cC bM; rw [dc, oh]; simp_all; rfl)
     ·have hnm : kx x = true := by simpa using zo
      simp only [List.getElem?_map,hz,eV,hw,hx,sl,List.length_map,go_sem,reduceIte,zA,zB,zC,zD,zE,zF,reduceCtorEq]
      refine cF (w6 171 sP SS x (by have h := hnm; unfold kx at h; simp only [Bool.and_eq_true,decide_eq_true_eq] at h; omega)) ?_
      rintro _ rfl
      simp only [List.getElem?_map,hz,eV,hw,hx,sl,List.length_map,go_sem,reduceIte,zA,zB,zC,zD,zE,zF,reduceCtorEq]
      refine aT (fun W6 => ?_) (fun W6 => ?_)
      ·have cT : bZ s = false := by
        have ha : P.all nb = false := BM hx (by unfold nb; simp_all)
        unfold bZ; rw [← hP, ha]; simp
       simp only [List.getElem?_map,hz,eV,hw,hx,sl,List.length_map,go_sem,reduceIte,zA,zB,zC,zD,zE,zF,reduceCtorEq]
       refine hK _ ?_
       first
        | (unfold cC bM; rw [cT]; rfl)
        | (unfold cC bM; rw [dc, oh]; simp_all; done)
        | (unfold cC bM; rw [dc, oh]; simp_all; rfl)
      ·simp only [List.getElem?_map,hz,eV,hw,hx,sl,List.length_map,go_sem,reduceIte,zA,zB,zC,zD,zE,zF,reduceCtorEq]
       refine bX _ (b5 (by omega) (by simp only [List.getElem?_map,hz,eV,hw,hx,sl,List.length_map,go_sem,reduceIte,zA,zB,zC,zD,zE,zF,reduceCtorEq]) ?_ ?_) <;> simp only [dY,lk,reduceIte,zE]
       ·refine ⟨i + 1, rfl, aL, fun j hj => ?_⟩
        rcases Nat.lt_or_ge j i with h | h
        ·exact bp j h
        ·obtain rfl : j = i := by omega
         intro y hy
         rw [hx] at hy; cases hy; unfold nb; simp_all
       ·simp only [Go.Eng.intOf,List.headD_cons]; omega
    ·have cP : ¬ i < P.length := by simpa using nU
     have dc : bZ s = true := by
      have ha : P.all nb = true := H2 fun j hj => bp j (by omega)
      unfold bZ; rw [oh, ← hP, ha]; simp_all <;> omega
     simp only [List.getElem?_map,hz,eV,sl,List.length_map,go_sem,reduceIte,zA,zB,zC,zD,zE,zF,reduceCtorEq]
     refine hK _ ?_
     first
      | (unfold cC bM; rw [cT]; rfl)
      | (unfold cC bM; rw [dc, oh]; simp_all; done)
      | (unfold cC bM; rw [dc, oh]; simp_all; rfl)
theorem vi (hG : aK.g = some 0) (s : ByteArray) (hs : s.size ≤ 1048576) : ∃ r_, (fun w => w = bl (bZ s)) r_ ∧ aR Tryz.prog 119 [str s] r_ := by
 refine eu tt_ok [] 12 [.tmp 2] (fn := Tryz.f119) Tryz.func119 rfl Tryz.call119 ⟨rfl, rfl, by simp⟩ fun K hK => ?_
 simp only [go_sem,reduceIte,zA,zB,zC,zD,zE,zF,reduceCtorEq]
 refine cF (s7 hG s hs) ?_
 rintro _ rfl
 simp only [go_sem,reduceIte,zA,zB,zC,zD,zE,zF,reduceCtorEq]
 exact hK _ (congrArg bl (by unfold bM; by_cases h : bZ s = true <;> simp [h]))
theorem K3 (hG : aK.g = some 0) (s : ByteArray) (hs : s.size ≤ 1048576) : ∃ r_, (fun w => ∃ nm : ByteArray, w = .ch [str nm, num (cC s), num (bM s)]) r_ ∧ aR Tryz.prog 71 [str s] r_ := by
 refine eu tt_ok [] 24 [.tmp 2, .tmp 3, .tmp 4] (fn := Tryz.f71) Tryz.func71 rfl Tryz.call71 ⟨rfl, rfl, by simp⟩ fun K hK => ?_
 have gv : Tryz.prog.underlying 9 = some .string := by kernel_rfl
 have sl : ∀ (a : ByteArray) (ty : TypeId), dh Tryz.prog (Builtin.len_ #[9] ty) [.sc (.string a)] = some (num a.size) := fun a ty => cH (P := Tryz.prog) (tt := tt) (T := 9) a gv ty
 simp only [sl,go_sem,reduceIte,zA,zB,zC,zD,zE,zF,reduceCtorEq]
 refine cF (s7 hG s hs) ?_
 rintro _ rfl
 simp only [sl,go_sem,reduceIte,zA,zB,zC,zD,zE,zF,reduceCtorEq]
 refine cF (vi hG s hs) ?_
 rintro _ rfl
 simp only [sl,go_sem,reduceIte,zA,zB,zC,zD,zE,zF,reduceCtorEq]
 refine aT (fun H3 => ?_) (fun H3 => ?_)
 ·have cT : bZ s = false := by simp_all [bM]
  have e1 : cC s = 0 := by unfold cC; rw [cT]; rfl
  have e2 : bM s = 4 := by unfold bM; rw [cT]; rfl
  simp only [sl,go_sem,reduceIte,zA,zB,zC,zD,zE,zF,reduceCtorEq]
  first
   | exact hK _ ⟨⟨#[]⟩, by rw [e1, e2] <;> rfl⟩
   | exact hK _ ⟨_, by rw [e2] <;> rfl⟩
 ·simp only [sl,go_sem,reduceIte,zA,zB,zC,zD,zE,zF,reduceCtorEq]
  refine aT (fun Pb => ?_) (fun Pb => ?_)
  ·have cT : bZ s = false := by simp_all [bM]
   have e1 : cC s = 0 := by unfold cC; rw [cT]; rfl
   have e2 : bM s = 4 := by unfold bM; rw [cT]; rfl
   simp only [sl,go_sem,reduceIte,zA,zB,zC,zD,zE,zF,reduceCtorEq]
   first
    | exact hK _ ⟨⟨#[]⟩, by rw [e1, e2] <;> rfl⟩
    | exact hK _ ⟨_, by rw [e2] <;> rfl⟩
  ·have dc : bZ s = true := by cases h : bZ s <;> simp_all [bM]
   obtain ⟨j9, ua⟩ := zn dc
   have Pc : bE Tryz.prog (fun a h => Instr.sliceAt 9 a none (some h) none) (.sc (.string s)) (.sc (.int .i64 (Lib.lastIndexByte s 47))) = some (.sc (.string (s.extract 0 (Lib.lastIndexByte s 47).toNat))) := sh (P := Tryz.prog) (tt := tt) (mem := []) (T := 9) s gv .i64 (Lib.lastIndexByte s 47) j9 ua
   have e2 : bM s = 0 := by unfold bM; rw [dc]; rfl
   simp only [Pc,sl,go_sem,reduceIte,zA,zB,zC,zD,zE,zF,reduceCtorEq]
   refine cF (⟨_, rfl, u9 hG s (by omega)⟩) ?_
   rintro _ rfl
   simp only [Pc,sl,go_sem,reduceIte,zA,zB,zC,zD,zE,zF,reduceCtorEq]
   first
    | exact hK _ ⟨⟨#[]⟩, by rw [e1, e2] <;> rfl⟩
    | exact hK _ ⟨_, by rw [e2] <;> rfl⟩
end Go.Proofs.YtefbaladomfccaaGreatDoor
end

section
namespace Go.Proofs.YtefbaladomfccaaGreatDoor
open Go.Eng
open Nat renaming reduceAdd → zA, reduceLT → zB, reduceLeDiff → zC, reduceMul → zD, reduceEqDiff → zE, reduceSub → zF
variable [aK]
set_option maxHeartbeats 4000000
set_option maxRecDepth 100000
structure fQ where
 id : ByteArray
 path : ByteArray
 set : List cj
 syms : List ByteArray
 note : ByteArray
def aj (a : fQ) : List V := [str a.id, str a.path, .slice (a.set.map au), .slice (a.syms.map str), str a.note]
def ay (a : fQ) : V := .agg (aj a)
def MG (a : fQ) : Prop := a.path.size ≤ 1048576 ∧ a.set.length ≤ 1048576 ∧ a.syms.length ≤ 1048576
def fJ (a : fQ) (s : kr) : Bool := s.bW.ok && decide (s.path = a.path) && has a.set s.bW.pl
theorem K4 (a : fQ) (s : kr) (hl : a.set.length ≤ 1048576) : ∃ r_, (fun w => w = bl (fJ a s)) r_ ∧ aR Tryz.prog 56 [ay a, a6 s] r_ := by
 refine eu tt_ok [] 28 [.tmp 4] (fn := Tryz.f56) Tryz.func56 rfl Tryz.call56 ⟨rfl, rfl, by simp⟩ fun K hK => ?_
 simp only [ay,aj,a6]
 simp only [go_sem,reduceIte,zA,zB,zC,zD,zE,zF,reduceCtorEq]
 refine cF (by have h := EN s.bW; simp only [b7] at h; exact h) ?_
 rintro _ rfl
 simp only [go_sem,reduceIte,zA,zB,zC,zD,zE,zF,reduceCtorEq]
 refine aT (fun jU => ?_) (fun jU => ?_)
 ·simp only [go_sem,reduceIte,zA,zB,zC,zD,zE,zF,reduceCtorEq]
  refine aT (fun Tf => ?_) (fun Tf => ?_)
  ·simp only [go_sem,reduceIte,zA,zB,zC,zD,zE,zF,reduceCtorEq]
   refine cF (by have h := OW a.set s.bW.pl hl; simp only [bY] at h; exact h) ?_
   rintro _ rfl
   simp only [go_sem,reduceIte,zA,zB,zC,zD,zE,zF,reduceCtorEq]
   refine hK _ (congrArg bl ?_)
   unfold fJ
   simp_all [aJ]
  ·simp only [go_sem,reduceIte,zA,zB,zC,zD,zE,zF,reduceCtorEq]
   refine hK _ (congrArg bl ?_)
   unfold fJ
   simp_all [aJ]
 ·simp only [go_sem,reduceIte,zA,zB,zC,zD,zE,zF,reduceCtorEq]
  refine hK _ (congrArg bl ?_)
  unfold fJ
  simp_all [aJ]
theorem H4 (a : fQ) (s : kr) (hl : a.set.length ≤ 1048576) : ∃ r_, (fun w => w = bl (fJ a s)) r_ ∧ bF Tryz.prog 69 [a6 s, .ptr 0 0] ([.box [str a.id, str a.path, .slice (a.set.map au), .slice (a.syms.map str), str a.note]]) r_ ([.box [str a.id, str a.path, .slice (a.set.map au), .slice (a.syms.map str), str a.note]]) := by
 refine Mz tt_ok [] 7 [.tmp 3] (fn := Tryz.f69) Tryz.func69 rfl Tryz.call69 ⟨rfl, rfl, by simp⟩ fun K hK => ?_
 simp only [a6]
 simp only [go_sem,reduceIte,zA,zB,zC,zD,zE,zF,reduceCtorEq]
 refine cF (by have h := K4 a s hl; simp only [ay,aj,a6] at h; exact h) ?_
 rintro _ rfl
 simp only [go_sem,reduceIte,zA,zB,zC,zD,zE,zF,reduceCtorEq]
 exact hK _ _ ⟨rfl, rfl⟩
theorem K5 (a : fQ) (ha : a.set.length ≤ 1048576) (l : List kr) (hl : l.length ≤ 1048576) : ∃ r_, (fun w => ∃ k : Int, w = num k ∧ decide (0 ≤ k) = l.any (fJ a)) r_ ∧ bF Tryz.prog 110 [.slice (l.map a6), .iw (.func 69) [] [.ptr 0 0]] ([.box [str a.id, str a.path, .slice (a.set.map au), .slice (a.syms.map str), str a.note]]) r_ ([.box [str a.id, str a.path, .slice (a.set.map au), .slice (a.syms.map str), str a.note]]) := by
 refine Mz tt_ok [] 19 [.tmp 4] (fn := Tryz.f110) Tryz.func110 rfl Tryz.call110 ⟨rfl, rfl, by simp⟩ fun K hK => ?_
 simp only [List.length_map,go_sem,reduceIte,zA,zB,zC,zD,zE,zF,reduceCtorEq]
 refine bk tt_ok [] [8] 1 [0,1,7] (fun vs => ((l.length : Int) - Go.Eng.intOf (vs.headD .undef)).toNat) (fun vs => ∃ i : Nat, vs = [num i] ∧ i ≤ l.length ∧ ∀ j < i, ∀ x, l[j]? = some x → fJ a x = false) (by omega) (by simp only [List.length_map,go_sem,reduceIte,zA,zB,zC,zD,zE,zF,reduceCtorEq]) (⟨0, rfl, Nat.zero_le _, fun j hj => absurd hj (Nat.not_lt_zero j)⟩) fun vs hI Z1 bX => ?_
 obtain ⟨i, rfl, hi, bp⟩ := hI
 simp only [List.length_map,go_sem,reduceIte,zA,zB,zC,zD,zE,zF,reduceCtorEq]
 refine aT (fun jC => ?_) (fun jC => ?_)
 ·have aL : i < l.length := by simpa using jC
  have hw := aq i (by omega)
  obtain ⟨x, hx⟩ : ∃ x, l[i]? = some x := ⟨_, List.getElem?_eq_getElem aL⟩
  simp only [hw,List.getElem?_map,hx,a6,List.length_map,go_sem,reduceIte,zA,zB,zC,zD,zE,zF,reduceCtorEq]
  refine cS (by have h := H4 a x ha; simp only [a6] at h; exact h) ?_
  rintro _ rfl
  simp only [hw,List.getElem?_map,hx,a6,List.length_map,go_sem,reduceIte,zA,zB,zC,zD,zE,zF,reduceCtorEq]
  refine aT (fun ik => ?_) (fun ik => ?_)
  ·have ax : decide (0 ≤ (i : Int)) = l.any (fJ a) := by rw [nR hx ik]; exact decide_eq_true (Int.natCast_nonneg i)
   simp only [hw,List.getElem?_map,hx,a6,List.length_map,go_sem,reduceIte,zA,zB,zC,zD,zE,zF,reduceCtorEq]
   exact hK _ _ ⟨⟨_, rfl, ax⟩, rfl⟩
  ·simp only [hw,List.getElem?_map,hx,a6,List.length_map,go_sem,reduceIte,zA,zB,zC,zD,zE,zF,reduceCtorEq]
   refine bX _ (b5 (by omega) (by simp only [hw,List.getElem?_map,hx,a6,List.length_map,go_sem,reduceIte,zA,zB,zC,zD,zE,zF,reduceCtorEq]) ?_ ?_) <;> simp only [dY,lk,reduceIte,zE]
   ·refine ⟨i + 1, rfl, aL, fun j hj => ?_⟩
    rcases Nat.lt_or_ge j i with h | h
    ·exact bp j h
    ·obtain rfl : j = i := by omega
     intro y hy
     rw [hx] at hy; cases hy; exact ik
   ·simp only [Go.Eng.intOf,List.headD_cons]; omega
 ·have cP : ¬ i < l.length := by simpa using jC
  have ax : decide (0 ≤ (-1 : Int)) = l.any (fJ a) := (any_none fun j hj => bp j (by omega)).symm ▸ rfl
  simp only [List.length_map,go_sem,reduceIte,zA,zB,zC,zD,zE,zF,reduceCtorEq]
  exact hK _ _ ⟨⟨_, rfl, ax⟩, rfl⟩
theorem K6 (a : fQ) (ha : a.set.length ≤ 1048576) (l : List kr) (hl : l.length ≤ 1048576) : ∃ r_, (fun w => w = bl (l.any (fJ a))) r_ ∧ bF Tryz.prog 68 [.slice (l.map a6), .iw (.func 69) [] [.ptr 0 0]] ([.box [str a.id, str a.path, .slice (a.set.map au), .slice (a.syms.map str), str a.note]]) r_ ([.box [str a.id, str a.path, .slice (a.set.map au), .slice (a.syms.map str), str a.note]]) := by
 refine Mz tt_ok [] 9 [.tmp 4] (fn := Tryz.f68) Tryz.func68 rfl Tryz.call68 ⟨rfl, rfl, by simp⟩ fun K hK => ?_
 simp only [go_sem,reduceIte,zA,zB,zC,zD,zE,zF,reduceCtorEq]
 refine cS (K5 a ha l hl) ?_
 rintro _ ⟨k, rfl, hk⟩
 simp only [go_sem,reduceIte,zA,zB,zC,zD,zE,zF,reduceCtorEq]
 exact hK _ _ ⟨congrArg bl hk, rfl⟩
theorem H5 (a : fQ) (ha : a.set.length ≤ 1048576) (l : List kr) (hl : l.length ≤ 1048576) : ∃ r_, (fun w => w = bl (l.any (fJ a))) r_ ∧ aR Tryz.prog 27 [ay a, .slice (l.map a6)] r_ := by
 refine eu tt_ok [] 8 [.tmp 4] (fn := Tryz.f27) Tryz.func27 rfl Tryz.call27 ⟨rfl, rfl, by simp⟩ fun K hK => ?_
 simp only [ay,aj]
 simp only [go_sem,reduceIte,zA,zB,zC,zD,zE,zF,reduceCtorEq]
 refine cS (K6 a ha l hl) ?_
 rintro _ rfl
 simp only [go_sem,reduceIte,zA,zB,zC,zD,zE,zF,reduceCtorEq]
 exact hK _ rfl
theorem Pd (l : List fQ) (hl : l.length ≤ 1048576) : ∃ r_, OK r_ ∧ aR Tryz.prog 10 [.slice (l.map ay)] r_ := by
 refine eu tt_ok [] 58 [.tmp 2] (fn := Tryz.f10) Tryz.func10 rfl Tryz.call10 ⟨rfl, rfl, by simp⟩ fun K hK => ?_
 have gv : Tryz.prog.underlying 9 = some .string := by kernel_rfl
 have sl : ∀ (a : ByteArray) (ty : TypeId), dh Tryz.prog (Builtin.len_ #[9] ty) [.sc (.string a)] = some (num a.size) := fun a ty => cH (P := Tryz.prog) (tt := tt) (T := 9) a gv ty
 simp only [List.length_map,sl,go_sem,reduceIte,zA,zB,zC,zD,zE,zF,reduceCtorEq]
 refine bk tt_ok [] [3] 0 [0] (fun vs => ((l.length : Int) - Go.Eng.intOf (vs.headD .undef)).toNat) (fun vs => ∃ i : Nat, vs = [num i] ∧ i ≤ l.length) (by omega) (by simp only [List.length_map,sl,go_sem,reduceIte,zA,zB,zC,zD,zE,zF,reduceCtorEq]) (⟨0, rfl, Nat.zero_le _⟩) fun vs hI Z1 bX => ?_
 obtain ⟨i, rfl, hi⟩ := hI
 simp only [List.length_map,sl,go_sem,reduceIte,zA,zB,zC,zD,zE,zF,reduceCtorEq]
 refine aT (fun Bx => ?_) (fun Bx => ?_)
 ·have bD : i < l.length := by simpa using Bx
  have aP := aq i (by omega)
  obtain ⟨x, hx⟩ : ∃ x, l[i]? = some x := ⟨_, List.getElem?_eq_getElem bD⟩
  simp only [aP,hx,List.getElem?_map,ay,aj,List.length_map,sl,go_sem,reduceIte,zA,zB,zC,zD,zE,zF,reduceCtorEq]
  refine aT (fun Tg => ?_) (fun Tg => ?_)
  ·simp only [aP,hx,List.getElem?_map,ay,aj,List.length_map,sl,go_sem,reduceIte,zA,zB,zC,zD,zE,zF,reduceCtorEq]
   exact hK _ ⟨_, rfl⟩
  ·simp only [aP,hx,List.getElem?_map,ay,aj,List.length_map,sl,go_sem,reduceIte,zA,zB,zC,zD,zE,zF,reduceCtorEq]
   refine aT (fun Pe => ?_) (fun Pe => ?_)
   ·simp only [aP,hx,List.getElem?_map,ay,aj,List.length_map,sl,go_sem,reduceIte,zA,zB,zC,zD,zE,zF,reduceCtorEq]
    exact hK _ ⟨_, rfl⟩
   ·simp only [aP,hx,List.getElem?_map,ay,aj,List.length_map,sl,go_sem,reduceIte,zA,zB,zC,zD,zE,zF,reduceCtorEq]
    refine aT (fun Pf => ?_) (fun Pf => ?_)
    ·simp only [aP,hx,List.getElem?_map,ay,aj,List.length_map,sl,go_sem,reduceIte,zA,zB,zC,zD,zE,zF,reduceCtorEq]
     exact hK _ ⟨_, rfl⟩
    ·simp only [aP,hx,List.getElem?_map,ay,aj,List.length_map,sl,go_sem,reduceIte,zA,zB,zC,zD,zE,zF,reduceCtorEq]
     refine aT (fun Pg => ?_) (fun Pg => ?_)
     ·simp only [aP,hx,List.getElem?_map,ay,aj,List.length_map,sl,go_sem,reduceIte,zA,zB,zC,zD,zE,zF,reduceCtorEq]
      refine aT (fun Ph => ?_) (fun Ph => ?_)
      ·simp only [aP,hx,List.getElem?_map,ay,aj,List.length_map,sl,go_sem,reduceIte,zA,zB,zC,zD,zE,zF,reduceCtorEq]
       exact hK _ ⟨_, rfl⟩
      ·simp only [aP,hx,List.getElem?_map,ay,aj,List.length_map,sl,go_sem,reduceIte,zA,zB,zC,zD,zE,zF,reduceCtorEq]
       refine aT (fun BN => ?_) (fun BN => ?_)
       ·simp only [aP,hx,List.getElem?_map,ay,aj,List.length_map,sl,go_sem,reduceIte,zA,zB,zC,zD,zE,zF,reduceCtorEq]
        refine aT (fun Pj => ?_) (fun Pj => ?_)
        ·simp only [aP,hx,List.getElem?_map,ay,aj,List.length_map,sl,go_sem,reduceIte,zA,zB,zC,zD,zE,zF,reduceCtorEq]
         exact hK _ ⟨_, rfl⟩
        ·simp only [aP,hx,List.getElem?_map,ay,aj,List.length_map,sl,go_sem,reduceIte,zA,zB,zC,zD,zE,zF,reduceCtorEq]
         refine bX _ (b5 (by omega) (by simp only [aP,hx,List.getElem?_map,ay,aj,List.length_map,sl,go_sem,reduceIte,zA,zB,zC,zD,zE,zF,reduceCtorEq]) ?_ ?_) <;> simp only [dY,lk,reduceIte,zE]
         ·exact ⟨i + 1, rfl, bD⟩
         ·simp only [Go.Eng.intOf,List.headD_cons]; omega
       ·simp only [aP,hx,List.getElem?_map,ay,aj,List.length_map,sl,go_sem,reduceIte,zA,zB,zC,zD,zE,zF,reduceCtorEq]
        refine bX _ (b5 (by omega) (by simp only [aP,hx,List.getElem?_map,ay,aj,List.length_map,sl,go_sem,reduceIte,zA,zB,zC,zD,zE,zF,reduceCtorEq]) ?_ ?_) <;> simp only [dY,lk,reduceIte,zE]
        ·exact ⟨i + 1, rfl, bD⟩
        ·simp only [Go.Eng.intOf,List.headD_cons]; omega
     ·simp only [aP,hx,List.getElem?_map,ay,aj,List.length_map,sl,go_sem,reduceIte,zA,zB,zC,zD,zE,zF,reduceCtorEq]
      refine aT (fun BN => ?_) (fun BN => ?_)
      ·simp only [aP,hx,List.getElem?_map,ay,aj,List.length_map,sl,go_sem,reduceIte,zA,zB,zC,zD,zE,zF,reduceCtorEq]
       refine aT (fun Pj => ?_) (fun Pj => ?_)
       ·simp only [aP,hx,List.getElem?_map,ay,aj,List.length_map,sl,go_sem,reduceIte,zA,zB,zC,zD,zE,zF,reduceCtorEq]
        exact hK _ ⟨_, rfl⟩
       ·simp only [aP,hx,List.getElem?_map,ay,aj,List.length_map,sl,go_sem,reduceIte,zA,zB,zC,zD,zE,zF,reduceCtorEq]
        refine bX _ (b5 (by omega) (by simp only [aP,hx,List.getElem?_map,ay,aj,List.length_map,sl,go_sem,reduceIte,zA,zB,zC,zD,zE,zF,reduceCtorEq]) ?_ ?_) <;> simp only [dY,lk,reduceIte,zE]
        ·exact ⟨i + 1, rfl, bD⟩
        ·simp only [Go.Eng.intOf,List.headD_cons]; omega
      ·simp only [aP,hx,List.getElem?_map,ay,aj,List.length_map,sl,go_sem,reduceIte,zA,zB,zC,zD,zE,zF,reduceCtorEq]
       refine bX _ (b5 (by omega) (by simp only [aP,hx,List.getElem?_map,ay,aj,List.length_map,sl,go_sem,reduceIte,zA,zB,zC,zD,zE,zF,reduceCtorEq]) ?_ ?_) <;> simp only [dY,lk,reduceIte,zE]
       ·exact ⟨i + 1, rfl, bD⟩
       ·simp only [Go.Eng.intOf,List.headD_cons]; omega
 ·have gw : i = l.length := by have := of_decide_eq_false Bx; omega
  simp only [List.length_map,sl,go_sem,reduceIte,zA,zB,zC,zD,zE,zF,reduceCtorEq]
  exact hK _ ⟨_, rfl⟩
end Go.Proofs.YtefbaladomfccaaGreatDoor
end

section
namespace Go.Proofs.YtefbaladomfccaaGreatDoor
open Go.Eng
set_option maxHeartbeats 4000000
set_option maxRecDepth 100000
theorem okWide_slice {P : Program} {W : World} {base : Nat} {T e : TypeId} {v : Value} (hT : P.underlying T = some (.slice e)) (h : Value.okWide P W .any base T v) : ∃ a l c, v = .slice a l c := by
 unfold Value.okWide at h
 rw [hT] at h
 unfold Cell.okWide at h
 rw [hT] at h
 cases v with
 | slice a l c => exact ⟨a, l, c, rfl⟩
 | _ => simp [Cell.ok, hT] at h
variable [aK]
theorem c3 : Tryz.prog.cellsOf 3 = 1 := by kernel_rfl
theorem c4 : Tryz.prog.cellsOf 4 = 1 := by kernel_rfl
theorem c9 : Tryz.prog.cellsOf 9 = 1 := by kernel_rfl
theorem c48 : Tryz.prog.cellsOf 48 = 1 := by kernel_rfl
theorem c49 : Tryz.prog.cellsOf 49 = 1 := by kernel_rfl
theorem Zd : Tryz.prog.cellsOf 51 = 5 := by kernel_rfl
theorem Ze : Tryz.prog.cellsOf 61 = 3 := by kernel_rfl
theorem Zf : Tryz.prog.cellsOf 63 = 4 := by kernel_rfl
theorem Zg : Tryz.prog.cellsOf 82 = 2 := by kernel_rfl
def Pk (x : mT) : Nat := 1 + 1 + 1
def zp (x : kr) : Nat := x.path.size + 1 + Pk x.bW
def zq (x : cj) : Nat := 1 + 1
def s9 (x : fQ) : Nat := x.id.size + 1 + x.path.size + 1 + (ak zq x.set + 1) + (ak (fun s : ByteArray => s.size + 1) x.syms + 1) + x.note.size + 1
section
variable {F : Addr → Option Value} {hg : Gl F} {H : Type} {enc : TypeId × Value → H} {w : World} {sp : Nat → Bool} {held : Bool} {f : Nat} {cs : List Value} {d : DataW H} {p : List MemPlace}
theorem gU {a : List V} {cs : List Value} {off n : Nat} (h1 : Rd F hg a ((cs.drop off).take n)) (h : cs.length = off + n) : Rd F hg a (cs.drop off) := by
 rwa [List.take_of_length_le (by simp; omega)] at h1
theorem j7 (h : DataW.trod enc Tryz.prog w 0 sp held f 3 cs = some (d, p)) : ∃ n : Int, Rd F hg [num n] cs ∧ 1 ≤ Rows.uptoBulk d := by
 cases f with
 | zero => simp [DataW.trod] at h
 | succ f => obtain ⟨n, rfl, rfl⟩ := trod_int Tryz.underlying3 h; exact ⟨n, Bp rfl, by simp [Rows.uptoBulk]⟩
theorem dp (h : DataW.trod enc Tryz.prog w 0 sp held f 9 cs = some (d, p)) : ∃ s : ByteArray, Rd F hg [str s] cs ∧ s.size + 1 ≤ Rows.uptoBulk d := by
 cases f with
 | zero => simp [DataW.trod] at h
 | succ f =>
  obtain ⟨n, rfl, rfl⟩ := trod_string Tryz.underlying9 h
  exact ⟨n, Bp rfl, by simp only [Rows.uptoBulk,Array.length_toList]; exact Nat.le_refl _⟩
theorem Dx (h : DataW.trod enc Tryz.prog w 0 sp held f 4 cs = some (d, p)) : ∃ b : Bool, Rd F hg [bl b] cs := by
 cases f with
 | zero => simp [DataW.trod] at h
 | succ f => obtain ⟨n, rfl, -⟩ := trod_bool Tryz.underlying4 h; exact ⟨n, Bp rfl⟩
theorem kz {T T' : TypeId} {α : Type} {row : α → V} {g : α → Nat} {n : Nat} (hF : F = w.cell?) (hT : Tryz.prog.underlying T = some (.slice T')) (hn : Tryz.prog.cellsOf T' = n)
  (hr : ∀ f', f' < f → ∀ {cs : List Value} {d : DataW H} {p : List MemPlace}, DataW.trod enc Tryz.prog w 0 sp held f' T' cs = some (d, p) → ∃ a : α, Rd F hg (row a).cells cs ∧ g a ≤ Rows.uptoBulk d)
  (h : DataW.trod enc Tryz.prog w 0 sp held f T cs = some (d, p)) : ∃ l : List α, Rd F hg [.slice (l.map row)] cs ∧ ak g l + 1 ≤ Rows.uptoBulk d := by
 cases f with
 | zero => simp [DataW.trod] at h
 | succ f => exact Hy hF hT hn (fun h => hr f (Nat.lt_succ_self f) h) h
theorem Pn (hF : F = w.cell?) (h : DataW.trod enc Tryz.prog w 0 sp held f 61 cs = some (d, p)) : ∃ x : mT, Rd F hg (b7 x).cells cs ∧ Pk x ≤ Rows.uptoBulk d := by
 cases f with
 | zero => simp [DataW.trod] at h
 | succ f =>
  obtain ⟨hl, d0, p0, h0, d1, p1, h1, d2, p2, h2, rfl⟩ := cN Tryz.underlying61 h
  simp only [c3] at h0 h1 h2
  rw [Ze] at hl
  obtain ⟨x0, a0, b0⟩ := j7 (F := F) (hg := hg) h0
  obtain ⟨x1, a1, b1⟩ := j7 (F := F) (hg := hg) h1
  obtain ⟨x2, a2, b2⟩ := j7 (F := F) (hg := hg) h2
  refine ⟨⟨x0, x1, x2⟩, ?_, ?_⟩
  ·show Rd F hg ([num x0] ++ ([num x1] ++ ([num x2]))) (cs.drop 0)
   exact ba (a := [num x0]) (off := 0) a0 (ba (a := [num x1]) a1 (gU (a := [num x2]) a2 hl))
  ·simp only [Rows.uptoBulk,Rows.uptoBulkAll,Pk]; omega
theorem Po (hF : F = w.cell?) (h : DataW.trod enc Tryz.prog w 0 sp held f 63 cs = some (d, p)) : ∃ x : kr, Rd F hg (a6 x).cells cs ∧ zp x ≤ Rows.uptoBulk d := by
 cases f with
 | zero => simp [DataW.trod] at h
 | succ f =>
  obtain ⟨hl, d0, p0, h0, d1, p1, h1, rfl⟩ := cN Tryz.underlying63 h
  simp only [c9,Ze] at h0 h1
  rw [Zf] at hl
  obtain ⟨x0, a0, b0⟩ := dp (F := F) (hg := hg) h0
  obtain ⟨x1, a1, b1⟩ := Pn (F := F) (hg := hg) hF h1
  refine ⟨⟨x0, x1⟩, ?_, ?_⟩
  ·show Rd F hg ([str x0] ++ ((b7 x1).cells)) (cs.drop 0)
   exact ba (a := [str x0]) (off := 0) a0 (gU (a := (b7 x1).cells) a1 hl)
  ·simp only [Rows.uptoBulk,Rows.uptoBulkAll,zp]; omega
theorem K7 (hF : F = w.cell?) (h : DataW.trod enc Tryz.prog w 0 sp held f 24 cs = some (d, p)) : ∃ l : List kr, Rd F hg [.slice (l.map a6)] cs ∧ ak zp l + 1 ≤ Rows.uptoBulk d :=
 kz (row := a6) (g := zp) hF Tryz.underlying24 Zf (fun f' _ {cs d p} h => Po hF h) h
theorem Pp (hF : F = w.cell?) (h : DataW.trod enc Tryz.prog w 0 sp held f 82 cs = some (d, p)) : ∃ x : cj, Rd F hg (au x).cells cs ∧ zq x ≤ Rows.uptoBulk d := by
 cases f with
 | zero => simp [DataW.trod] at h
 | succ f =>
  obtain ⟨hl, d0, p0, h0, d1, p1, h1, rfl⟩ := cN Tryz.underlying82 h
  simp only [c3] at h0 h1
  rw [Zg] at hl
  obtain ⟨x0, a0, b0⟩ := j7 (F := F) (hg := hg) h0
  obtain ⟨x1, a1, b1⟩ := j7 (F := F) (hg := hg) h1
  refine ⟨⟨x0, x1⟩, ?_, ?_⟩
  ·show Rd F hg ([num x0] ++ ([num x1])) (cs.drop 0)
   exact ba (a := [num x0]) (off := 0) a0 (gU (a := [num x1]) a1 hl)
  ·simp only [Rows.uptoBulk,Rows.uptoBulkAll,zq]; omega
theorem K8 (hF : F = w.cell?) (h : DataW.trod enc Tryz.prog w 0 sp held f 48 cs = some (d, p)) : ∃ l : List cj, Rd F hg [.slice (l.map au)] cs ∧ ak zq l + 1 ≤ Rows.uptoBulk d :=
 kz (row := au) (g := zq) hF Tryz.underlying48 Zg (fun f' _ {cs d p} h => Pp hF h) h
theorem K9 (hF : F = w.cell?) (h : DataW.trod enc Tryz.prog w 0 sp held f 49 cs = some (d, p)) : ∃ l : List ByteArray, Rd F hg [.slice (l.map str)] cs ∧ ak (fun s : ByteArray => s.size + 1) l + 1 ≤ Rows.uptoBulk d :=
 kz (row := str) (g := (fun s : ByteArray => s.size + 1)) hF Tryz.underlying49 c9 (fun f' _ {cs d p} h => dp h) h
theorem Pq (hF : F = w.cell?) (h : DataW.trod enc Tryz.prog w 0 sp held f 51 cs = some (d, p)) : ∃ x : fQ, Rd F hg (ay x).cells cs ∧ s9 x ≤ Rows.uptoBulk d := by
 cases f with
 | zero => simp [DataW.trod] at h
 | succ f =>
  obtain ⟨hl, d0, p0, h0, d1, p1, h1, d2, p2, h2, d3, p3, h3, d4, p4, h4, rfl⟩ := cN Tryz.underlying51 h
  simp only [c9,c48,c49] at h0 h1 h2 h3 h4
  rw [Zd] at hl
  obtain ⟨x0, a0, b0⟩ := dp (F := F) (hg := hg) h0
  obtain ⟨x1, a1, b1⟩ := dp (F := F) (hg := hg) h1
  obtain ⟨x2, a2, b2⟩ := K8 (F := F) (hg := hg) hF h2
  obtain ⟨x3, a3, b3⟩ := K9 (F := F) (hg := hg) hF h3
  obtain ⟨x4, a4, b4⟩ := dp (F := F) (hg := hg) h4
  refine ⟨⟨x0, x1, x2, x3, x4⟩, ?_, ?_⟩
  ·show Rd F hg ([str x0] ++ ([str x1] ++ ([.slice (x2.map au)] ++ ([.slice (x3.map str)] ++ ([str x4]))))) (cs.drop 0)
   exact ba (a := [str x0]) (off := 0) a0 (ba (a := [str x1]) a1 (ba (a := [.slice (x2.map au)]) a2 (ba (a := [.slice (x3.map str)]) a3 (gU (a := [str x4]) a4 hl))))
  ·simp only [Rows.uptoBulk,Rows.uptoBulkAll,s9]; omega
theorem La (hF : F = w.cell?) (h : DataW.trod enc Tryz.prog w 0 sp held f 25 cs = some (d, p)) : ∃ l : List fQ, Rd F hg [.slice (l.map ay)] cs ∧ ak s9 l + 1 ≤ Rows.uptoBulk d :=
 kz (row := ay) (g := s9) hF Tryz.underlying25 Zd (fun f' _ {cs d p} h => Pq hF h) h
end
theorem Th : Tryz.prog.cellsOf 100 = 1 := by kernel_rfl
theorem W7 : Tryz.prog.cellsOf 101 = 1 := by kernel_rfl
theorem BO : Tryz.prog.cellsOf 103 = 5 := by kernel_rfl
theorem Tj : Tryz.prog.cellsOf 269 = 7 := by kernel_rfl
theorem W8 : Tryz.prog.cellsOf 104 = 1 := by kernel_rfl
theorem W9 : Tryz.prog.cellsOf 105 = 1 := by kernel_rfl
theorem Pr : Tryz.prog.cellsOf 107 = 8 := by kernel_rfl
theorem c89 : Tryz.prog.cellsOf 89 = 1 := by kernel_rfl
theorem c90 : Tryz.prog.cellsOf 90 = 1 := by kernel_rfl
theorem Zh : Tryz.prog.cellsOf 92 = 3 := by kernel_rfl
theorem c99 : Tryz.prog.cellsOf 99 = 1 := by kernel_rfl
theorem Tl : Tryz.prog.cellsOf 109 = 31 := by kernel_rfl
theorem Tm : Tryz.prog.cellsOf 169 = 7 := by kernel_rfl
theorem Tn : Tryz.prog.cellsOf 271 = 8 := by kernel_rfl
theorem To : Tryz.prog.cellsOf 423 = 2 := by kernel_rfl
section
variable [aK] {F : Addr → Option Value} {hg : Gl F} {H : Type} {enc : TypeId × Value → H} {w : World} {sp : Nat → Bool} {held : Bool} {f : Nat} {cs : List Value} {d : DataW H} {p : List MemPlace}
theorem vj (hF : F = w.cell?) : ∀ (f : Nat) {cs : List Value} {d : DataW H} {p : List MemPlace}, DataW.trod enc Tryz.prog w 0 sp held f 103 cs = some (d, p) → ∃ t : Ty, Rd F hg (du t).cells cs ∧ t.wt ≤ Rows.uptoBulk d := by
 intro f
 induction f using Nat.strongRecOn with
 | ind f ih =>
  intro cs d p h
  cases f with
  | zero => simp [DataW.trod] at h
  | succ f =>
   obtain ⟨hl, d0, p0, h0, d1, p1, h1, d2, p2, h2, d3, p3, h3, d4, p4, h4, rfl⟩ := cN Tryz.underlying103 h
   simp only [c3,c9,Th,W7] at h0 h1 h2 h3 h4
   rw [BO] at hl
   obtain ⟨k, hk, -⟩ := j7 (F := F) (hg := hg) h0
   obtain ⟨m, hm, s1⟩ := dp (F := F) (hg := hg) h1
   obtain ⟨n, hn, s2⟩ := dp (F := F) (hg := hg) h2
   obtain ⟨ts, JT, bts⟩ := kz (F := F) (hg := hg) hF Tryz.underlying100 BO (fun f' U3 {cs d p} h => ih f' (by omega) h) h3
   obtain ⟨fs, VO, bfs⟩ := kz (F := F) (hg := hg) (α := Fd) (row := u5) (g := Fd.wt) hF Tryz.underlying101 Tj (fun f' U3 {cs d p} h => by
    cases f' with
    | zero => simp [DataW.trod] at h
    | succ f' =>
     obtain ⟨hl, d0, p0, h0, d1, p1, h1, d2, p2, h2, rfl⟩ := cN Tryz.underlying269 h
     simp only [c4,c9,BO] at h0 h1 h2
     rw [Tj] at hl
     obtain ⟨n, hn, s0⟩ := dp (F := F) (hg := hg) h0
     obtain ⟨t, ht, bt⟩ := ih f' (by omega) h1
     obtain ⟨b, hb⟩ := Dx (F := F) (hg := hg) h2
     rw [bo] at ht
     refine ⟨.mk n t b, ?_, ?_⟩
     ·rw [eY]
      show Rd F hg ([str n] ++ ai t ++ [bl b]) (cs.drop 0)
      rw [List.append_assoc]
      exact ba hn (ba ht (gU hb hl))
     ·rw [Fd.ij]; simp only [Rows.uptoBulk,Rows.uptoBulkAll,Fd.ty,Fd.name]; omega) h4
   refine ⟨.mk k m n ts fs, ?_, ?_⟩
   ·rw [bo]
    simp only [ai,Ty.kind,Ty.mod,Ty.name,Ty.args,Ty.aO,bH,nN]
    exact ba (off := 0) hk (ba hm (ba hn (ba JT (ba VO (Hx hl)))))
   ·simp only [Rows.uptoBulk,Rows.uptoBulkAll,Ty.wt,u6,u7]; omega
theorem Tp (hF : F = w.cell?) (h : DataW.trod enc Tryz.prog w 0 sp held f 271 cs = some (d, p)) : ∃ x : Lb, Rd F hg (nt x).cells cs ∧ x.wt ≤ Rows.uptoBulk d := by
 cases f with
 | zero => simp [DataW.trod] at h
 | succ f =>
  obtain ⟨hl, d0, p0, h0, d1, p1, h1, d2, p2, h2, d3, p3, h3, rfl⟩ := cN Tryz.underlying271 h
  simp only [c4,c9,BO] at h0 h1 h2 h3
  rw [Tn] at hl
  obtain ⟨n, hn, s0⟩ := dp (F := F) (hg := hg) h0
  obtain ⟨v, hv, s1⟩ := dp (F := F) (hg := hg) h1
  obtain ⟨t, ht, bt⟩ := vj (hg := hg) hF _ h2
  obtain ⟨b, hb⟩ := Dx (F := F) (hg := hg) h3
  rw [bo] at ht
  refine ⟨⟨n, v, t, b⟩, ?_, ?_⟩
  ·show Rd F hg ([str n, str v] ++ ai t ++ [bl b]) (cs.drop 0)
   rw [List.append_assoc]
   exact ba (a := [str n]) hn (ba (a := [str v]) hv (ba (b := [bl b]) ht (gU hb hl)))
  ·simp only [Rows.uptoBulk,Rows.uptoBulkAll,Lb.wt]; omega
theorem Tq (hF : F = w.cell?) : ∀ (f : Nat) {cs : List Value} {d : DataW H} {p : List MemPlace}, DataW.trod enc Tryz.prog w 0 sp held f 107 cs = some (d, p) → ∃ t : Ex, Rd F hg (iR t).cells cs ∧ t.wt ≤ Rows.uptoBulk d := by
 intro f
 induction f using Nat.strongRecOn with
 | ind f ih =>
  intro cs d p h
  cases f with
  | zero => simp [DataW.trod] at h
  | succ f =>
   obtain ⟨hl, d0, p0, h0, d1, p1, h1, d2, p2, h2, d3, p3, h3, d4, p4, h4, d5, p5, h5, d6, p6, h6, d7, p7, h7, rfl⟩ := cN Tryz.underlying107 h
   simp only [c3,c9,Th,W8,W9] at h0 h1 h2 h3 h4 h5 h6 h7
   rw [Pr] at hl
   obtain ⟨k, hk, -⟩ := j7 (F := F) (hg := hg) h0
   obtain ⟨m, hm, s1⟩ := dp (F := F) (hg := hg) h1
   obtain ⟨n, hn, s2⟩ := dp (F := F) (hg := hg) h2
   obtain ⟨x, hx, s3⟩ := dp (F := F) (hg := hg) h3
   obtain ⟨i, hi, -⟩ := j7 (F := F) (hg := hg) h4
   obtain ⟨ts, JT, bts⟩ := kz (F := F) (hg := hg) hF Tryz.underlying100 BO (fun f' _ {cs d p} h => vj hF f' h) h5
   obtain ⟨ls, hls, bls⟩ := kz (F := F) (hg := hg) hF Tryz.underlying104 Tn (fun f' _ {cs d p} h => Tp hF h) h6
   obtain ⟨ks, yC, bks⟩ := kz (F := F) (hg := hg) hF Tryz.underlying105 Pr (fun f' U3 {cs d p} h => ih f' (by omega) h) h7
   refine ⟨.mk k m n x i ts ls ks, ?_, ?_⟩
   ·rw [bJ]
    simp only [al,Ex.kind,Ex.mod,Ex.name,Ex.text,Ex.num,Ex.types,Ex.labels,Ex.kids,bH,nO]
    exact ba (off := 0) hk (ba hm (ba hn (ba hx (ba hi (ba JT (ba hls (ba yC (Hx hl))))))))
   ·simp only [Rows.uptoBulk,Rows.uptoBulkAll,Ex.wt,yW]; omega
theorem Tr (hF : F = w.cell?) (h : DataW.trod enc Tryz.prog w 0 sp held f 169 cs = some (d, p)) : ∃ x : Pm, Rd F hg (qP x).cells cs ∧ x.wt ≤ Rows.uptoBulk d := by
 cases f with
 | zero => simp [DataW.trod] at h
 | succ f =>
  obtain ⟨hl, d0, p0, h0, d1, p1, h1, d2, p2, h2, rfl⟩ := cN Tryz.underlying169 h
  simp only [c3,c9,BO] at h0 h1 h2
  rw [Tm] at hl
  obtain ⟨n, hn, s0⟩ := dp (F := F) (hg := hg) h0
  obtain ⟨v, hv, -⟩ := j7 (F := F) (hg := hg) h1
  obtain ⟨t, ht, bt⟩ := vj (hg := hg) hF _ h2
  rw [bo] at ht
  refine ⟨⟨n, v, t⟩, ?_, ?_⟩
  ·show Rd F hg ([str n, num v] ++ ai t) (cs.drop 0)
   exact ba (a := [str n]) hn (ba (a := [num v]) hv (gU ht hl))
  ·simp only [Rows.uptoBulk,Rows.uptoBulkAll,Pm.wt]; omega
theorem Ts (h : DataW.trod enc Tryz.prog w 0 sp held f 423 cs = some (d, p)) : ∃ x : Im, Rd F hg (yP x).cells cs ∧ x.wt ≤ Rows.uptoBulk d := by
 cases f with
 | zero => simp [DataW.trod] at h
 | succ f =>
  obtain ⟨hl, d0, p0, h0, d1, p1, h1, rfl⟩ := cN Tryz.underlying423 h
  simp only [c9] at h0 h1
  rw [To] at hl
  obtain ⟨n, hn, s0⟩ := dp (F := F) (hg := hg) h0
  obtain ⟨v, hv, s1⟩ := dp (F := F) (hg := hg) h1
  refine ⟨⟨n, v⟩, ?_, ?_⟩
  ·exact ba (a := [str n]) (off := 0) hn (gU (a := [str v]) hv hl)
  ·simp only [Rows.uptoBulk,Rows.uptoBulkAll,Im.wt]; omega
theorem Tt (hF : F = w.cell?) (h : DataW.trod enc Tryz.prog w 0 sp held f 109 cs = some (d, p)) : ∃ x : Dc, Rd F hg (fe x).cells cs ∧ x.wt ≤ Rows.uptoBulk d := by
 cases f with
 | zero => simp [DataW.trod] at h
 | succ f =>
  obtain ⟨hl, d0, p0, h0, d1, p1, h1, d2, p2, h2, d3, p3, h3, d4, p4, h4, d5, p5, h5, d6, p6, h6, d7, p7, h7, d8, p8, h8, d9, p9, h9, d10, p10, UH, d11, p11, UI, rfl⟩ := cN Tryz.underlying109 h
  simp only [c3,c4,c9,BO,Pr,c99] at h0 h1 h2 h3 h4 h5 h6 h7 h8 h9 UH UI
  rw [Tl] at hl
  obtain ⟨k, hk, -⟩ := j7 (F := F) (hg := hg) h0
  obtain ⟨n, hn, s1⟩ := dp (F := F) (hg := hg) h1
  obtain ⟨x, hx⟩ := Dx (F := F) (hg := hg) h2
  obtain ⟨y, hy⟩ := Dx (F := F) (hg := hg) h3
  obtain ⟨o, ho, s4⟩ := dp (F := F) (hg := hg) h4
  obtain ⟨ps, Lc, bps⟩ := kz (F := F) (hg := hg) hF Tryz.underlying99 Tm (fun f' _ {cs d p} h => Tr hF h) h5
  obtain ⟨lo, kJ, blo⟩ := vj (hg := hg) hF _ h6
  obtain ⟨up, Zi, bup⟩ := vj (hg := hg) hF _ h7
  obtain ⟨ty, Zj, bty⟩ := vj (hg := hg) hF _ h8
  obtain ⟨e, he, be⟩ := Tq (hg := hg) hF _ h9
  obtain ⟨m, hm, s10⟩ := dp (F := F) (hg := hg) UH
  obtain ⟨t, ht, s11⟩ := dp (F := F) (hg := hg) UI
  rw [bo] at kJ Zi Zj
  rw [bJ] at he
  refine ⟨⟨k, n, x, y, o, ps, lo, up, ty, e, m, t⟩, ?_, ?_⟩
  ·show Rd F hg ([num k, str n, bl x, bl y, str o, .slice (ps.map qP)] ++ ai lo ++ ai up ++ ai ty ++ al e ++ [str m, str t]) (cs.drop 0)
   simp only [List.append_assoc]
   exact ba (a := [num k]) hk (ba (a := [str n]) hn (ba (a := [bl x]) hx (ba (a := [bl y]) hy (ba (a := [str o]) ho (ba (a := [.slice (ps.map qP)]) Lc
    (ba kJ (ba Zi (ba Zj (ba he (ba (a := [str m]) hm (gU (a := [str t]) ht hl)))))))))))
  ·simp only [Rows.uptoBulk,Rows.uptoBulkAll,Dc.wt]; omega
theorem Tu (hF : F = w.cell?) (h : DataW.trod enc Tryz.prog w 0 sp held f 92 cs = some (d, p)) : ∃ x : Md, Rd F hg (dv x).cells cs ∧ x.wt ≤ Rows.uptoBulk d := by
 cases f with
 | zero => simp [DataW.trod] at h
 | succ f =>
  obtain ⟨hl, d0, p0, h0, d1, p1, h1, d2, p2, h2, rfl⟩ := cN Tryz.underlying92 h
  simp only [c9,c89,c90] at h0 h1 h2
  rw [Zh] at hl
  obtain ⟨n, hn, s0⟩ := dp (F := F) (hg := hg) h0
  obtain ⟨is, his, bis⟩ := kz (F := F) (hg := hg) hF Tryz.underlying89 To (fun f' _ {cs d p} h => Ts h) h1
  obtain ⟨ds, hds, bds⟩ := kz (F := F) (hg := hg) hF Tryz.underlying90 Tl (fun f' _ {cs d p} h => Tt hF h) h2
  refine ⟨⟨n, is, ds⟩, ?_, ?_⟩
  ·exact ba (a := [str n]) (off := 0) hn (ba (a := [.slice (is.map yP)]) his (gU (a := [.slice (ds.map fe)]) hds hl))
  ·simp only [Rows.uptoBulk,Rows.uptoBulkAll,Md.wt]; omega
theorem Ps (hF : F = w.cell?) (h : DataW.trod enc Tryz.prog w 0 sp held f 23 cs = some (d, p)) : ∃ l : List Md, Rd F hg [.slice (l.map dv)] cs ∧ ak Md.wt l + 1 ≤ Rows.uptoBulk d :=
 kz (row := dv) (g := Md.wt) hF Tryz.underlying23 Zh (fun f' _ {cs d p} h => Tu hF h) h
end
theorem MH {l : List Md} (h : ak Md.wt l ≤ 1048576) : l.length ≤ 1048576 ∧ ∀ m ∈ l, m.wt ≤ 1048576 :=
 ⟨Nat.le_trans (bs Md.wt Md.cO l) h, fun m hm => Nat.le_trans (gS Md.wt hm) h⟩
theorem H6 (x : cj) : 1 ≤ zq x := by unfold zq; omega
theorem H7 (x : fQ) : 1 ≤ s9 x := by unfold s9; omega
theorem H8 (x : kr) : 1 ≤ zp x := by unfold zp; omega
theorem Tv {a : fQ} (h : s9 a ≤ 1048576) : MG a := by
 unfold s9 at h
 have h1 := bs zq H6 a.set
 have h2 := bs (fun s : ByteArray => s.size + 1) (fun s => by omega) a.syms
 exact ⟨by omega, by omega, by omega⟩
theorem H9 {l : List fQ} (h : ak s9 l ≤ 1048576) : l.length ≤ 1048576 ∧ ∀ a ∈ l, MG a :=
 ⟨Nat.le_trans (bs s9 H7 l) h, fun a ha => Tv (Nat.le_trans (gS s9 ha) h)⟩
theorem Pt {l : List kr} (h : ak zp l ≤ 1048576) : l.length ≤ 1048576 := Nat.le_trans (bs zp H8 l) h
end Go.Proofs.YtefbaladomfccaaGreatDoor
end

section
namespace Go.Proofs.YtefbaladomfccaaGreatDoor
open Go.Eng
set_option maxRecDepth 100000
open Go.ChangeShapes Go.WideShapes Go.ChangeAt Go.RowKit
@[reducible] def Zk (n : Int) : aK := { n := n, κ := fun _ => none, ok := fun j b hb => (by cases hb), g := some 0, Na := fun _ => none }
theorem Ia {W : World} {v : Value} (dc : Cell.ok Tryz.prog W .any 0 3 v) : ∃ n : Int, v = .int .i64 n := by
 unfold Cell.ok at dc
 rw [Tryz.underlying3] at dc
 cases v with
 | int k n => exact ⟨n, by rw [show k = .i64 from dc.1]⟩
 | _ => exact dc.elim
theorem EY {W : World} (hS : W.ShapedOpen Tryz.prog) : ∃ n : Int, W.cell? ⟨0, 0, none⟩ = some (.int .i64 n) := by
 have h0 : (((begin Tryz.prog (fun _ _ => 0) default).world.heap[0]?).bind Obj.row?) = some (#[.int .i64 0], 3) := by kernel_rfl
 obtain ⟨cs, hc, hz, hr⟩ := hS.1 0 _ _ (of_decide_eq_true (by kernel_rfl)) h0
 obtain ⟨ts, h1, -, h3⟩ := hr (by kernel_rfl)
 obtain rfl : [3] = ts := Option.some.inj ((show Tryz.prog.cellTypes Tryz.prog.depth 3 = some [3] by kernel_rfl).symm.trans h1)
 have Zl : cs.size = 1 := hz
 obtain ⟨v, hv⟩ : ∃ v, cs[0]? = some v := ⟨cs[0], Array.getElem?_eq_getElem (by omega)⟩
 obtain ⟨u, hu, dc⟩ := h3 0 v hv
 obtain rfl : 3 = u := by simpa using hu
 obtain ⟨n, rfl⟩ := Ia dc
 exact ⟨n, by simp [World.cell?, hc, hv]⟩
theorem EZ {H : Type} {enc : TypeId × Value → H} {P : Program} {f : Func} {s : ChangeSpec} {apart fresh handsOn again : Bool} {W W' : World} {args : Array Value} {v : Value} {ds gs : List (DataW H)} {before pa pv : List MemPlace}
  (hW : DataW.Whole enc P f.params.toList s.vars apart W args.toList ds gs before)
  (ax : ∀ (b : Nat) (sp : Nat → Bool) (hd : Bool), DataW.TrodAll enc P W' b sp hd f.resultTypes.toList (v.resultList f.resultTypes.size) (s.fn H (ds ++ gs)).results [])
  (jQ : ∀ sp : Nat → Bool, (∀ p ∈ before, sp p.block = true) → DataW.TrodAll enc P W' 0 sp true f.params.toList args.toList (s.fn H (ds ++ gs)).args pa)
  (MI : ∀ sp : Nat → Bool, (∀ p ∈ before, sp p.block = true) → DataW.TrodVars enc P W' sp s.vars (s.fn H (ds ++ gs)).vars pv)
  (Lc : before = pa ++ pv) (hb : Below W.heap.size W W')
  (dc : ∀ (j : Nat) (t : TypeId) (r : Value), f.resultTypes[j]? = some t → (v.resultList f.resultTypes.size)[j]? = some r → Value.okWide P W' .any 0 t r) :
  s.post enc P f apart fresh handsOn again W args v W' := by
 have aL := hW.lt
 refine ⟨ds, gs, before, [], pa, pv, hW, ax _ _ _, jQ _ (fun p hp => by simpa using aL p hp), MI _ (fun p hp => by simpa using aL p hp), hb.frame _, fun _ => ?_⟩
 obtain ⟨_, _, _, _, _, hz, hn⟩ := hW
 refine ⟨dc, _, _, ([] ++ pa) ++ pv, ⟨[] ++ pa, pv, trodAll_append (jQ _ (fun _ _ => rfl)) (ax _ _ _), MI _ (fun _ _ => rfl), rfl, fun b off hp => ?_, fun ha => ?_⟩, fun p hp _ => ?_⟩
 ·have Mf : MemPlace.cell b off ∈ before := by rw [Lc]; simpa using hp
  rw [hb.frozen (show (⟨b, off, none⟩ : Addr).block < W.heap.size from aL _ Mf)]
  exact hz b off Mf
 ·have := hn ha
  rw [Lc] at this
  simpa using this
 ·rw [Lc]
  simpa using hp
theorem BP {F : Addr → Option Value} [aK] {hg : Gl F} {rows : List V} {a : Option Addr} {l c : Nat} (h : Rd F hg [.slice rows] (Value.slice a l c).cells.toList) : a8 ⟨F, fun _ _ => none, hg⟩ (.slice rows) (.slice a l c) := h.1.2 0 _ _ rfl rfl
end Go.Proofs.YtefbaladomfccaaGreatDoor
end
