/-
  CONTRACTS: slices.SortFunc at clipped spans.
  CONTRACTS: Canonical.
  CONTRACTS: the checks of requirements.
  CONTRACTS: requirements, releases, indices.
  READINGS of chapter 32's data.
  CONTRACTS: the bytes of numbers and strings.
  CONTRACTS: the closures of Manifest.
  CONTRACTS: the reader.
  CONTRACTS: numbers and strings read.
  CONTRACTS: the methods of a reader.
  CONTRACTS: Manifest.
-/
import Derived.Test.YtnfeacnbgbggfaaGreatDoorZ4
set_option linter.all false
section
namespace Go.Proofs.YtnfeacnbgbggfaaGreatDoor
open Go.Eng
open Go.Sort (SWO grow flatK HoldsK PermIn SortedIn)
variable [aH]
theorem vJ (d : Array Rk) (i j : Nat) (hi : i < d.size) (hj : j < 2) : (flatK nW 2 d)[i * 2 + j]! = (nW d[i]!)[j]! := by
 rw [Go.Sort.get_flatK _ _ _ _ (by omega)]
 rw [show (i * 2 + j) / 2 = i by omega, show (i * 2 + j) % 2 = j by omega]
theorem Yt : ∀ l : List bB, (∀ x ∈ l, 0 ≤ x.lo ∧ x.lo ≤ 1000000) → ∃ d : List Rk, d.map Subtype.val = l
 | [], _ => ⟨[], rfl⟩
 | x :: r, h => by
  obtain ⟨d, hd⟩ := Yt r fun y hy => h y (by simp [hy])
  exact ⟨⟨x, h x (by simp)⟩ :: d, by simp [hd]⟩
theorem Cg (m : List aw) (b v : Nat) (l : List bB) (hb : m[b]? = some (.rows v 2 (l.map aj))) (h0 : 0 < l.length) (hl : l.length ≤ 1048576) (hC : ∀ x ∈ l, 0 ≤ x.lo ∧ x.lo ≤ 1000000) :
  fi Tryz.prog 118 [.ms b v 0 l.length, .sc (.func (.func 119) #[] #[])] m fun r m' => r = .sc (.tuple #[]) ∧ ∃ l' : List bB, l'.Perm l ∧ fY l' ∧ m' = m.set b (.rows v 2 (l'.map aj)) := by
 refine ⟨Tryz.call118, fun E w xs hs hx => ?_⟩
 obtain ⟨x, ys, mq, hr, o7⟩ := hx.of_cons
 obtain ⟨f, zs, To, hrf, hz⟩ := o7.of_cons
 have J3 := hz.of_nil
 subst J3
 have hf := bR hrf
 subst hf
 obtain rfl : xs = #[x, .func (.func 119) #[] #[]] := by rw [← Array.toArray_toList (xs := xs), mq, To]
 rcases hs.mem b _ hb with ⟨A2, -⟩ | ⟨gb, T, cs, c, hblk, hh, rA, JK, eA, hF⟩
 ·rw [List.map_eq_nil_iff] at A2; subst A2; simp at h0
 rw [List.length_map] at JK
 obtain ⟨cap, rfl⟩ : ∃ cap, x = .slice (some ⟨gb, 0, none⟩) l.length cap := by
  clear o7 hx mq eA hl
  generalize l.length = nl at hr h0 JK ⊢
  cases hr with
  | ms _ _ _ _ _ g' e' c' a cap ey AI Tu JY =>
   rw [hblk] at ey; cases ey
   obtain ⟨rfl, -⟩ := Tu rfl
   exact ⟨cap, rfl⟩
  | cZ => exact absurd h0 (Nat.lt_irrefl _)
 obtain ⟨dl, yu⟩ := Yt l hC
 have lC : ∀ (i : Nat) (u : bB), l[i]? = some u → cs[i * 2]? = some (.int .i64 u.lo) ∧ cs[i * 2 + 1]? = some (.int .i64 u.hi) := fun i u hu => by
  obtain ⟨-, h2⟩ := eA i (aj u) (by rw [List.getElem?_map, hu]; rfl)
  constructor
  ·obtain ⟨y, hy, -, AV⟩ := h2 0 (num u.lo) rfl
   rw [bR AV] at hy; exact hy
  ·obtain ⟨y, hy, -, AV⟩ := h2 1 (num u.hi) rfl
   rw [bR AV] at hy; exact hy
 have Tv : gb < w.heap.size := (Array.getElem?_eq_some_iff.1 hh).1
 have zR : dl.length = l.length := by rw [← yu, List.length_map]
 have eW : ∀ i, i < l.length → l[i]? = some (dl.toArray[i]!).1 := fun i hi => by
  have Uy : i < dl.length := by omega
  have e : l[i]? = some (dl[i]).1 := by
   have := congrArg (fun q : List bB => q[i]?) yu
   simp only [List.getElem?_map,List.getElem?_eq_getElem Uy,Option.map_some] at this
   exact this.symm
  rw [e, getElem!_pos dl.toArray i (by simpa using Uy)]
  simp
 have hH : HoldsK nW 2 w gb 0 dl.toArray := fun t ht => by
  have ht' : t < l.length * 2 := by simpa [zR] using ht
  obtain ⟨i, j, hi, hj, rfl⟩ : ∃ i j, i < l.length ∧ j < 2 ∧ t = i * 2 + j := ⟨t / 2, t % 2, by omega, by omega, by omega⟩
  have hc := lC i _ (eW i hi)
  refine ⟨?_, by simp [World.frozen?, hh]⟩
  rw [ik hh, Nat.zero_add, vJ _ _ _ (by simpa [zR] using hi) hj]
  obtain rfl | rfl : j = 0 ∨ j = 1 := by omega
  ·exact hc.1
  ·exact hc.2
 have call := Li gb 0 cap dl.toArray w hH Tv (by simp; omega)
 have e1 : dl.toArray.size = l.length := by rw [List.size_toArray, zR]
 rw [e1] at call
 refine call.mono ?_
 rintro e w' ⟨rfl, d', n, os, hp, W6, rfl⟩
 have u6 : d'.size = l.length := by rw [hp.1]; simp [zR]
 have lz : (sortWorldK nW 2 w gb 0 n d' os).heap[gb]? = some (.cells (Go.Sort.putCells id 0 (flatK nW 2 d') cs) T (0, 0)) := by
  show (_ ++ os)[gb]? = _
  rw [Array.getElem?_append_left (by simpa [Go.Sort.putRowK] using Tv)]
  show ((w.heap.modify gb _))[gb]? = _
  rw [Array.getElem?_modify, if_pos rfl, hh]; rfl
 obtain ⟨h1, h2⟩ := hs.S8 (w' := sortWorldK nW 2 w gb 0 n d' os) (rs' := (d'.toList.map Subtype.val).map aj) hb hblk hF rfl rfl rfl (by
   show _ ≤ (_ ++ os).size
   rw [Array.size_append]
   show _ ≤ (w.heap.modify gb _).size + _
   rw [Array.size_modify]; omega) lz (fun k hk bH => by
   show (_ ++ os)[k]? = _
   rw [Array.getElem?_append_left (by simpa [Go.Sort.putRowK] using hk)]
   show ((w.heap.modify gb _))[k]? = _
   rw [Array.getElem?_modify, if_neg (fun e => bH e.symm)]) (by simp [Go.Sort.putCells, rA]) (by simp [u6]; exact JK) (fun i row hi => by
   rw [List.map_map, List.getElem?_map, Option.map_eq_some_iff] at hi
   obtain ⟨u, hu, rfl⟩ := hi
   have hid : i < d'.size := by simpa using (List.getElem?_eq_some_iff.1 hu).1
   have hu' : d'[i]! = u := by
    rw [getElem!_pos d' i hid]
    have := (List.getElem?_eq_some_iff.1 hu).2
    simpa using this
   have key : ∀ j, j < 2 → (Go.Sort.putCells id 0 (flatK nW 2 d') cs)[i * 2 + j]? = some ((nW u)[j]!) := fun j hj => by
    have aD : i * 2 + j < cs.size := by rw [rA]; omega
    unfold Go.Sort.putCells
    rw [Array.getElem?_mapIdx, Array.getElem?_eq_getElem aD, Option.map_some, if_pos ⟨Nat.zero_le _, by simp; omega⟩]
    simp only [id,Nat.sub_zero]
    rw [vJ _ _ _ hid hj, hu']
   refine ⟨rfl, fun j cc hj => ?_⟩
   match j, hj with
   | 0, hj => cases hj; exact ⟨.int .i64 u.1.lo, by simpa [nW] using key 0 (by omega), rfl, .sc _ _⟩
   | 1, hj => cases hj; exact ⟨.int .i64 u.1.hi, by simpa [nW] using key 1 (by omega), rfl, .sc _ _⟩
   | j + 2, hj => simp [aj, V.cells] at hj)
 refine ⟨E, _, _, _, rfl, ⟨rfl, d'.toList.map Subtype.val, ?_, ?_, rfl⟩, h2, h1, .sc _ _⟩
 ·have := hp.2.2
  rw [← yu]
  refine List.Perm.map _ ?_
  simpa [u6, zR, Array.extract_eq_self_of_le] using this
 ·refine List.pairwise_iff_getElem.2 fun i j hi hj pO => ?_
  have Yu : j < d'.size := by simpa using hj
  have := W6 i j (Nat.zero_le _) pO (by simpa [u6] using Yu)
  rw [getElem!_pos d' j Yu, getElem!_pos d' i (by omega)] at this
  have := of_decide_eq_false this
  unfold H0 at this
  simp only [List.getElem_map,Array.getElem_toList]
  omega
def Tw : FuncId → List V → Option V := fun _ _ => none
theorem tC : s4 Tryz.prog Tw := fun f vs r h => by cases h
theorem zS : jD Tryz.prog (fun _ _ => none) := fun f vs r h => by cases h
theorem Ch : aO Tryz.prog 118 [.slice [], .sc (.func (.func 119) #[] #[])] (.bN []) := w4 tC zS 3000 (by kernel_rfl)
theorem Ci (m : List aw) (b v : Nat) (l : List bB) (hb : m[b]? = some (.rows v 2 (l.map aj))) (hl : l.length ≤ 1048576) (hC : ∀ x ∈ l, 0 ≤ x.lo ∧ x.lo ≤ 1000000) :
  fi Tryz.prog 118 [.ms b v 0 l.length, .sc (.func (.func 119) #[] #[])] m fun r m' => r = .sc (.tuple #[]) ∧ ∃ l' : List bB, l'.Perm l ∧ fY l' ∧ m' = m.set b (.rows v 2 (l'.map aj)) := by
 rcases Nat.eq_zero_or_pos l.length with h0 | h0
 ·obtain rfl : l = [] := List.length_eq_zero_iff.1 h0
  refine (aO.vB (m := m) (b := b) (v := v) Ch fun E xs h => ?_).rel.mono fun r m' ⟨h1, h2⟩ => ⟨h1, [], List.Perm.refl _, List.Pairwise.nil, by
   rw [h2]
   apply List.ext_getElem?
   intro i
   rw [List.getElem?_set]
   split
   ·rename_i hi; subst hi
    rw [if_pos (List.getElem?_eq_some_iff.1 hb).1, hb]
   ·rfl⟩
  obtain ⟨y, ys, rfl, hr, hy⟩ := h.of_cons
  rw [hy.of_nil]
  have := bR hr
  subst this
  exact aP.cons (.sc _ _) (.nil _)
 ·exact Cg m b v l hb h0 hl hC
end Go.Proofs.YtnfeacnbgbggfaaGreatDoor
end

section
namespace Go.Proofs.YtnfeacnbgbggfaaGreatDoor
open Go.Eng
open Nat renaming reduceAdd → zA, reduceLT → zB, reduceLeDiff → zC, reduceMul → zD, reduceEqDiff → zE, reduceSub → zF
variable [aH]
set_option maxHeartbeats 4000000
set_option maxRecDepth 100000
theorem mI {s : List bB} {i : Nat} {x : bB} (h : s[i]? = some x) : clip (s.take (i + 1)) = clip (s.take i) ++ (mF x).toList := by
 rw [List.take_add_one, h]
 unfold clip
 rw [List.filterMap_append]
 cases hx : mF x <;> simp [hx]
theorem gV (s : List bB) : (clip s).length ≤ s.length := List.length_filterMap_le _ _
theorem DJ {x : bB} (h : max x.lo 0 < min x.hi 1000000) : mF x = some ⟨max x.lo 0, min x.hi 1000000⟩ := if_pos h
theorem DK {x : bB} (h : ¬ max x.lo 0 < min x.hi 1000000) : mF x = none := if_neg h
structure Mg (l R : List bB) (i n : Nat) : Prop where
 hi : i ≤ l.length
 hn : n ≤ i
 hl : R.length = l.length
 ht : R.take n = merge (l.take i)
 hd : R.drop i = l.drop i
 h0 : 0 < i → 0 < n
theorem iU {l : List bB} {i : Nat} {x : bB} (h : l[i]? = some x) : merge (l.take (i + 1)) = dm (merge (l.take i)) x := by
 rw [List.take_add_one, h]
 unfold merge
 rw [List.foldl_append]; rfl
theorem Mg.start (l : List bB) : Mg l l 0 0 := ⟨Nat.zero_le _, Nat.le_refl _, rfl, rfl, rfl, fun h => absurd h (Nat.lt_irrefl _)⟩
theorem Mg.at {l R : List bB} {i n : Nat} (h : Mg l R i n) (aD : i < l.length) : ∃ x, l[i]? = some x ∧ R[i]? = some x := by
 refine ⟨l[i], List.getElem?_eq_getElem aD, ?_⟩
 have h1 : (R.drop i)[0]? = (l.drop i)[0]? := by rw [h.hd]
 rw [List.getElem?_drop, List.getElem?_drop, Nat.add_zero] at h1
 rw [h1, List.getElem?_eq_getElem aD]
theorem Mg.last {l R : List bB} {i n : Nat} (h : Mg l R i n) (iG : 0 < i) (aD : i < l.length) : ∃ y, R[n - 1]? = some y ∧ (merge (l.take i)).getLast? = some y := by
 have hn := h.h0 iG
 have DL : n - 1 < R.length := by rw [h.hl]; have := h.hn; omega
 refine ⟨R[n - 1], List.getElem?_eq_getElem DL, ?_⟩
 rw [← h.ht, List.getLast?_eq_getElem?, List.length_take, Nat.min_eq_left (by have := h.hn; rw [h.hl]; omega), List.getElem?_take_of_lt (by omega), List.getElem?_eq_getElem DL]
theorem Mg.push {l R : List bB} {i n : Nat} {x : bB} (h : Mg l R i n) (hx : l[i]? = some x) (hm : dm (merge (l.take i)) x = merge (l.take i) ++ [x]) : Mg l (R.set n x) (i + 1) (n + 1) := by
 have aD := (List.getElem?_eq_some_iff.1 hx).1
 have hn := h.hn
 refine ⟨aD, by omega, by rw [List.length_set]; exact h.hl, ?_, ?_, fun _ => Nat.succ_pos _⟩
 ·rw [iU hx, hm, ← h.ht]
  apply List.ext_getElem?
  intro j
  have Yv : n < R.length := by rw [h.hl]; omega
  rcases Nat.lt_trichotomy j n with hj | hj | hj
  ·rw [List.getElem?_take_of_lt (by omega), List.getElem?_set_ne (by omega), List.getElem?_append_left (by rw [List.length_take]; omega), List.getElem?_take_of_lt hj]
  ·subst hj
   rw [List.getElem?_take_of_lt (by omega), List.getElem?_append_right (by rw [List.length_take]; omega), List.length_take, Nat.min_eq_left (by omega), Nat.sub_self]
   simp [Yv]
  ·rw [List.getElem?_eq_none (by rw [List.length_take]; omega), List.getElem?_eq_none (by rw [List.length_append, List.length_take]; simp; omega)]
 ·apply List.ext_getElem?
  intro j
  rw [List.getElem?_drop, List.getElem?_drop, List.getElem?_set_ne (by omega)]
  have h1 : (R.drop i)[1 + j]? = (l.drop i)[1 + j]? := by rw [h.hd]
  rw [List.getElem?_drop, List.getElem?_drop] at h1
  rw [show i + 1 + j = i + (1 + j) by omega]; exact h1
theorem Mg.join {l R : List bB} {i n : Nat} {x y : bB} (h : Mg l R i n) (hx : l[i]? = some x) (iG : 0 < i) (hy : R[n - 1]? = some y) (hle : x.lo ≤ y.hi) : Mg l (R.set (n - 1) ⟨y.lo, max y.hi x.hi⟩) (i + 1) n := by
 have aD := (List.getElem?_eq_some_iff.1 hx).1
 have hn := h.hn
 have Yw := h.h0 iG
 obtain ⟨y', Yx, nB⟩ := h.last iG aD
 rw [hy] at Yx; cases Yx
 have Yv : n ≤ R.length := by rw [h.hl]; omega
 refine ⟨aD, by omega, by rw [List.length_set]; exact h.hl, ?_, ?_, fun _ => Yw⟩
 ·rw [iU hx]
  unfold dm
  rw [nB]
  dsimp only
  rw [if_pos hle, ← h.ht]
  apply List.ext_getElem?
  intro j
  have yu : ((R.take n).dropLast).length = n - 1 := by rw [List.length_dropLast, List.length_take]; omega
  rcases Nat.lt_trichotomy j (n - 1) with hj | hj | hj
  ·rw [List.getElem?_take_of_lt (by omega), List.getElem?_set_ne (by omega), List.getElem?_append_left (by omega), List.getElem?_dropLast, if_pos (by rw [List.length_take]; omega), List.getElem?_take_of_lt (by omega)]
  ·subst hj
   rw [List.getElem?_take_of_lt (by omega), List.getElem?_append_right (by omega), yu, Nat.sub_self, List.getElem?_set]
   simp; omega
  ·rw [List.getElem?_eq_none (by rw [List.length_take, List.length_set]; omega), List.getElem?_eq_none (by rw [List.length_append, yu]; simp; omega)]
 ·apply List.ext_getElem?
  intro j
  rw [List.getElem?_drop, List.getElem?_drop, List.getElem?_set_ne (by omega)]
  have h1 : (R.drop i)[1 + j]? = (l.drop i)[1 + j]? := by rw [h.hd]
  rw [List.getElem?_drop, List.getElem?_drop] at h1
  rw [show i + 1 + j = i + (1 + j) by omega]; exact h1
theorem mJ {o : List bB} {x : bB} (h : ∀ y, o.getLast? = some y → ¬ x.lo ≤ y.hi) : dm o x = o ++ [x] := by
 unfold dm
 cases hl : o.getLast? with
 | none => rw [List.getLast?_eq_none_iff.1 hl]; rfl
 | some y => dsimp only; rw [if_neg (h y hl)]
theorem pj (s : List bB) (hl : s.length ≤ 1048576) : aO Tryz.prog 86 [ak s] (ak (canon s)) := by
 refine Rf tt_ok [19] 79 [.tmp 2] (fn := Tryz.f86) Tryz.func86 rfl Tryz.call86 ⟨rfl, rfl, by simp⟩ fun K hK => ?_
 simp only [ak]
 simp only [List.length_map,go_sem,reduceIte,zA,zB,zC,zD,zE,zF,reduceCtorEq]
 refine zh 3 0 2 (by decide) rfl ?_
 refine cO tt_ok [19] (fun a : Nat × List bB => [(3, .ms 0 a.2.length 0 a.2.length), (9, .slice (s.map aj)), (10, num s.length), (11, num a.1)]) (fun a : Nat × List bB => [.rows a.2.length 2 (a.2.map aj)]) (fun a => s.length - a.1) (fun a => a.1 ≤ s.length ∧ a.2 = clip (s.take a.1)) ((0, [])) 1 (bm (by omega) (by simp only [List.length_map,List.map_nil,List.length_nil,Int.cast_ofNat_Int,go_sem,reduceIte,zA,zB,zC,zD,zE,zF,reduceCtorEq] <;> rfl)) (⟨Nat.zero_le _, rfl⟩) ?_
 rintro ⟨i, l⟩ ⟨hi, ko⟩
 try dsimp only at hi ko
 try dsimp only
 intro Z1 bW
 simp only [List.length_map,go_sem,reduceIte,zA,zB,zC,zD,zE,zF,reduceCtorEq]
 refine aM (fun Cj => ?_) (fun Cj => ?_)
 ·have aD : i < s.length := by simpa using Cj
  have hw := aB i (by omega)
  obtain ⟨x, hx⟩ : ∃ x, s[i]? = some x := ⟨_, List.getElem?_eq_getElem aD⟩
  have r9 : (if x.lo < 0 then 0 else x.lo) = max x.lo 0 := by split <;> omega
  have rG : (if (1000000 : Int) < x.hi then 1000000 else x.hi) = min x.hi 1000000 := by split <;> omega
  have JK : l.length ≤ 1048576 := by rw [ko]; have := gV (s.take i); rw [List.length_take] at this; omega
  have er : l.length + 1 ≤ 34359738368 := by omega
  simp only [hw,List.getElem?_map,hx,aj,r9,rG,er,List.length_append,List.length_cons,List.length_nil,Nat.zero_add,List.length_map,go_sem,reduceIte,zA,zB,zC,zD,zE,zF,reduceCtorEq]
  refine aM (fun iV => ?_) (fun iV => ?_)
  ·let nv : Nat × List bB := (i + 1, l ++ [⟨max x.lo 0, min x.hi 1000000⟩])
   have PE : l ++ [⟨max x.lo 0, min x.hi 1000000⟩] = clip (s.take (i + 1)) := by rw [mI hx, DJ (by simpa using iV), ko]; rfl
   simp only [hw,List.getElem?_map,hx,aj,r9,rG,er,List.length_append,List.length_cons,List.length_nil,Nat.zero_add,List.length_map,go_sem,reduceIte,zA,zB,zC,zD,zE,zF,reduceCtorEq]
   refine bW _ ⟨nv, ?_, ?_, bm (by omega) (by (simp [nv, lg, lk, bo, bF, ai, az, List.map_append, aj]))⟩
   ·exact ⟨aD, by dsimp only [nv]; exact PE⟩
   ·dsimp only [nv]; omega
  ·let nv : Nat × List bB := (i + 1, l)
   have PE : l = clip (s.take (i + 1)) := by rw [mI hx, DK (by simpa using iV), ko]; simp
   simp only [hw,List.getElem?_map,hx,aj,r9,rG,er,List.length_append,List.length_cons,List.length_nil,Nat.zero_add,List.length_map,go_sem,reduceIte,zA,zB,zC,zD,zE,zF,reduceCtorEq]
   refine bW _ ⟨nv, ?_, ?_, bm (by omega) (by (simp [nv, lg, lk, bo, bF, ai, az, List.map_append, aj]))⟩
   ·exact ⟨aD, by dsimp only [nv]; exact PE⟩
   ·dsimp only [nv]; omega
 ·have c5 : ¬ i < s.length := by simpa using Cj
  have PF : l = clip s := by rw [ko, show i = s.length by omega, List.take_length]
  have xl : l.length ≤ 1048576 := by rw [PF]; have := gV s; omega
  have hC : ∀ x ∈ l, 0 ≤ x.lo ∧ x.lo ≤ 1000000 := fun x hx => by have := xi x (PF ▸ hx); omega
  simp only [List.length_map,go_sem,reduceIte,zA,zB,zC,zD,zE,zF,reduceCtorEq]
  refine cR (Ci _ 0 _ _ rfl xl hC) ?_
  rintro _ _ ⟨rfl, l2, hp, ha, rfl⟩
  simp only [List.length_map,go_sem,reduceIte,zA,zB,zC,zD,zE,zF,reduceCtorEq]
  obtain ⟨L, hL⟩ : ∃ L, L = l2 := ⟨_, rfl⟩
  rw [← hL] at hp ha
  have Ck : L.length = l.length := hp.length_eq
  rw [← Ck, ← hL]
  refine cO tt_ok [19] (fun a : Nat × Nat × List bB => [(3, .ms 0 L.length 0 L.length), (6, num a.2.1), (34, .ms 0 L.length 0 L.length), (35, num L.length), (36, num a.1)]) (fun a : Nat × Nat × List bB => [.rows L.length 2 (a.2.2.map aj)]) (fun a => L.length - a.1) (fun a => Mg L a.2.2 a.1 a.2.1) ((0, 0, L)) 1 (bm (by omega) (by simp only [List.length_map,Int.cast_ofNat_Int,go_sem,reduceIte,zA,zB,zC,zD,zE,zF,reduceCtorEq] <;> rfl)) (Mg.start L) ?_
  rintro ⟨i, n, R⟩ hM
  try dsimp only at hM
  try dsimp only
  have hMi := hM.hi
  have hMn := hM.hn
  have Nr := hM.hl
  intro Z2 qk
  simp only [List.length_map,go_sem,reduceIte,zA,zB,zC,zD,zE,zF,reduceCtorEq]
  refine aM (fun rO => ?_) (fun rO => ?_)
  ·have aD : i < L.length := by simpa using rO
   rw [rO]
   have cT : (i : Int) < (L.length : Int) := by omega
   have hw := aB i (by omega)
   have EF := aB n (by omega)
   obtain ⟨x, hx, PG⟩ := hM.at aD
   have tD : (n : Int) < (L.length : Int) := by omega
   simp only [hw,EF,List.getElem?_map,PG,aj,Nr,cT,Int.natCast_nonneg,tD,List.length_map,go_sem,reduceIte,zA,zB,zC,zD,zE,zF,reduceCtorEq]
   refine bI tt_ok aK [⟨.n, 0, [], [], []⟩, ⟨.n, 0, [], [], []⟩, ⟨.n, 0, [], [], []⟩, ⟨.n, 0, [], [], []⟩, ⟨.r, 0, [], [], []⟩, ⟨.n, 0, [], [], []⟩, ⟨.n, 0, [], [], []⟩, ⟨.n, 0, [], [], []⟩, ⟨.r, 0, [], [], []⟩, ⟨.n, 0, [], [], []⟩, ⟨.r, 0, [], [], []⟩, ⟨.n, 0, [], [], []⟩, ⟨.n, 0, [], [], []⟩] 0 (by kernel_rfl) ?_
   simp only [hw,EF,List.getElem?_map,PG,aj,Nr,cT,Int.natCast_nonneg,tD,List.length_map,go_sem,reduceIte,zA,zB,zC,zD,zE,zF,reduceCtorEq]
   refine aM (fun Cl => ?_) (fun Cl => ?_)
   ·have iG : 0 < i := by have := of_decide_eq_true Cl; omega
    have Yw := hM.h0 iG
    obtain ⟨y, hy, nB⟩ := hM.last iG aD
    have Lj : IntKind.i64.wrap ((n : Int) - 1) = ((n - 1 : Nat) : Int) := jV _ _ (by omega) (by omega)
    have DL : ((n - 1 : Nat) : Int) < (L.length : Int) := by omega
    simp only [hw,EF,List.getElem?_map,PG,aj,Nr,cT,Int.natCast_nonneg,tD,Lj,hy,DL,List.length_map,go_sem,reduceIte,zA,zB,zC,zD,zE,zF,reduceCtorEq]
    refine aM (fun PH => ?_) (fun PH => ?_)
    ·have hle : x.lo ≤ y.hi := by simpa using PH
     have r9 : (if y.hi < x.hi then x.hi else y.hi) = max y.hi x.hi := by split <;> omega
     let nv : Nat × Nat × List bB := (i + 1, n, R.set (n - 1) ⟨y.lo, max y.hi x.hi⟩)
     have Tx := hM.join hx iG hy hle
     simp only [hw,EF,List.getElem?_map,PG,aj,Nr,cT,Int.natCast_nonneg,tD,Lj,hy,DL,r9,List.length_map,go_sem,reduceIte,zA,zB,zC,zD,zE,zF,reduceCtorEq]
     refine bI tt_ok aK [⟨.n, 0, [], [], []⟩, ⟨.n, 0, [], [], []⟩, ⟨.n, 0, [], [1], []⟩, ⟨.n, 0, [], [], []⟩, ⟨.n, 0, [], [], []⟩, ⟨.n, 0, [], [4], []⟩, ⟨.r, 0, [], [3,4,5], []⟩, ⟨.n, 0, [], [3,4,5,6], []⟩, ⟨.r, 0, [], [3,4,5,6,7], []⟩, ⟨.n, 0, [], [], []⟩, ⟨.r, 0, [], [9], []⟩, ⟨.n, 0, [], [3,4,5,6,7,8,9,10], []⟩, ⟨.r, 0, [], [0,1,2,3,4,5,6,7,8,9,10,11], []⟩, ⟨.n, 0, [], [0,1,2,3,4,5,6,7,8,9,10,11,12], []⟩, ⟨.w, 0, [], [0,1,2,3,4,5,6,7,8,9,10,11,12,13], []⟩] 1 (by kernel_rfl) ?_
     simp only [hw,EF,List.getElem?_map,PG,aj,Nr,cT,Int.natCast_nonneg,tD,Lj,hy,DL,r9,List.length_map,go_sem,reduceIte,zA,zB,zC,zD,zE,zF,reduceCtorEq]
     refine qk _ ⟨nv, ?_, ?_, bm (by omega) (by (simp [nv, lg, lk, bo, bF, ai, az, List.map_set, aj, setRow, cB, V.cells]))⟩
     ·dsimp only [nv]; exact Tx
     ·dsimp only [nv]; omega
    ·have AJ : dm (merge (L.take i)) x = merge (L.take i) ++ [x] := mJ fun z hz => by
      rw [nB] at hz; cases hz; simpa using PH
     let nv : Nat × Nat × List bB := (i + 1, n + 1, R.set n x)
     have Tx := hM.push hx AJ
     obtain ⟨z, hz⟩ : ∃ z, R[n]? = some z := ⟨_, List.getElem?_eq_getElem (by omega)⟩
     simp only [hw,EF,List.getElem?_map,PG,aj,Nr,cT,Int.natCast_nonneg,tD,Lj,hy,DL,hz,List.length_map,go_sem,reduceIte,zA,zB,zC,zD,zE,zF,reduceCtorEq]
     refine qk _ ⟨nv, ?_, ?_, bm (by omega) (by (simp [nv, lg, lk, bo, bF, ai, az, List.map_set, aj, setRow, cB, V.cells]))⟩
     ·dsimp only [nv]; exact Tx
     ·dsimp only [nv]; omega
   ·have wI : i = 0 := by have := of_decide_eq_false Cl; omega
    have AJ : dm (merge (L.take i)) x = merge (L.take i) ++ [x] := mJ fun y hy => by simp [wI, merge] at hy
    let nv : Nat × Nat × List bB := (i + 1, n + 1, R.set n x)
    have Tx := hM.push hx AJ
    obtain ⟨z, hz⟩ : ∃ z, R[n]? = some z := ⟨_, List.getElem?_eq_getElem (by omega)⟩
    simp only [hw,EF,List.getElem?_map,PG,aj,Nr,cT,Int.natCast_nonneg,tD,hz,List.length_map,go_sem,reduceIte,zA,zB,zC,zD,zE,zF,reduceCtorEq]
    refine qk _ ⟨nv, ?_, ?_, bm (by omega) (by (simp [nv, lg, lk, bo, bF, ai, az, List.map_set, aj, setRow, cB, V.cells]))⟩
    ·dsimp only [nv]; exact Tx
    ·dsimp only [nv]; omega
  ·have c5 : ¬ i < L.length := by simpa using rO
   have hiL : i = L.length := by omega
   simp only [List.length_map,go_sem,reduceIte,zA,zB,zC,zD,zE,zF,reduceCtorEq]
   refine rM (v' := .slice (R.map aj)) 3 (by decide) rfl (by rw [← Nr]; simp [lk, dO, bu, List.take_of_length_le]) ?_
   have hnR : (n : Int) ≤ (R.length : Int) := by omega
   refine UX tt_ok [19] ?_
   simp only [hnR,Int.le_refl,Int.natCast_nonneg,List.length_map,go_sem,reduceIte,zA,zB,zC,zD,zE,zF,reduceCtorEq]
   refine hK _ ?_
   have gw : (R.take n).map aj = (canon s).map aj := by rw [hM.ht, hiL, List.take_length, zo (hp.trans (List.Perm.of_eq PF)) ha]
   simp [jO, jN, lL, yv, dO, bu, ak, ← List.map_take, gw]
end Go.Proofs.YtnfeacnbgbggfaaGreatDoor
end

section
namespace Go.Proofs.YtnfeacnbgbggfaaGreatDoor
open Go.Eng
open Nat renaming reduceAdd → zA, reduceLT → zB, reduceLeDiff → zC, reduceMul → zD, reduceEqDiff → zE, reduceSub → zF
variable [aH]
set_option maxHeartbeats 4000000
set_option maxRecDepth 100000
theorem bj (T : TypeId) (x y : Operand) (a b : ByteArray) : aQ Tryz.prog (fC .leq T x y) (str a) (str b) = some (bl (Op.bytesLess a.toList b.toList || a.toList == b.toList)) := by
 simp [aQ, bA, fC, binOp, Op.stringOp, eqGuard, aG, dx, bind, pure, Sem.bind]
theorem dR (T : TypeId) (x y : Operand) (a b : ByteArray) : aQ Tryz.prog (fC .geq T x y) (str a) (str b) = some (bl (!Op.bytesLess a.toList b.toList)) := by
 simp [aQ, bA, fC, binOp, Op.stringOp, eqGuard, aG, dx, bind, pure, Sem.bind]
theorem iW (x y : Operand) : aQ Tryz.prog (fC .neq 168 x y) (.sc (.pointer none)) (.sc (.pointer none)) = some (bl false) := by kernel_rfl
theorem da.Ns (v : da) (i : Nat) (h : i < 3) : List.drop i [num v.mj, num v.mn, num v.pt] = num (v.part i) :: List.drop (i + 1) [num v.mj, num v.mn, num v.pt] := by
 obtain ⟨a, b, c⟩ := v
 match i, h with
 | 0, _ => rfl
 | 1, _ => rfl
 | 2, _ => rfl
def JR (a b : ByteArray) : Bool := km a b || decide (a = b)
def mK (q : Rq) (b : Option Rq) : Int := if bD q.path ≠ 0 then 4 else if (decide (q.set.length = 0) || !decide (q.set = canon q.set) || (match b with | some p => JR q.path p.path | none => false)) = true then 1 else 0
def eQ (b : Option Rq) : List Rq → Int
 | [] => 0
 | q :: r => if mK q b ≠ 0 then mK q b else eQ (some q) r
def fq (l : List Rq) : Int := if 16 < l.length then 7 else eQ none l
def jJ (s : ByteArray) : Bool := decide (s.size = 0) || decide (s.size = 32)
def gH (r : Rl) : Int := if bD r.path ≠ 0 then 4 else if (!r.aC.ok || !decide (r.aC.mj = bO r.path)) = true then 2 else if fq r.reqs ≠ 0 then fq r.reqs else if (jJ r.ar && (jJ r.gq && jJ r.ce)) = true then 0 else 1
def dS (b : Option Rl) : List Rl → Int
 | [] => 0
 | r :: t => if gH r ≠ 0 then gH r else match b with
  | none => dS (some r) t
  | some p => if p.key = r.key then 5 else if 0 < p.cmp r then 1 else dS (some r) t
theorem fk (b : Option Rl) (r : Rl) (t : List Rl) : dS b (r :: t) = if gH r ≠ 0 then gH r else match b with
  | none => dS (some r) t
  | some p => if p.key = r.key then 5 else if 0 < p.cmp r then 1 else dS (some r) t := by cases b <;> rfl
def eH (l : List Rl) : Int := if 256 < l.length then 7 else dS none l
def xm (q : Rq) : Prop := q.path.size ≤ 1048576 ∧ q.set.length ≤ 1048576
def Cm (r : Rl) : Prop := r.path.size ≤ 1048576 ∧ r.reqs.length ≤ 1048576 ∧ ∀ q ∈ r.reqs, xm q
def ux (l : List Rl) : Prop := l.length ≤ 1048576 ∧ ∀ r ∈ l, Cm r
def bP {α : Type} (l : List α) (i : Nat) : Option α := if i = 0 then none else l[i - 1]?
theorem tE {l : List Rq} {i : Nat} {q : Rq} (h : l[i]? = some q) (h0 : mK q (bP l i) = 0) : eQ (bP l i) (l.drop i) = eQ (bP l (i + 1)) (l.drop (i + 1)) := by
 have aD := (List.getElem?_eq_some_iff.1 h).1
 rw [List.drop_eq_getElem_cons aD, (List.getElem?_eq_some_iff.1 h).2, eQ, if_neg (by rw [h0]; simp)]
 unfold bP
 rw [if_neg (Nat.succ_ne_zero i), Nat.add_sub_cancel, h]
theorem lZ {l : List Rq} {i : Nat} {q : Rq} (h : l[i]? = some q) (h0 : mK q (bP l i) ≠ 0) : eQ (bP l i) (l.drop i) = mK q (bP l i) := by
 have aD := (List.getElem?_eq_some_iff.1 h).1
 rw [List.drop_eq_getElem_cons aD, (List.getElem?_eq_some_iff.1 h).2, eQ, if_pos h0]
def bV (l : List Rq) (i : Nat) : V := match bP l i with
 | none => .sc (.pointer none)
 | some p => .cg [str p.path, ak p.set]
theorem iX (mem : List aw) (l : List Rq) (i : Nat) : dO mem (bV l i) = some (bV l i) := by unfold bV; split <;> rfl
theorem iY (l : List Rq) (i : Nat) : cn (bV l i) = [] := by unfold bV; split <;> rfl
theorem eI (n : Nat) (l : List Rq) (i : Nat) : ai n (bV l i) = true := by unfold bV; split <;> rfl
theorem Lk {l : List Rq} {i : Nat} {q : Rq} (h : l[i]? = some q) : bV l (i + 1) = .cg [str q.path, ak q.set] := by
 unfold bV bP
 rw [if_neg (Nat.succ_ne_zero i), Nat.add_sub_cancel, h]
def H3 (r : Rl) (i : Nat) : ByteArray := if i = 0 then r.ar else if i = 1 then r.gq else r.ce
theorem PI (r : Rl) (i : Nat) (h : i < 3) : [str r.ar, str r.gq, str r.ce][i]? = some (str (H3 r i)) := by
 match i, h with
 | 0, _ => rfl
 | 1, _ => rfl
 | 2, _ => rfl
theorem PJ {r : Rl} (h : ∀ i < 3, jJ (H3 r i) = true) : (jJ r.ar && (jJ r.gq && jJ r.ce)) = true := by
 have h0 := h 0 (by omega); have h1 := h 1 (by omega); have h2 := h 2 (by omega)
 simp only [Bool.and_eq_true]
 exact ⟨h0, h1, h2⟩
theorem Ty {r : Rl} {i : Nat} (hi : i < 3) (h : jJ (H3 r i) = false) : (jJ r.ar && (jJ r.gq && jJ r.ce)) = false := by
 match i, hi with
 | 0, _ => rw [show jJ r.ar = false from h]; rfl
 | 1, _ => rw [show jJ r.gq = false from h]; simp
 | 2, _ => rw [show jJ r.ce = false from h]; simp
theorem mL {l : List Rl} {i : Nat} {r : Rl} (h : l[i]? = some r) (h0 : gH r = 0) (hb : ∀ p, bP l i = some p → p.key ≠ r.key ∧ ¬ 0 < p.cmp r) : dS (bP l i) (l.drop i) = dS (bP l (i + 1)) (l.drop (i + 1)) := by
 have aD := (List.getElem?_eq_some_iff.1 h).1
 have hp : bP l (i + 1) = some r := by
  unfold bP
  rw [if_neg (Nat.succ_ne_zero i), Nat.add_sub_cancel, h]
 rw [List.drop_eq_getElem_cons aD, (List.getElem?_eq_some_iff.1 h).2, fk, if_neg (by rw [h0]; simp), hp]
 cases hq : bP l i with
 | none => rfl
 | some p => dsimp only; rw [if_neg (hb p hq).1, if_neg (hb p hq).2]
theorem DN {l : List Rl} {i : Nat} {r : Rl} (h : l[i]? = some r) (h0 : gH r ≠ 0) : dS (bP l i) (l.drop i) = gH r := by
 have aD := (List.getElem?_eq_some_iff.1 h).1
 rw [List.drop_eq_getElem_cons aD, (List.getElem?_eq_some_iff.1 h).2, fk, if_pos h0]
theorem tF {l : List Rl} {i : Nat} {r p : Rl} (h : l[i]? = some r) (h0 : gH r = 0) (hp : bP l i = some p) : dS (bP l i) (l.drop i) = if p.key = r.key then 5 else if 0 < p.cmp r then 1 else dS (some r) (l.drop (i + 1)) := by
 have aD := (List.getElem?_eq_some_iff.1 h).1
 rw [List.drop_eq_getElem_cons aD, (List.getElem?_eq_some_iff.1 h).2, fk, if_neg (by rw [h0]; simp), hp]
theorem qm {α : Type} {l : List α} {i : Nat} (h : i ≠ 0) : bP l i = l[i - 1]? := if_neg h
theorem Ll (a b : da) : ∃ r_, (fun w => w = num (a.cmp b)) r_ ∧ aO Tryz.prog 112 [aU a, aU b] r_ := by
 refine ef tt_ok [] 27 [.tmp 4] (fn := Tryz.f112) Tryz.func112 rfl Tryz.call112 ⟨rfl, rfl, by simp⟩ fun K hK => ?_
 simp only [aU]
 simp only [Tryz.underlying151,go_sem,reduceIte,zA,zB,zC,zD,zE,zF,reduceCtorEq]
 refine bI tt_ok aK [⟨.r, 0, [0,1], [], []⟩, ⟨.n, 0, [], [], []⟩, ⟨.r, 0, [0,1], [], []⟩, ⟨.n, 0, [], [], []⟩, ⟨.a, 0, [], [], []⟩, ⟨.a, 1, [], [], []⟩, ⟨.s, 0, [], [], []⟩, ⟨.s, 1, [], [], []⟩] 2 (by kernel_rfl) ?_
 simp only [Tryz.underlying151,go_sem,reduceIte,zA,zB,zC,zD,zE,zF,reduceCtorEq]
 refine cG (by have h := tr a; simp only [aU] at h; exact h) ?_
 rintro _ rfl
 simp only [Tryz.underlying151,go_sem,reduceIte,zA,zB,zC,zD,zE,zF,reduceCtorEq]
 refine cG (by have h := tr b; simp only [aU] at h; exact h) ?_
 rintro _ rfl
 simp only [Tryz.underlying151,go_sem,reduceIte,zA,zB,zC,zD,zE,zF,reduceCtorEq]
 refine bL tt_ok [] [13] 4 [5,6] (fun vs => ((3 : Int) - Go.Eng.intOf (vs.headD .undef)).toNat) (fun vs => ∃ i : Nat, vs = [num i] ∧ i ≤ 3 ∧ ∀ j < i, fp (a.part j) (b.part j) = 0) (by omega) (by simp only [Tryz.underlying151,go_sem,reduceIte,zA,zB,zC,zD,zE,zF,reduceCtorEq]) (⟨0, rfl, Nat.zero_le _, fun j hj => absurd hj (Nat.not_lt_zero j)⟩) fun vs hI Z1 bW => ?_
 obtain ⟨i, rfl, hi, bh⟩ := hI
 simp only [Tryz.underlying151,go_sem,reduceIte,zA,zB,zC,zD,zE,zF,reduceCtorEq]
 refine aM (fun cX => ?_) (fun cX => ?_)
 ·have aD : i < 3 := by have := of_decide_eq_true cX; omega
  rw [cX]
  have cT : (i : Int) < 3 := by omega
  have hw := aB i (by omega)
  have Rm := a.Ns i aD
  have Rn := b.Ns i aD
  have tG : ((3 : Nat) : Int) = 3 := rfl
  simp only [hw,cT,Rm,Rn,tG,Int.natCast_nonneg,Int.toNat_natCast,Nat.mul_one,Nat.zero_add,List.head?_cons,Tryz.underlying151,go_sem,reduceIte,zA,zB,zC,zD,zE,zF,reduceCtorEq]
  refine bI tt_ok aK [⟨.n, 0, [], [], []⟩, ⟨.r, 0, [], [], []⟩, ⟨.r, 0, [], [], []⟩, ⟨.n, 0, [], [], []⟩, ⟨.r, 0, [], [], []⟩, ⟨.r, 0, [], [], []⟩, ⟨.n, 0, [], [], []⟩, ⟨.n, 0, [], [], []⟩] 0 (by kernel_rfl) ?_
  simp only [hw,cT,Rm,Rn,tG,Int.natCast_nonneg,Int.toNat_natCast,Nat.mul_one,Nat.zero_add,List.head?_cons,Tryz.underlying151,go_sem,reduceIte,zA,zB,zC,zD,zE,zF,reduceCtorEq]
  refine cG (K5 _ _) ?_
  rintro _ rfl
  simp only [hw,cT,Rm,Rn,tG,Int.natCast_nonneg,Int.toNat_natCast,Nat.mul_one,Nat.zero_add,List.head?_cons,Tryz.underlying151,go_sem,reduceIte,zA,zB,zC,zD,zE,zF,reduceCtorEq]
  refine aM (fun lh => ?_) (fun lh => ?_)
  ·have ay : fp (a.part i) (b.part i) = a.cmp b := (da.B6 aD bh (by simpa using lh)).symm
   simp only [hw,cT,Rm,Rn,tG,Int.natCast_nonneg,Int.toNat_natCast,Nat.mul_one,Nat.zero_add,List.head?_cons,Tryz.underlying151,go_sem,reduceIte,zA,zB,zC,zD,zE,zF,reduceCtorEq]
   exact hK _ (congrArg num ay)
  ·simp only [hw,cT,Rm,Rn,tG,Int.natCast_nonneg,Int.toNat_natCast,Nat.mul_one,Nat.zero_add,List.head?_cons,Tryz.underlying151,go_sem,reduceIte,zA,zB,zC,zD,zE,zF,reduceCtorEq]
   refine bW _ (dD (by omega) (by simp only [hw,cT,Rm,Rn,tG,Int.natCast_nonneg,Int.toNat_natCast,Nat.mul_one,Nat.zero_add,List.head?_cons,Tryz.underlying151,go_sem,reduceIte,zA,zB,zC,zD,zE,zF,reduceCtorEq]) ?_ ?_) <;> simp only [gQ,lk,reduceIte,zE]
   ·refine ⟨i + 1, rfl, aD, fun j hj => ?_⟩
    rcases Nat.lt_or_ge j i with h | h
    ·exact bh j h
    ·obtain rfl : j = i := by omega
     simpa using lh
   ·simp only [Go.Eng.intOf,List.headD_cons]; omega
 ·have c5 : i = 3 := by have := of_decide_eq_false cX; omega
  subst c5
  have ay : 0 = a.cmp b := (da.cmp_eq bh).symm
  simp only [Tryz.underlying151,go_sem,reduceIte,zA,zB,zC,zD,zE,zF,reduceCtorEq]
  exact hK _ (congrArg num ay)
theorem Cn (a b : Rl) : ∃ r_, (fun w => w = num (a.cmp b)) r_ ∧ aO Tryz.prog 76 [ag a, ag b] r_ := by
 refine ef tt_ok [] 17 [.tmp 4] (fn := Tryz.f76) Tryz.func76 rfl Tryz.call76 ⟨rfl, rfl, by simp⟩ fun K hK => ?_
 simp only [ag,af]
 simp only [go_sem,reduceIte,zA,zB,zC,zD,zE,zF,reduceCtorEq]
 refine bI tt_ok aK [⟨.n, 0, [], [], []⟩, ⟨.r, 0, [], [], []⟩, ⟨.n, 0, [], [], []⟩, ⟨.r, 0, [], [], []⟩, ⟨.n, 0, [], [], []⟩, ⟨.n, 0, [], [], []⟩, ⟨.r, 0, [], [], []⟩, ⟨.n, 0, [], [], []⟩, ⟨.r, 0, [], [], []⟩, ⟨.n, 0, [], [], []⟩, ⟨.n, 0, [], [], []⟩, ⟨.n, 0, [], [], []⟩, ⟨.n, 0, [], [], []⟩] 0 (by kernel_rfl) ?_
 simp only [go_sem,reduceIte,zA,zB,zC,zD,zE,zF,reduceCtorEq]
 refine cG (K6 _ _) ?_
 rintro _ rfl
 simp only [go_sem,reduceIte,zA,zB,zC,zD,zE,zF,reduceCtorEq]
 refine cG (by have h := Ll a.aC b.aC; simp only [aU] at h; exact h) ?_
 rintro _ rfl
 simp only [go_sem,reduceIte,zA,zB,zC,zD,zE,zF,reduceCtorEq]
 refine cG (Th [kN a.path b.path, a.aC.cmp b.aC] (show 2 ≤ 1048576 by decide)) ?_
 rintro _ rfl
 simp only [go_sem,reduceIte,zA,zB,zC,zD,zE,zF,reduceCtorEq]
 exact hK _ (congrArg num (by rw [K4]; rfl))
theorem PK (hG : aH.g = some 0) (q : Rq) (hb : xm q) : ∃ r_, (fun w => w = num (mK q none)) r_ ∧ aO Tryz.prog 134 [ao q, .sc (.pointer none)] r_ := by
 refine ef tt_ok [] 43 [.tmp 4] (fn := Tryz.f134) Tryz.func134 rfl Tryz.call134 ⟨rfl, rfl, by simp⟩ fun K hK => ?_
 simp only [ao,ak]
 obtain ⟨rF, ur⟩ := hb
 have H4 := pj q.set ur
 have rE := zv q.set (canon q.set) ur
 generalize hC : canon q.set = C at H4 rE
 simp only [List.length_map,iW,go_sem,reduceIte,zA,zB,zC,zD,zE,zF,reduceCtorEq]
 refine cF (r8 hG q.path rF) ?_
 rintro _ ⟨nm, rfl⟩
 simp only [List.length_map,iW,go_sem,reduceIte,zA,zB,zC,zD,zE,zF,reduceCtorEq]
 refine aM (fun kM => ?_) (fun kM => ?_)
 ·simp only [List.length_map,iW,go_sem,reduceIte,zA,zB,zC,zD,zE,zF,reduceCtorEq]
  exact hK _ (congrArg num (by unfold mK; rw [hC]; simp_all))
 ·simp only [List.length_map,iW,go_sem,reduceIte,zA,zB,zC,zD,zE,zF,reduceCtorEq]
  refine bI tt_ok aK [⟨.n, 0, [], [], []⟩, ⟨.r, 0, [], [], []⟩, ⟨.n, 0, [], [], []⟩, ⟨.n, 0, [], [], []⟩, ⟨.n, 0, [], [], []⟩, ⟨.n, 0, [], [], []⟩, ⟨.r, 0, [], [], []⟩, ⟨.n, 0, [], [], []⟩, ⟨.r, 0, [], [], []⟩, ⟨.n, 0, [], [], []⟩, ⟨.n, 0, [], [], []⟩, ⟨.n, 0, [], [], []⟩, ⟨.n, 0, [], [], []⟩, ⟨.n, 0, [], [], []⟩, ⟨.n, 0, [], [], []⟩, ⟨.n, 0, [], [], []⟩, ⟨.n, 0, [], [], []⟩, ⟨.n, 0, [], [], []⟩, ⟨.r, 0, [], [], []⟩, ⟨.n, 0, [], [], []⟩, ⟨.n, 0, [], [], []⟩, ⟨.n, 0, [], [], []⟩, ⟨.r, 0, [], [], []⟩, ⟨.n, 0, [], [], []⟩, ⟨.n, 0, [], [], []⟩, ⟨.n, 0, [], [], []⟩] 0 (by kernel_rfl) ?_
  simp only [List.length_map,iW,go_sem,reduceIte,zA,zB,zC,zD,zE,zF,reduceCtorEq]
  refine aM (fun tH => ?_) (fun tH => ?_)
  ·simp only [List.length_map,iW,go_sem,reduceIte,zA,zB,zC,zD,zE,zF,reduceCtorEq]
   exact hK _ (congrArg num (by unfold mK; rw [hC]; simp_all))
  ·simp only [List.length_map,iW,go_sem,reduceIte,zA,zB,zC,zD,zE,zF,reduceCtorEq]
   refine cG (⟨_, rfl, H4⟩) ?_
   rintro _ rfl
   simp only [List.length_map,iW,go_sem,reduceIte,zA,zB,zC,zD,zE,zF,reduceCtorEq]
   refine cG (rE) ?_
   rintro _ rfl
   simp only [List.length_map,iW,go_sem,reduceIte,zA,zB,zC,zD,zE,zF,reduceCtorEq]
   refine aM (fun Co => ?_) (fun Co => ?_)
   ·simp only [List.length_map,iW,go_sem,reduceIte,zA,zB,zC,zD,zE,zF,reduceCtorEq]
    exact hK _ (congrArg num (by unfold mK; rw [hC]; simp_all))
   ·simp only [List.length_map,iW,go_sem,reduceIte,zA,zB,zC,zD,zE,zF,reduceCtorEq]
    exact hK _ (congrArg num (by unfold mK; rw [hC]; simp_all))
theorem PL (hG : aH.g = some 0) (q p : Rq) (hb : xm q) : ∃ r_, (fun w => w = num (mK q (some p))) r_ ∧ aO Tryz.prog 134 [ao q, .cg [str p.path, ak p.set]] r_ := by
 refine ef tt_ok [] 43 [.tmp 4] (fn := Tryz.f134) Tryz.func134 rfl Tryz.call134 ⟨rfl, rfl, by simp⟩ fun K hK => ?_
 simp only [ao,ak]
 obtain ⟨rF, ur⟩ := hb
 have H4 := pj q.set ur
 have rE := zv q.set (canon q.set) ur
 generalize hC : canon q.set = C at H4 rE
 simp only [List.length_map,Tryz.underlying168,bj,go_sem,reduceIte,zA,zB,zC,zD,zE,zF,reduceCtorEq]
 refine cF (r8 hG q.path rF) ?_
 rintro _ ⟨nm, rfl⟩
 simp only [List.length_map,Tryz.underlying168,bj,go_sem,reduceIte,zA,zB,zC,zD,zE,zF,reduceCtorEq]
 refine aM (fun kM => ?_) (fun kM => ?_)
 ·simp only [List.length_map,Tryz.underlying168,bj,go_sem,reduceIte,zA,zB,zC,zD,zE,zF,reduceCtorEq]
  exact hK _ (congrArg num (by unfold mK JR km; rw [hC]; simp_all [au]))
 ·simp only [List.length_map,Tryz.underlying168,bj,go_sem,reduceIte,zA,zB,zC,zD,zE,zF,reduceCtorEq]
  refine bI tt_ok aK [⟨.n, 0, [], [], []⟩, ⟨.r, 0, [], [], []⟩, ⟨.n, 0, [], [], []⟩, ⟨.n, 0, [], [], []⟩, ⟨.n, 0, [], [], []⟩, ⟨.n, 0, [], [], []⟩, ⟨.r, 0, [], [], []⟩, ⟨.n, 0, [], [], []⟩, ⟨.r, 0, [], [], []⟩, ⟨.n, 0, [], [], []⟩, ⟨.n, 0, [], [], []⟩, ⟨.n, 0, [], [], []⟩, ⟨.n, 0, [], [], []⟩, ⟨.n, 0, [], [], []⟩, ⟨.n, 0, [], [], []⟩, ⟨.n, 0, [], [], []⟩, ⟨.n, 0, [], [], []⟩, ⟨.n, 0, [], [], []⟩, ⟨.r, 0, [], [], []⟩, ⟨.n, 0, [], [], []⟩, ⟨.n, 0, [], [], []⟩, ⟨.n, 0, [], [], []⟩, ⟨.r, 0, [], [], []⟩, ⟨.n, 0, [], [], []⟩, ⟨.n, 0, [], [], []⟩, ⟨.n, 0, [], [], []⟩] 0 (by kernel_rfl) ?_
  simp only [List.length_map,Tryz.underlying168,bj,go_sem,reduceIte,zA,zB,zC,zD,zE,zF,reduceCtorEq]
  refine aM (fun tH => ?_) (fun tH => ?_)
  ·simp only [List.length_map,Tryz.underlying168,bj,go_sem,reduceIte,zA,zB,zC,zD,zE,zF,reduceCtorEq]
   exact hK _ (congrArg num (by unfold mK JR km; rw [hC]; simp_all [au]))
  ·simp only [List.length_map,Tryz.underlying168,bj,go_sem,reduceIte,zA,zB,zC,zD,zE,zF,reduceCtorEq]
   refine cG (⟨_, rfl, H4⟩) ?_
   rintro _ rfl
   simp only [List.length_map,Tryz.underlying168,bj,go_sem,reduceIte,zA,zB,zC,zD,zE,zF,reduceCtorEq]
   refine cG (rE) ?_
   rintro _ rfl
   simp only [List.length_map,Tryz.underlying168,bj,go_sem,reduceIte,zA,zB,zC,zD,zE,zF,reduceCtorEq]
   refine aM (fun Co => ?_) (fun Co => ?_)
   ·simp only [List.length_map,Tryz.underlying168,bj,go_sem,reduceIte,zA,zB,zC,zD,zE,zF,reduceCtorEq]
    exact hK _ (congrArg num (by unfold mK JR km; rw [hC]; simp_all [au]))
   ·simp only [List.length_map,Tryz.underlying168,bj,go_sem,reduceIte,zA,zB,zC,zD,zE,zF,reduceCtorEq]
    refine aM (fun PN => ?_) (fun PN => ?_)
    ·simp only [List.length_map,Tryz.underlying168,bj,go_sem,reduceIte,zA,zB,zC,zD,zE,zF,reduceCtorEq]
     exact hK _ (congrArg num (by unfold mK JR km; rw [hC]; simp_all [au]))
    ·simp only [List.length_map,Tryz.underlying168,bj,go_sem,reduceIte,zA,zB,zC,zD,zE,zF,reduceCtorEq]
     exact hK _ (congrArg num (by unfold mK JR km; rw [hC]; simp_all [au]))
theorem Tz (hG : aH.g = some 0) (q : Rq) (l : List Rq) (i : Nat) (hb : xm q) : ∃ r_, (fun w => w = num (mK q (bP l i))) r_ ∧ aO Tryz.prog 134 [ao q, bV l i] r_ := by
 unfold bV
 cases bP l i with
 | none => exact PK hG q hb
 | some p => exact PL hG q p hb
end Go.Proofs.YtnfeacnbgbggfaaGreatDoor
end

section
namespace Go.Proofs.YtnfeacnbgbggfaaGreatDoor
open Go.Eng
open Nat renaming reduceAdd → zA, reduceLT → zB, reduceLeDiff → zC, reduceMul → zD, reduceEqDiff → zE, reduceSub → zF
variable [aH]
set_option maxHeartbeats 4000000
set_option maxRecDepth 100000
theorem PO (hG : aH.g = some 0) (l : List Rq) (hl : l.length ≤ 1048576) (hb : ∀ q ∈ l, xm q) : ∃ r_, (fun w => w = num (fq l)) r_ ∧ aO Tryz.prog 109 [ah l] r_ := by
 refine ef tt_ok [] 27 [.tmp 2] (fn := Tryz.f109) Tryz.func109 rfl Tryz.call109 ⟨rfl, rfl, by simp⟩ fun K hK => ?_
 simp only [ah]
 obtain ⟨n, hn⟩ : ∃ n : Nat, n = 16 := ⟨_, rfl⟩
 simp only [eI,List.length_map,↓iX,↓iY,go_sem,reduceIte,zA,zB,zC,zD,zE,zF,reduceCtorEq]
 refine aM (fun jG => ?_) (fun jG => ?_)
 ·have ay : 7 = fq l := by unfold fq; rw [if_pos (by have := of_decide_eq_true jG; omega)]
  simp only [eI,List.length_map,↓iX,↓iY,go_sem,reduceIte,zA,zB,zC,zD,zE,zF,reduceCtorEq]
  exact hK _ (congrArg num ay)
 ·simp only [eI,List.length_map,↓iX,↓iY,go_sem,reduceIte,zA,zB,zC,zD,zE,zF,reduceCtorEq]
  refine bL tt_ok [] [12,3] 0 [0,9,10,11] (fun vs => ((l.length : Int) - Go.Eng.intOf (vs.headD .undef)).toNat) (fun vs => ∃ i : Nat, vs = [num i, bV l i] ∧ i ≤ l.length ∧ eQ none l = eQ (bP l i) (l.drop i)) (by omega) (by simp only [eI,List.length_map,↓iX,↓iY,go_sem,reduceIte,zA,zB,zC,zD,zE,zF,reduceCtorEq]) (⟨0, rfl, Nat.zero_le _, rfl⟩) fun vs hI Z1 bW => ?_
  obtain ⟨i, rfl, hi, iq⟩ := hI
  simp only [eI,List.length_map,↓iX,↓iY,go_sem,reduceIte,zA,zB,zC,zD,zE,zF,reduceCtorEq]
  refine aM (fun l0 => ?_) (fun l0 => ?_)
  ·have aD : i < l.length := by simpa using l0
   have hw := aB i (by omega)
   obtain ⟨x, hx⟩ : ∃ x, l[i]? = some x := ⟨_, List.getElem?_eq_getElem aD⟩
   simp only [eI,hw,List.getElem?_map,hx,ao,ak,List.length_map,↓iX,↓iY,go_sem,reduceIte,zA,zB,zC,zD,zE,zF,reduceCtorEq]
   refine cF (by have h := Tz hG x l i (hb x (List.mem_of_getElem? hx)); simp only [ao,ak] at h; exact h) ?_
   rintro _ rfl
   simp only [eI,hw,List.getElem?_map,hx,ao,ak,List.length_map,↓iX,↓iY,go_sem,reduceIte,zA,zB,zC,zD,zE,zF,reduceCtorEq]
   refine aM (fun gx => ?_) (fun gx => ?_)
   ·have ay : mK x (bP l i) = fq l := by unfold fq; rw [if_neg (by have := of_decide_eq_false jG; omega), iq, lZ hx (by simpa using gx)]
    simp only [eI,hw,List.getElem?_map,hx,ao,ak,List.length_map,↓iX,↓iY,go_sem,reduceIte,zA,zB,zC,zD,zE,zF,reduceCtorEq]
    exact hK _ (congrArg num ay)
   ·simp only [eI,hw,List.getElem?_map,hx,ao,ak,List.length_map,↓iX,↓iY,go_sem,reduceIte,zA,zB,zC,zD,zE,zF,reduceCtorEq]
    refine bW _ (dD (by omega) (by simp only [eI,hw,List.getElem?_map,hx,ao,ak,List.length_map,↓iX,↓iY,go_sem,reduceIte,zA,zB,zC,zD,zE,zF,reduceCtorEq]) ?_ ?_) <;> simp only [gQ,lk,reduceIte,zE]
    ·exact ⟨i + 1, by rw [Lk hx]; rfl, aD, by rw [iq]; exact tE hx (by simpa using gx)⟩
    ·simp only [Go.Eng.intOf,List.headD_cons]; omega
  ·have c5 : ¬ i < l.length := by simpa using l0
   have ay : 0 = fq l := by unfold fq; rw [if_neg (by have := of_decide_eq_false jG; omega), iq, List.drop_eq_nil_of_le (by omega)]; rfl
   simp only [eI,List.length_map,↓iX,↓iY,go_sem,reduceIte,zA,zB,zC,zD,zE,zF,reduceCtorEq]
   exact hK _ (congrArg num ay)
theorem Cp (hG : aH.g = some 0) (r : Rl) (hb : Cm r) : ∃ r_, (fun w => w = num (gH r)) r_ ∧ aO Tryz.prog 75 [ag r] r_ := by
 refine ef tt_ok [] 56 [.tmp 2] (fn := Tryz.f75) Tryz.func75 rfl Tryz.call75 ⟨rfl, rfl, by simp⟩ fun K hK => ?_
 simp only [ag,af,ah]
 obtain ⟨rF, ur, M0⟩ := hb
 simp only [go_sem,reduceIte,zA,zB,zC,zD,zE,zF,reduceCtorEq]
 refine cF (r8 hG r.path rF) ?_
 rintro _ ⟨nm, rfl⟩
 simp only [go_sem,reduceIte,zA,zB,zC,zD,zE,zF,reduceCtorEq]
 refine aM (fun jf => ?_) (fun jf => ?_)
 ·have ay : 4 = gH r := by unfold gH; simp_all
  simp only [go_sem,reduceIte,zA,zB,zC,zD,zE,zF,reduceCtorEq]
  exact hK _ (congrArg num ay)
 ·simp only [go_sem,reduceIte,zA,zB,zC,zD,zE,zF,reduceCtorEq]
  refine cF (by have h := zu r.aC; simp only [aU] at h; exact h) ?_
  rintro _ rfl
  simp only [go_sem,reduceIte,zA,zB,zC,zD,zE,zF,reduceCtorEq]
  refine aM (fun tH => ?_) (fun tH => ?_)
  ·have ay : 2 = gH r := by unfold gH; simp_all
   simp only [go_sem,reduceIte,zA,zB,zC,zD,zE,zF,reduceCtorEq]
   exact hK _ (congrArg num ay)
  ·simp only [go_sem,reduceIte,zA,zB,zC,zD,zE,zF,reduceCtorEq]
   refine aM (fun PQ => ?_) (fun PQ => ?_)
   ·have ay : 2 = gH r := by unfold gH; simp_all
    simp only [go_sem,reduceIte,zA,zB,zC,zD,zE,zF,reduceCtorEq]
    exact hK _ (congrArg num ay)
   ·simp only [go_sem,reduceIte,zA,zB,zC,zD,zE,zF,reduceCtorEq]
    refine cF (by have h := PO hG r.reqs ur M0; simp only [ah] at h; exact h) ?_
    rintro _ rfl
    simp only [go_sem,reduceIte,zA,zB,zC,zD,zE,zF,reduceCtorEq]
    refine aM (fun zT => ?_) (fun zT => ?_)
    ·have ay : fq r.reqs = gH r := by unfold gH; simp_all
     simp only [go_sem,reduceIte,zA,zB,zC,zD,zE,zF,reduceCtorEq]
     exact hK _ (congrArg num ay)
    ·simp only [go_sem,reduceIte,zA,zB,zC,zD,zE,zF,reduceCtorEq]
     refine bL tt_ok [] [43] 2 [17,28,33,41,42] (fun vs => ((3 : Int) - Go.Eng.intOf (vs.headD .undef)).toNat) (fun vs => ∃ i : Nat, vs = [num i] ∧ i ≤ 3 ∧ ∀ j < i, jJ (H3 r j) = true) (by omega) (by simp only [go_sem,reduceIte,zA,zB,zC,zD,zE,zF,reduceCtorEq]) (⟨0, rfl, Nat.zero_le _, fun j hj => absurd hj (Nat.not_lt_zero j)⟩) fun vs hI Z1 bW => ?_
     obtain ⟨i, rfl, hi, bh⟩ := hI
     simp only [go_sem,reduceIte,zA,zB,zC,zD,zE,zF,reduceCtorEq]
     refine aM (fun Lm => ?_) (fun Lm => ?_)
     ·have aD : i < 3 := by have := of_decide_eq_true Lm; omega
      rw [Lm]
      have cT : (i : Int) < 3 := by omega
      have hw := aB i (by omega)
      have zN := PI r i aD
      have tG : ((3 : Nat) : Int) = 3 := rfl
      simp only [hw,cT,zN,tG,Int.natCast_nonneg,Int.toNat_natCast,go_sem,reduceIte,zA,zB,zC,zD,zE,zF,reduceCtorEq]
      refine aM (fun PR => ?_) (fun PR => ?_)
      ·simp only [hw,cT,zN,tG,Int.natCast_nonneg,Int.toNat_natCast,go_sem,reduceIte,zA,zB,zC,zD,zE,zF,reduceCtorEq]
       refine aM (fun qn => ?_) (fun qn => ?_)
       ·have M3 : jJ (H3 r i) = false := by unfold jJ; simp_all <;> omega
        have hdn := Ty aD M3
        have ay : 1 = gH r := by unfold gH; simp_all
        simp only [hw,cT,zN,tG,Int.natCast_nonneg,Int.toNat_natCast,go_sem,reduceIte,zA,zB,zC,zD,zE,zF,reduceCtorEq]
        exact hK _ (congrArg num ay)
       ·simp only [hw,cT,zN,tG,Int.natCast_nonneg,Int.toNat_natCast,go_sem,reduceIte,zA,zB,zC,zD,zE,zF,reduceCtorEq]
        refine bW _ (dD (by omega) (by simp only [hw,cT,zN,tG,Int.natCast_nonneg,Int.toNat_natCast,go_sem,reduceIte,zA,zB,zC,zD,zE,zF,reduceCtorEq]) ?_ ?_) <;> simp only [gQ,lk,reduceIte,zE]
        ·refine ⟨i + 1, rfl, aD, fun j hj => ?_⟩
         rcases Nat.lt_or_ge j i with h | h
         ·exact bh j h
         ·obtain rfl : j = i := by omega
          unfold jJ; simp_all <;> omega
        ·simp only [Go.Eng.intOf,List.headD_cons]; omega
      ·simp only [hw,cT,zN,tG,Int.natCast_nonneg,Int.toNat_natCast,go_sem,reduceIte,zA,zB,zC,zD,zE,zF,reduceCtorEq]
       refine bW _ (dD (by omega) (by simp only [hw,cT,zN,tG,Int.natCast_nonneg,Int.toNat_natCast,go_sem,reduceIte,zA,zB,zC,zD,zE,zF,reduceCtorEq]) ?_ ?_) <;> simp only [gQ,lk,reduceIte,zE]
       ·refine ⟨i + 1, rfl, aD, fun j hj => ?_⟩
        rcases Nat.lt_or_ge j i with h | h
        ·exact bh j h
        ·obtain rfl : j = i := by omega
         unfold jJ; simp_all <;> omega
       ·simp only [Go.Eng.intOf,List.headD_cons]; omega
     ·have c5 : i = 3 := by have := of_decide_eq_false Lm; omega
      subst c5
      have M3 := PJ bh
      have ay : 0 = gH r := by unfold gH; simp_all
      simp only [go_sem,reduceIte,zA,zB,zC,zD,zE,zF,reduceCtorEq]
      exact hK _ (congrArg num ay)
theorem tI (hG : aH.g = some 0) (l : List Rl) (I : List V) (hb : ux l) : ∃ r_, (fun w => w = num (eH l)) r_ ∧ aO Tryz.prog 22 [bk l I] r_ := by
 refine ef tt_ok [] 42 [.tmp 2] (fn := Tryz.f22) Tryz.func22 rfl Tryz.call22 ⟨rfl, rfl, by simp⟩ fun K hK => ?_
 simp only [bk,aV]
 obtain ⟨hl, hb⟩ := hb
 simp only [List.length_map,go_sem,reduceIte,zA,zB,zC,zD,zE,zF,reduceCtorEq]
 refine aM (fun cY => ?_) (fun cY => ?_)
 ·have ay : 7 = eH l := by unfold eH; rw [if_pos (by have := of_decide_eq_true cY; omega)]
  simp only [List.length_map,go_sem,reduceIte,zA,zB,zC,zD,zE,zF,reduceCtorEq]
  exact hK _ (congrArg num ay)
 ·simp only [List.length_map,go_sem,reduceIte,zA,zB,zC,zD,zE,zF,reduceCtorEq]
  refine bL tt_ok [] [14] 1 [1,10,12,13] (fun vs => ((l.length : Int) - Go.Eng.intOf (vs.headD .undef)).toNat) (fun vs => ∃ i : Nat, vs = [num i] ∧ i ≤ l.length ∧ dS none l = dS (bP l i) (l.drop i)) (by omega) (by simp only [List.length_map,go_sem,reduceIte,zA,zB,zC,zD,zE,zF,reduceCtorEq]) (⟨0, rfl, Nat.zero_le _, rfl⟩) fun vs hI Z1 bW => ?_
  obtain ⟨i, rfl, hi, iq⟩ := hI
  simp only [List.length_map,go_sem,reduceIte,zA,zB,zC,zD,zE,zF,reduceCtorEq]
  refine aM (fun gR => ?_) (fun gR => ?_)
  ·have aD : i < l.length := by simpa using gR
   have hw := aB i (by omega)
   obtain ⟨x, hx⟩ : ∃ x, l[i]? = some x := ⟨_, List.getElem?_eq_getElem aD⟩
   simp only [hw,List.getElem?_map,hx,ag,af,ah,List.length_map,go_sem,reduceIte,zA,zB,zC,zD,zE,zF,reduceCtorEq]
   refine cF (by have h := Cp hG x (hb x (List.mem_of_getElem? hx)); simp only [ag,af,ah] at h; exact h) ?_
   rintro _ rfl
   simp only [hw,List.getElem?_map,hx,ag,af,ah,List.length_map,go_sem,reduceIte,zA,zB,zC,zD,zE,zF,reduceCtorEq]
   refine aM (fun Fo => ?_) (fun Fo => ?_)
   ·have ay : gH x = eH l := by unfold eH; rw [if_neg (by have := of_decide_eq_false cY; omega), iq, DN hx (by simpa using Fo)]
    simp only [hw,List.getElem?_map,hx,ag,af,ah,List.length_map,go_sem,reduceIte,zA,zB,zC,zD,zE,zF,reduceCtorEq]
    exact hK _ (congrArg num ay)
   ·simp only [hw,List.getElem?_map,hx,ag,af,ah,List.length_map,go_sem,reduceIte,zA,zB,zC,zD,zE,zF,reduceCtorEq]
    refine aM (fun gU => ?_) (fun gU => ?_)
    ·have wI : i = 0 := by have := of_decide_eq_true gU; omega
     have EU : ∀ p, bP l i = some p → p.key ≠ x.key ∧ ¬ 0 < p.cmp x := fun p hp => by rw [wI] at hp; cases hp
     simp only [hw,List.getElem?_map,hx,ag,af,ah,List.length_map,go_sem,reduceIte,zA,zB,zC,zD,zE,zF,reduceCtorEq]
     refine bW _ (dD (by omega) (by simp only [hw,List.getElem?_map,hx,ag,af,ah,List.length_map,go_sem,reduceIte,zA,zB,zC,zD,zE,zF,reduceCtorEq]) ?_ ?_) <;> simp only [gQ,lk,reduceIte,zE]
     ·exact ⟨i + 1, rfl, aD, by rw [iq]; exact mL hx (by simpa using Fo) EU⟩
     ·simp only [Go.Eng.intOf,List.headD_cons]; omega
    ·have wI : i ≠ 0 := by have := of_decide_eq_false gU; omega
     obtain ⟨p, hp⟩ : ∃ p, l[i - 1]? = some p := ⟨_, List.getElem?_eq_getElem (by omega)⟩
     have AO : bP l i = some p := by rw [qm wI, hp]
     have ew : IntKind.i64.wrap ((i : Int) - 1) = ((i - 1 : Nat) : Int) := jV _ _ (by omega) (by omega)
     have uy := fun a b => HR a b p.key x.key
     simp only [hw,List.getElem?_map,hx,ag,af,ah,ew,hp,uy,br,List.length_map,go_sem,reduceIte,zA,zB,zC,zD,zE,zF,reduceCtorEq]
     refine bI tt_ok aK [⟨.r, 0, [], [], []⟩, ⟨.n, 0, [], [], []⟩, ⟨.r, 0, [], [], []⟩, ⟨.n, 0, [], [], []⟩, ⟨.n, 0, [], [], []⟩] 0 (by kernel_rfl) ?_
     simp only [hw,List.getElem?_map,hx,ag,af,ah,ew,hp,uy,br,List.length_map,go_sem,reduceIte,zA,zB,zC,zD,zE,zF,reduceCtorEq]
     refine cG (by have h := kO p; simp only [ag,af,ah,br] at h; exact h) ?_
     rintro _ rfl
     simp only [hw,List.getElem?_map,hx,ag,af,ah,ew,hp,uy,br,List.length_map,go_sem,reduceIte,zA,zB,zC,zD,zE,zF,reduceCtorEq]
     refine cG (by have h := kO x; simp only [ag,af,ah,br] at h; exact h) ?_
     rintro _ rfl
     simp only [hw,List.getElem?_map,hx,ag,af,ah,ew,hp,uy,br,List.length_map,go_sem,reduceIte,zA,zB,zC,zD,zE,zF,reduceCtorEq]
     refine aM (fun ql => ?_) (fun ql => ?_)
     ·have ay : 5 = eH l := by unfold eH; rw [if_neg (by have := of_decide_eq_false cY; omega), iq, tF hx (by simpa using Fo) AO, if_pos (by simpa using ql)]
      simp only [hw,List.getElem?_map,hx,ag,af,ah,ew,hp,uy,br,List.length_map,go_sem,reduceIte,zA,zB,zC,zD,zE,zF,reduceCtorEq]
      exact hK _ (congrArg num ay)
     ·simp only [hw,List.getElem?_map,hx,ag,af,ah,ew,hp,uy,br,List.length_map,go_sem,reduceIte,zA,zB,zC,zD,zE,zF,reduceCtorEq]
      refine cF (by have h := Cn p x; simp only [ag,af,ah] at h; exact h) ?_
      rintro _ rfl
      simp only [hw,List.getElem?_map,hx,ag,af,ah,ew,hp,uy,br,List.length_map,go_sem,reduceIte,zA,zB,zC,zD,zE,zF,reduceCtorEq]
      refine aM (fun PT => ?_) (fun PT => ?_)
      ·have ay : 1 = eH l := by unfold eH; rw [if_neg (by have := of_decide_eq_false cY; omega), iq, tF hx (by simpa using Fo) AO, if_neg (by simpa using ql), if_pos (by simpa using PT)]
       simp only [hw,List.getElem?_map,hx,ag,af,ah,ew,hp,uy,br,List.length_map,go_sem,reduceIte,zA,zB,zC,zD,zE,zF,reduceCtorEq]
       exact hK _ (congrArg num ay)
      ·have EU : ∀ p, bP l i = some p → p.key ≠ x.key ∧ ¬ 0 < p.cmp x := fun q hq => by rw [AO] at hq; cases hq; exact ⟨by simpa using ql, by simpa using PT⟩
       simp only [hw,List.getElem?_map,hx,ag,af,ah,ew,hp,uy,br,List.length_map,go_sem,reduceIte,zA,zB,zC,zD,zE,zF,reduceCtorEq]
       refine bW _ (dD (by omega) (by simp only [hw,List.getElem?_map,hx,ag,af,ah,ew,hp,uy,br,List.length_map,go_sem,reduceIte,zA,zB,zC,zD,zE,zF,reduceCtorEq]) ?_ ?_) <;> simp only [gQ,lk,reduceIte,zE]
       ·exact ⟨i + 1, rfl, aD, by rw [iq]; exact mL hx (by simpa using Fo) EU⟩
       ·simp only [Go.Eng.intOf,List.headD_cons]; omega
  ·have c5 : ¬ i < l.length := by simpa using gR
   have ay : 0 = eH l := by unfold eH; rw [if_neg (by have := of_decide_eq_false cY; omega), iq, List.drop_eq_nil_of_le (by omega)]; rfl
   simp only [List.length_map,go_sem,reduceIte,zA,zB,zC,zD,zE,zF,reduceCtorEq]
   exact hK _ (congrArg num ay)
end Go.Proofs.YtnfeacnbgbggfaaGreatDoor
end

section
namespace Go.Proofs.YtnfeacnbgbggfaaGreatDoor
open Go.Eng
variable [aH]
theorem c3 : Tryz.prog.cellsOf 3 = 1 := by kernel_rfl
theorem c4 : Tryz.prog.cellsOf 4 = 1 := by kernel_rfl
theorem c9 : Tryz.prog.cellsOf 9 = 1 := by kernel_rfl
theorem c22 : Tryz.prog.cellsOf 22 = 1 := by kernel_rfl
theorem c23 : Tryz.prog.cellsOf 23 = 1 := by kernel_rfl
theorem c25 : Tryz.prog.cellsOf 25 = 2 := by kernel_rfl
theorem c26 : Tryz.prog.cellsOf 26 = 1 := by kernel_rfl
theorem Yy : Tryz.prog.cellsOf 38 = 3 := by kernel_rfl
theorem Yz : Tryz.prog.cellsOf 40 = 9 := by kernel_rfl
theorem c49 : Tryz.prog.cellsOf 49 = 1 := by kernel_rfl
theorem YA : Tryz.prog.cellsOf 51 = 2 := by kernel_rfl
theorem YB : Tryz.prog.cellsOf 78 = 2 := by kernel_rfl
theorem W7 : Tryz.prog.cellsOf 228 = 1 := by kernel_rfl
theorem W8 : Tryz.prog.cellsOf 229 = 1 := by kernel_rfl
theorem W9 : Tryz.prog.cellsOf 230 = 1 := by kernel_rfl
theorem Xa : Tryz.prog.cellsOf 231 = 1 := by kernel_rfl
theorem TA : Tryz.prog.cellsOf 233 = 5 := by kernel_rfl
section
variable {F : Addr → Option Value} {hg : Gl F} {H : Type} {enc : TypeId × Value → H} {w : World} {sp : Nat → Bool} {held : Bool} {f : Nat} {cs : List Value} {d : DataW H} {p : List MemPlace}
theorem mM {a : List V} {cs : List Value} {off n : Nat} (h1 : Rd F hg a ((cs.drop off).take n)) (h : cs.length = off + n) : Rd F hg a (cs.drop off) := by
 rwa [List.take_of_length_le (by simp; omega)] at h1
theorem tJ (h : DataW.trod enc Tryz.prog w 0 sp held f 3 cs = some (d, p)) : ∃ n : Int, Rd F hg [num n] cs ∧ 1 ≤ Rows.uptoBulk d := by
 cases f with
 | zero => simp [DataW.trod] at h
 | succ f => obtain ⟨n, rfl, rfl⟩ := trod_int Tryz.underlying3 h; exact ⟨n, BQ rfl, by simp [Rows.uptoBulk]⟩
theorem nX (h : DataW.trod enc Tryz.prog w 0 sp held f 9 cs = some (d, p)) : ∃ s : ByteArray, Rd F hg [str s] cs ∧ s.size + 1 ≤ Rows.uptoBulk d := by
 cases f with
 | zero => simp [DataW.trod] at h
 | succ f =>
  obtain ⟨n, rfl, rfl⟩ := trod_string Tryz.underlying9 h
  exact ⟨n, BQ rfl, by simp only [Rows.uptoBulk,Array.length_toList]; exact Nat.le_refl _⟩
theorem TB (h : DataW.trod enc Tryz.prog w 0 sp held f 4 cs = some (d, p)) : ∃ b : Bool, Rd F hg [bl b] cs := by
 cases f with
 | zero => simp [DataW.trod] at h
 | succ f => obtain ⟨n, rfl, -⟩ := trod_bool Tryz.underlying4 h; exact ⟨n, BQ rfl⟩
theorem DO {T T' : TypeId} {α : Type} {row : α → V} {g : α → Nat} {n : Nat} (hF : F = w.cell?) (hT : Tryz.prog.underlying T = some (.slice T')) (hn : Tryz.prog.cellsOf T' = n)
  (hr : ∀ f', f' < f → ∀ {cs : List Value} {d : DataW H} {p : List MemPlace}, DataW.trod enc Tryz.prog w 0 sp held f' T' cs = some (d, p) → ∃ a : α, Rd F hg (row a).cells cs ∧ g a ≤ Rows.uptoBulk d)
  (h : DataW.trod enc Tryz.prog w 0 sp held f T cs = some (d, p)) : ∃ l : List α, Rd F hg [.slice (l.map row)] cs ∧ dr g l + 1 ≤ Rows.uptoBulk d := by
 cases f with
 | zero => simp [DataW.trod] at h
 | succ f => exact HK hF hT hn (fun h => hr f (Nat.lt_succ_self f) h) h
theorem xn {T T' : TypeId} (hT : Tryz.prog.underlying T = some (.slice T')) (h : DataW.trod enc Tryz.prog w 0 sp held f T cs = some (d, p)) : Rd F hg [.undef] cs := by
 cases f with
 | zero => simp [DataW.trod] at h
 | succ f =>
  rcases trod_slice hT h with ⟨rfl, -⟩ | ⟨a, cap, elems, spare, rfl, -⟩
  ·exact ⟨.cons (.undef _ _) (.nil _), by simp [Value.oneCell']⟩
  ·exact ⟨.cons (.undef _ _) (.nil _), by simp [Value.oneCell']⟩
def PU (_ : bB) : Nat := 1
def H5 (q : Rq) : Nat := q.path.size + q.set.length + 1
def H6 (r : Rl) : Nat := r.path.size + r.ar.size + r.gq.size + r.ce.size + dr H5 r.reqs + 1
theorem Ln {α : Type} (l : List α) : dr (fun _ => 1) l = l.length := by induction l with | nil => rfl | cons a t ih => simp [dr, ih]; omega
theorem PV (h : DataW.trod enc Tryz.prog w 0 sp held f 78 cs = some (d, p)) : ∃ x : bB, Rd F hg (aj x).cells cs ∧ PU x ≤ Rows.uptoBulk d := by
 cases f with
 | zero => simp [DataW.trod] at h
 | succ f =>
  obtain ⟨hl, d0, p0, h0, d1, p1, h1, rfl⟩ := gp Tryz.underlying78 h
  simp only [c3] at h0 h1
  rw [YB] at hl
  obtain ⟨a, ha, b0⟩ := tJ (F := F) (hg := hg) h0
  obtain ⟨b, hb, b1⟩ := tJ (F := F) (hg := hg) h1
  refine ⟨⟨a, b⟩, ?_, ?_⟩
  ·exact dQ (a := [num a]) (off := 0) ha (mM (a := [num b]) hb hl)
  ·simp only [Rows.uptoBulk,Rows.uptoBulkAll,PU]; omega
theorem PW (hF : F = w.cell?) (h : DataW.trod enc Tryz.prog w 0 sp held f 49 cs = some (d, p)) : ∃ l : List bB, Rd F hg [.slice (l.map aj)] cs ∧ l.length + 1 ≤ Rows.uptoBulk d := by
 obtain ⟨l, h1, h2⟩ := DO (F := F) (hg := hg) (row := aj) (g := PU) hF Tryz.underlying49 YB (fun f' _ {cs d p} h => PV h) h
 exact ⟨l, h1, by rw [← Ln l]; exact h2⟩
theorem TC (hF : F = w.cell?) (h : DataW.trod enc Tryz.prog w 0 sp held f 51 cs = some (d, p)) : ∃ x : Rq, Rd F hg (ao x).cells cs ∧ H5 x ≤ Rows.uptoBulk d := by
 cases f with
 | zero => simp [DataW.trod] at h
 | succ f =>
  obtain ⟨hl, d0, p0, h0, d1, p1, h1, rfl⟩ := gp Tryz.underlying51 h
  simp only [c9,c49] at h0 h1
  rw [YA] at hl
  obtain ⟨a, ha, b0⟩ := nX (F := F) (hg := hg) h0
  obtain ⟨l, xl, b1⟩ := PW (F := F) (hg := hg) hF h1
  refine ⟨⟨a, l⟩, ?_, ?_⟩
  ·exact dQ (a := [str a]) (off := 0) ha (mM (a := [.slice (l.map aj)]) xl hl)
  ·simp only [Rows.uptoBulk,Rows.uptoBulkAll,H5]; omega
theorem PX (hF : F = w.cell?) (h : DataW.trod enc Tryz.prog w 0 sp held f 26 cs = some (d, p)) : ∃ l : List Rq, Rd F hg [.slice (l.map ao)] cs ∧ dr H5 l + 1 ≤ Rows.uptoBulk d :=
 DO (row := ao) (g := H5) hF Tryz.underlying26 YA (fun f' _ {cs d p} h => TC hF h) h
theorem H7 (h : DataW.trod enc Tryz.prog w 0 sp held f 38 cs = some (d, p)) : ∃ v : da, Rd F hg [num v.mj, num v.mn, num v.pt] cs := by
 cases f with
 | zero => simp [DataW.trod] at h
 | succ f =>
  obtain ⟨hl, d0, p0, h0, d1, p1, h1, d2, p2, h2, rfl⟩ := gp Tryz.underlying38 h
  simp only [c3] at h0 h1 h2
  rw [Yy] at hl
  obtain ⟨a, ha, -⟩ := tJ (F := F) (hg := hg) h0
  obtain ⟨b, hb, -⟩ := tJ (F := F) (hg := hg) h1
  obtain ⟨c, hc, -⟩ := tJ (F := F) (hg := hg) h2
  exact ⟨⟨a, b, c⟩, dQ (a := [num a]) (off := 0) ha (dQ (a := [num b]) hb (mM (a := [num c]) hc hl))⟩
theorem TD (hF : F = w.cell?) (h : DataW.trod enc Tryz.prog w 0 sp held f 40 cs = some (d, p)) : ∃ x : Rl, Rd F hg (ag x).cells cs ∧ H6 x ≤ Rows.uptoBulk d := by
 cases f with
 | zero => simp [DataW.trod] at h
 | succ f =>
  obtain ⟨hl, d0, p0, h0, d1, p1, h1, d2, p2, h2, d3, p3, h3, d4, p4, h4, d5, p5, h5, d6, p6, h6, rfl⟩ := gp Tryz.underlying40 h
  simp only [c9,Yy,c26,c4] at h0 h1 h2 h3 h4 h5 h6
  rw [Yz] at hl
  obtain ⟨x0, a0, b0⟩ := nX (F := F) (hg := hg) h0
  obtain ⟨x1, a1⟩ := H7 (F := F) (hg := hg) h1
  obtain ⟨x2, a2, b2⟩ := PX (F := F) (hg := hg) hF h2
  obtain ⟨x3, a3, b3⟩ := nX (F := F) (hg := hg) h3
  obtain ⟨x4, a4, b4⟩ := nX (F := F) (hg := hg) h4
  obtain ⟨x5, a5, b5⟩ := nX (F := F) (hg := hg) h5
  obtain ⟨x6, a6⟩ := TB (F := F) (hg := hg) h6
  refine ⟨⟨x0, x1, x2, x3, x4, x5, x6⟩, ?_, ?_⟩
  ·show Rd F hg ([str x0] ++ [num x1.mj, num x1.mn, num x1.pt] ++ [.slice (x2.map ao)] ++ [str x3] ++ [str x4] ++ [str x5] ++ [bl x6]) (cs.drop 0)
   simp only [List.append_assoc]
   exact dQ (a := [str x0]) (off := 0) a0 (dQ (a := [num x1.mj, num x1.mn, num x1.pt]) a1 (dQ (a := [.slice (x2.map ao)]) a2 (dQ (a := [str x3]) a3 (dQ (a := [str x4]) a4 (dQ (a := [str x5]) a5 (mM (a := [bl x6]) a6 hl))))))
  ·simp only [Rows.uptoBulk,Rows.uptoBulkAll,H6]; omega
theorem PY (hF : F = w.cell?) (h : DataW.trod enc Tryz.prog w 0 sp held f 22 cs = some (d, p)) : ∃ l : List Rl, Rd F hg [.slice (l.map ag)] cs ∧ dr H6 l + 1 ≤ Rows.uptoBulk d :=
 DO (row := ag) (g := H6) hF Tryz.underlying22 Yz (fun f' _ {cs d p} h => TD hF h) h
def xp (_ : Unit) : V := .agg [.undef, .undef, .undef, .undef, .undef]
theorem PZ (h : DataW.trod enc Tryz.prog w 0 sp held f 233 cs = some (d, p)) : ∃ x : Unit, Rd F hg (xp x).cells cs ∧ 0 ≤ Rows.uptoBulk d := by
 cases f with
 | zero => simp [DataW.trod] at h
 | succ f =>
  obtain ⟨hl, d0, p0, h0, d1, p1, h1, d2, p2, h2, d3, p3, h3, d4, p4, h4, rfl⟩ := gp Tryz.underlying233 h
  simp only [c9,W7,W8,W9,Xa] at h0 h1 h2 h3 h4
  rw [TA] at hl
  obtain ⟨x0, a0, -⟩ := nX (F := F) (hg := hg) h0
  have a0' : Rd F hg [.undef] ((cs.drop 0).take 1) := ⟨⟨a0.1.1, fun i v x hv hx => by
   match i with
   | 0 => simp at hv; subst hv; exact .undef _ _
   | i + 1 => simp at hv⟩, a0.2⟩
  refine ⟨(), ?_, Nat.zero_le _⟩
  exact dQ (a := [.undef]) (off := 0) a0' (dQ (a := [.undef]) (xn Tryz.underlying228 h1) (dQ (a := [.undef]) (xn Tryz.underlying229 h2) (dQ (a := [.undef]) (xn Tryz.underlying230 h3) (mM (a := [.undef]) (xn Tryz.underlying231 h4) hl))))
theorem TE (hF : F = w.cell?) (h : DataW.trod enc Tryz.prog w 0 sp held f 25 cs = some (d, p)) : ∃ (l : List Rl) (I : List V), Rd F hg [.slice (l.map ag), .slice I] cs ∧ dr H6 l + 1 ≤ Rows.uptoBulk d := by
 cases f with
 | zero => simp [DataW.trod] at h
 | succ f =>
  obtain ⟨hl, d0, p0, h0, d1, p1, h1, rfl⟩ := gp Tryz.underlying25 h
  simp only [c22,c23] at h0 h1
  rw [c25] at hl
  obtain ⟨l, xl, b0⟩ := PY (F := F) (hg := hg) hF h0
  obtain ⟨us, hu, -⟩ := DO (F := F) (hg := hg) (row := xp) (g := fun _ => 0) hF Tryz.underlying23 TA (fun f' _ {cs d p} h => PZ h) h1
  refine ⟨l, us.map xp, ?_, ?_⟩
  ·exact dQ (a := [.slice (l.map ag)]) (off := 0) xl (mM (a := [.slice (us.map xp)]) hu hl)
  ·simp only [Rows.uptoBulk,Rows.uptoBulkAll]; omega
theorem P0 {q : Rq} (h : H5 q ≤ 1048576) : xm q := by unfold H5 at h; exact ⟨by omega, by omega⟩
theorem TF {l : List Rq} (h : dr H5 l ≤ 1048576) : l.length ≤ 1048576 ∧ ∀ q ∈ l, xm q := by
 refine ⟨Nat.le_trans (nz H5 (fun q => by unfold H5; omega) l) h, fun q hq => ?_⟩
 obtain ⟨i, hi⟩ := List.mem_iff_getElem?.1 hq
 exact P0 (Nat.le_trans (vD H5 hi) h)
theorem P3 {r : Rl} (h : H6 r ≤ 1048576) : Cm r := by
 unfold H6 at h
 have := TF (l := r.reqs) (by omega)
 exact ⟨by omega, this.1, this.2⟩
theorem P4 {l : List Rl} (h : dr H6 l ≤ 1048576) : ux l := by
 refine ⟨Nat.le_trans (nz H6 (fun q => by unfold H6; omega) l) h, fun r hr => ?_⟩
 obtain ⟨i, hi⟩ := List.mem_iff_getElem?.1 hr
 exact P3 (Nat.le_trans (vD H6 hi) h)
end
end Go.Proofs.YtnfeacnbgbggfaaGreatDoor
end

section
namespace Go.Proofs.YtnfeacnbgbggfaaGreatDoor
open Go.Eng
open Nat renaming reduceAdd → zA, reduceLT → zB, reduceLeDiff → zC, reduceMul → zD, reduceEqDiff → zE, reduceSub → zF
variable [aH]
set_option maxHeartbeats 4000000
set_option maxRecDepth 100000
def Lo (b : UInt8) : V := .sc (.int .u8 (b.toNat : Int))
def bG (n : Nat) : V := .sc (.int .u64 (n : Int))
def bs (l : List UInt8) : ByteArray := ⟨l.toArray⟩
theorem pn (l : List UInt8) : (bs l).size = l.length := by simp [bs, ByteArray.size]
theorem ka (l : List UInt8) : bn (bs l) = l := by simp [bn, bs]
theorem Fp (s : ByteArray) : bs (bn s) = s := nU (ka _)
theorem Cq (a b : ByteArray) : bn (a ++ b) = bn a ++ bn b := by unfold bn; rw [ByteArray.data_append, Array.toList_append]
theorem H8 (a b : List UInt8) : bs a ++ bs b = bs (a ++ b) := nU (by rw [Cq, ka, ka, ka])
theorem Lp (t : ByteArray) : bs (uv t.size) ++ t = bs (eT t) := by
 have h : bs (uv t.size) ++ bs (bn t) = bs (eT t) := H8 _ _
 rwa [Fp] at h
theorem rm : ∀ l : List UInt8, ez (l.map Lo) = some (l.map fun b => (b.toNat : Int))
 | [] => rfl
 | b :: r => by
  show (match ez (r.map Lo) with | some l => some ((b.toNat : Int) :: l) | none => none) = _
  rw [rm r]; rfl
theorem po (l : List UInt8) : strOfNums (l.map fun b => (b.toNat : Int)) = bs l := by
 unfold strOfNums bs
 rw [List.map_map]
 congr 2
 conv => rhs; rw [← List.map_id l]
 exact List.map_congr_left fun b _ => by simp
theorem Lq {mem : List aw} {b v : Nat} (l : List UInt8) (h : mem[b]? = some (.rows v 1 (l.map Lo))) : kZ Tryz.prog mem 159 9 (.ms b v 0 l.length) = some (str (bs l)) := by
 have hs : Tryz.prog.underlying 159 = some (.slice 5) := by kernel_rfl
 have he : Tryz.prog.underlying 5 = some (.int .u8) := by kernel_rfl
 have hd : Tryz.prog.underlying 9 = some .string := by kernel_rfl
 have ht : ((l.map Lo).drop 0).take l.length = l.map Lo := List.take_of_length_le (by simp)
 simp only [kZ,h,true_and,List.length_map,Nat.zero_add,Nat.le_refl,if_true,ht,jz,hs,he,hd,rm,po]
theorem H9 : ∀ (k n : Nat), n < 2 ^ (7 * (k + 1)) → (uv n).length ≤ k + 1
 | 0, n, h => by rw [lU (by simpa using h)]; simp
 | k + 1, n, h => by
  by_cases hn : n < 128
  ·rw [lU hn]; simp
  ·rw [xj hn, List.length_cons]
   have hp : 2 ^ (7 * (k + 1 + 1)) = 2 ^ (7 * (k + 1)) * 128 := by rw [show (128 : Nat) = 2 ^ 7 from rfl, ← Nat.pow_add]; congr 1
   have := H9 k (n / 128) (Nat.div_lt_of_lt_mul (by rw [Nat.mul_comm, ← hp]; exact h))
   omega
theorem l4 {n : Nat} (h : n < 2 ^ 64) : (uv n).length ≤ 10 := H9 9 n (Nat.lt_of_lt_of_le h (Nat.pow_le_pow_right (by omega) (by omega)))
theorem P5 (n : Nat) : 0 < (uv n).length := by rw [uv]; split <;> simp
def tK (k : IntKind) (a b : Int) : Int := k.wrap (BitVec.ofInt k.bits a ||| BitVec.ofInt k.bits b).toNat
theorem eu (T : TypeId) (x y : Operand) (k : IntKind) (a b : Int) : aQ Tryz.prog (fC .or T x y) (.sc (.int k a)) (.sc (.int k b)) = some (.sc (.int k (tK k a b))) := by
 simp [aQ, bA, fC, binOp, eqGuard, aG, bind, pure, Sem.bind, Op.intBits, dx, tK]
theorem P6 (T : TypeId) (x y : Operand) (k k' : IntKind) (a b : Int) (hb : ¬ b < 0) : aQ Tryz.prog (fC .shl T x y) (.sc (.int k a)) (.sc (.int k' b)) = some (.sc (.int k (k.wrap (a * 2 ^ min b.toNat k.bits)))) := by
 simp [aQ, bA, fC, binOp, Op.shift, eqGuard, aG, dx, bind, pure, Sem.bind, hb]
theorem Fq : (List.range 256).all (fun a => tK .u8 (a : Int) 128 == ((a % 128 + 128 : Nat) : Int)) = true := by kernel_rfl
theorem TG (a : Nat) (h : a < 256) : tK .u8 (a : Int) 128 = ((a % 128 + 128 : Nat) : Int) := by
 have := List.all_eq_true.1 Fq a (by simpa using h)
 simpa using this
theorem Cr : (List.range 256).all (fun a => Hq .u8 (a : Int) 127 == ((a % 128 : Nat) : Int)) = true := by kernel_rfl
theorem P7 (a : Nat) (h : a < 256) : Hq .u8 (a : Int) 127 = ((a % 128 : Nat) : Int) := by
 have := List.all_eq_true.1 Cr a (by simpa using h)
 simpa using this
theorem Nt (n : Nat) : IntKind.u8.wrap (n : Int) = ((n % 256 : Nat) : Int) := by
 simp [IntKind.wrap, IntKind.signed, IntKind.bits]
theorem wrap64 (n : Nat) (h : n < 2 ^ 64) : IntKind.u64.wrap (n : Int) = (n : Int) := by
 simp [IntKind.wrap, IntKind.signed, IntKind.bits]
 omega
theorem u8_or (n : Nat) : tK .u8 (IntKind.u8.wrap (n : Int)) 128 = ((UInt8.ofNat (n % 128 + 128)).toNat : Int) := by
 rw [Nt, TG _ (Nat.mod_lt _ (by omega)), jt (by omega)]; omega
theorem TH (n : Nat) (h : n < 128) : IntKind.u8.wrap (n : Int) = ((UInt8.ofNat n).toNat : Int) := by
 rw [Nt, jt (by omega)]; omega
theorem Xb (n : Nat) : ((n : Int)).fdiv (2 ^ min (7 : Int).toNat IntKind.u64.bits) = ((n / 128 : Nat) : Int) := by
 show ((n : Int)).fdiv ((128 : Nat) : Int) = _
 rw [Int.fdiv_eq_ediv_of_nonneg _ (by omega)]; omega
theorem Lr (x y : Operand) (k' : IntKind) (n : Nat) : aQ Tryz.prog (fC .shr 136 x y) (.sc (.int .u64 (n : Int))) (.sc (.int k' 7)) = some (bG (n / 128)) := by
 rw [Hp Tryz.prog 136 x y .u64 k' n 7 (by omega), Xb]; rfl
theorem rn (n : Nat) (hn : n < 2 ^ 64) : aO Tryz.prog 93 [bG n] (str (bs (uv n))) := by
 refine Rf tt_ok [] 20 [.tmp 2] (fn := Tryz.f93) Tryz.func93 rfl Tryz.call93 ⟨rfl, rfl, by simp⟩ fun K hK => ?_
 have DH : Tryz.prog.underlying 5 = some (.int .u8) := by kernel_rfl
 have ig : Tryz.prog.underlying 136 = some (.int .u64) := by kernel_rfl
 have DI : Tryz.prog.underlying 3 = some (.int .i64) := by kernel_rfl
 have Ls := fun (k : IntKind) (n : Int) => ek (P := Tryz.prog) (src := 136) (dst := 5) ig DH k n
 have Lt := fun (k : IntKind) (n : Int) => ek (P := Tryz.prog) (src := 3) (dst := 136) DI ig k n
 have U2 := l4 hn
 simp only [bG,Ls,eu,bG,List.length_map,go_sem,reduceIte,zA,zB,zC,zD,zE,zF,reduceCtorEq]
 refine zh 3 0 1 (by decide) rfl ?_
 refine cO tt_ok [] (fun a : List UInt8 × Nat => [(0, bG a.2), (3, .ms 0 a.1.length 0 a.1.length)]) (fun a : List UInt8 × Nat => [.rows a.1.length 1 (a.1.map Lo)]) (fun a => a.2) (fun a => a.1 ++ uv a.2 = uv n ∧ a.2 < 2 ^ 64) (([], n)) 1 (bm (by omega) (by simp only [bG,Ls,eu,bG,List.length_map,List.map_nil,List.length_nil,bG,Int.cast_ofNat_Int,go_sem,reduceIte,zA,zB,zC,zD,zE,zF,reduceCtorEq] <;> rfl)) (⟨rfl, hn⟩) ?_
 rintro ⟨p, m⟩ ⟨hp, hm⟩
 try dsimp only at hp hm
 try dsimp only [bG]
 have DP : p.length + (uv m).length ≤ 10 := by have := congrArg List.length hp; rw [List.length_append] at this; omega
 have er : p.length + 1 ≤ 34359738368 := by omega
 intro Z1 bW
 simp only [bG,Ls,eu,bG,List.length_map,go_sem,reduceIte,zA,zB,zC,zD,zE,zF,reduceCtorEq]
 refine aM (fun Ro => ?_) (fun Ro => ?_)
 ·have RL : ¬ m < 128 := by have := of_decide_eq_true Ro; omega
  have Dh := u8_or m
  have hsh := fun x y k => Lr x y k m
  have fT : ∀ x : Int, bY [V.sc (.int .u8 x)] 0 1 = true := fun x => rfl
  simp only [bG,Dh,hsh,fT,er,List.length_cons,List.length_nil,Nat.zero_add,Ls,eu,bG,List.length_map,go_sem,reduceIte,zA,zB,zC,zD,zE,zF,reduceCtorEq]
  refine bW _ ⟨(p ++ [UInt8.ofNat (m % 128 + 128)], m / 128), ?_, ?_, bm (by omega) (by (simp [lg, lk, bo, bF, ai, az, List.map_append, Lo, bG]))⟩
  ·refine ⟨?_, by dsimp only; omega⟩
   rw [← hp, xj RL, List.append_assoc]; rfl
  ·dsimp only; omega
 ·have P8 : m < 128 := by have := of_decide_eq_false Ro; omega
  have kX := TH m P8
  have fT : ∀ x : Int, bY [V.sc (.int .u8 x)] 0 1 = true := fun x => rfl
  have oq : p ++ [UInt8.ofNat m] = uv n := by rw [← hp, lU P8]
  have JS : ∀ mem : List aw, mem[0]? = some (.rows (p.length + 1) 1 (p.map Lo ++ [V.sc (.int .u8 ((UInt8.ofNat m).toNat : Int))])) → kZ Tryz.prog mem 159 9 (.ms 0 (p.length + 1) 0 (p.length + 1)) = some (str (bs (uv n))) := fun mem hm => by
   have h := Lq (b := 0) (v := p.length + 1) (p ++ [UInt8.ofNat m]) (mem := mem) (by rw [hm]; simp [Lo])
   rw [oq] at h
   rw [← h, ← oq, List.length_append]; rfl
  simp only [bG,kX,fT,er,JS,List.length_append,List.length_cons,List.length_nil,Nat.zero_add,Ls,eu,bG,List.length_map,go_sem,reduceIte,zA,zB,zC,zD,zE,zF,reduceCtorEq]
  exact hK _ rfl
theorem Lu (s : ByteArray) (hs : s.size ≤ 1048576) : ∃ r_, (fun w => w = str (bs (eT s))) r_ ∧ aO Tryz.prog 58 [str s] r_ := by
 refine ef tt_ok [] 9 [.tmp 2] (fn := Tryz.f58) Tryz.func58 rfl Tryz.call58 ⟨rfl, rfl, by simp⟩ fun K hK => ?_
 have fu : Tryz.prog.underlying 9 = some .string := by kernel_rfl
 have sl : ∀ (a : ByteArray) (ty : TypeId), cH Tryz.prog (Builtin.len_ #[9] ty) [.sc (.string a)] = some (num a.size) := fun a ty => ck (P := Tryz.prog) (tt := tt) (T := 9) a fu ty
 have DH : Tryz.prog.underlying 5 = some (.int .u8) := by kernel_rfl
 have ig : Tryz.prog.underlying 136 = some (.int .u64) := by kernel_rfl
 have DI : Tryz.prog.underlying 3 = some (.int .i64) := by kernel_rfl
 have Ls := fun (k : IntKind) (n : Int) => ek (P := Tryz.prog) (src := 136) (dst := 5) ig DH k n
 have Lt := fun (k : IntKind) (n : Int) => ek (P := Tryz.prog) (src := 3) (dst := 136) DI ig k n
 have hw := wrap64 s.size (by omega)
 have DQ := fun x y => oM Tryz.prog 9 x y (bs (uv s.size)) s (by have := l4 (n := s.size) (by omega); rw [pn, show IntKind.i64.max = 9223372036854775807 from rfl]; omega)
 have Nu := Lp s
 simp only [sl,Lt,hw,DQ,Nu,go_sem,reduceIte,zA,zB,zC,zD,zE,zF,reduceCtorEq]
 refine cF (⟨_, rfl, rn s.size (by omega)⟩) ?_
 rintro _ rfl
 simp only [sl,Lt,hw,DQ,Nu,go_sem,reduceIte,zA,zB,zC,zD,zE,zF,reduceCtorEq]
 exact hK _ rfl
theorem Lv (n : Nat) (hn : n < 2 ^ 63) : ∃ r_, (fun w => w = .bN [str (bs (uv n)), num 0]) r_ ∧ aO Tryz.prog 56 [num n] r_ := by
 refine ef tt_ok [] 9 [.tmp 2, .tmp 3] (fn := Tryz.f56) Tryz.func56 rfl Tryz.call56 ⟨rfl, rfl, by simp⟩ fun K hK => ?_
 have DH : Tryz.prog.underlying 5 = some (.int .u8) := by kernel_rfl
 have ig : Tryz.prog.underlying 136 = some (.int .u64) := by kernel_rfl
 have DI : Tryz.prog.underlying 3 = some (.int .i64) := by kernel_rfl
 have Ls := fun (k : IntKind) (n : Int) => ek (P := Tryz.prog) (src := 136) (dst := 5) ig DH k n
 have Lt := fun (k : IntKind) (n : Int) => ek (P := Tryz.prog) (src := 3) (dst := 136) DI ig k n
 have hw := wrap64 n (by omega)
 simp only [Lt,hw,go_sem,reduceIte,zA,zB,zC,zD,zE,zF,reduceCtorEq]
 refine aM (fun Ro => ?_) (fun Ro => ?_)
 ·exact absurd (of_decide_eq_true Ro) (by omega)
 ·simp only [Lt,hw,go_sem,reduceIte,zA,zB,zC,zD,zE,zF,reduceCtorEq]
  refine cF (⟨_, rfl, rn n (by omega)⟩) ?_
  rintro _ rfl
  simp only [Lt,hw,go_sem,reduceIte,zA,zB,zC,zD,zE,zF,reduceCtorEq]
  exact hK _ rfl
end Go.Proofs.YtnfeacnbgbggfaaGreatDoor
end

section
namespace Go.Proofs.YtnfeacnbgbggfaaGreatDoor
open Go.Eng
open Nat renaming reduceAdd → zA, reduceLT → zB, reduceLeDiff → zC, reduceMul → zD, reduceEqDiff → zE, reduceSub → zF
variable [aH]
set_option maxHeartbeats 4000000
set_option maxRecDepth 100000
theorem DR (A B : List UInt8) (h : A.length + B.length ≤ 4611686018427387904) (x y : Operand) : aQ Tryz.prog (fC .add 9 x y) (str (bs A)) (str (bs B)) = some (str (bs (A ++ B))) := by
 rw [← H8]
 exact oM Tryz.prog 9 x y (bs A) (bs B) (by rw [pn, pn, show IntKind.i64.max = 9223372036854775807 from rfl]; omega)
def nc (n : Int) : List UInt8 := uv n.toNat
theorem Ia (n : Int) (h0 : 0 ≤ n) (h : n < 9223372036854775808) : ∃ r_, (fun w => w = .bN [str (bs (nc n)), num 0]) r_ ∧ aO Tryz.prog 56 [num n] r_ := by
 obtain ⟨k, rfl⟩ : ∃ k : Nat, n = k := ⟨n.toNat, by omega⟩
 exact Lv k (by omega)
theorem dw {n : Int} (h0 : 0 ≤ n) (h : n < 9223372036854775808) : (nc n).length ≤ 10 := l4 (by omega)
theorem kP (t : ByteArray) (h : t.size ≤ 1048576) : (eT t).length ≤ 1048586 := by
 unfold eT; rw [List.length_append, eZ]
 have := l4 (n := t.size) (by omega)
 omega
theorem fL {α β : Type} {g : α → List β} {k : Nat} : ∀ {l : List α}, (∀ x ∈ l, (g x).length ≤ k) → (l.flatMap g).length ≤ k * l.length
 | [], _ => by simp
 | a :: t, h => by
  have h1 := h a (by simp)
  have h2 := fL (l := t) (g := g) (k := k) fun x hx => h x (by simp [hx])
  rw [List.flatMap_cons, List.length_append, List.length_cons, Nat.mul_succ]; omega
theorem mN {α β : Type} (g : α → List β) {l : List α} {i : Nat} {x : α} (h : l[i]? = some x) : (l.take (i + 1)).flatMap g = (l.take i).flatMap g ++ g x := by
 rw [List.take_add_one, h, List.flatMap_append]; simp
theorem zU {α : Type} {l : List α} {p : α → Prop} (h : ∀ x ∈ l, p x) (i : Nat) : ∀ x ∈ l.take i, p x := fun x hx => h x (List.mem_of_mem_take hx)
theorem vK {P : Program} {f : FuncId} {vs : List V} {r : V} {B0 B1 rK : aw} (h : aR P f vs [B0, B1] r [rK, B1]) (M : List aw) (k k2 : Nat) (hv : vs.all (ai 2) = true) (hm : [B0, B1].all (az 2) = true) (hr : ai 2 r = true) (G4 : [rK, B1].all (az 2) = true)
  (h1 : ∀ σ, cq σ B0 = B0) (h2 : ∀ σ, cq σ B1 = B1) (Gg : ∀ σ, cq σ rK = rK) (hk : M[k]? = some B0) (kD : M[k2]? = some B1) (bH : k ≠ k2) :
  aR P f (ca (fun j => if j = 0 then k else if j = 1 then k2 else M.length + (j - 2)) vs) M (bt (fun j => if j = 0 then k else if j = 1 then k2 else M.length + (j - 2)) r) (M.set k rK) := by
 have h3 := h.zf M (fun j => if j = 0 then k else if j = 1 then k2 else M.length + (j - 2)) 2 rfl hv hm hr G4 (by simp) (fun i B hi => by
  match i with
  | 0 => simp at hi; subst hi; rw [h1]; simpa using hk
  | 1 => simp at hi; subst hi; rw [h2]; simpa using kD
  | i + 2 => simp at hi) (fun i j hi hj he => by
  match i, j with
  | 0, 0 => rfl
  | 1, 1 => rfl
  | 0, 1 => exact absurd (by simpa using he) bH
  | 1, 0 => exact absurd (by simpa using he.symm) bH
  | i + 2, _ => omega
  | _, j + 2 => omega) (fun j hj => by rw [if_neg (by omega), if_neg (by omega)])
 have hM : mZ (fun j => if j = 0 then k else if j = 1 then k2 else M.length + (j - 2)) 2 [rK, B1] M = M.set k rK := by
  unfold mZ
  simp only [vC,List.map_nil,List.append_nil,gj]
  show (M.set k (cq _ rK)).set k2 (cq _ B1) = _
  rw [Gg, h2]
  exact eY (by rw [List.getElem?_set_ne bH]; exact kD)
 rwa [hM] at h3
theorem Ib (O : List UInt8) (l : List ByteArray) (hl : l.length ≤ 1048576) (hO : O.length ≤ 1152921504606846976) (hx : ∀ x ∈ l, x.size ≤ 1048576) : ∃ r_ m_, (fun r m => r = .bN [] ∧ m = [.box [str (bs (O ++ l.flatMap eT))], .rows 0 1 (l.map str)]) r_ m_ ∧ aR Tryz.prog 57 [.ms 1 0 0 l.length, .ptr 0 0] ([.box [str (bs O)], .rows 0 1 (l.map str)]) r_ m_ := by
 refine Ge tt_ok [] 16 [] (2) (by simp) (fn := Tryz.f57) Tryz.func57 rfl Tryz.call57 ⟨rfl, rfl, by simp⟩ fun K hK => ?_
 have hlx := fL (g := eT) (l := l) (k := 1048586) fun x h => kP x (hx x h)
 simp only [List.length_map,go_sem,reduceIte,zA,zB,zC,zD,zE,zF,reduceCtorEq]
 refine cO tt_ok [] (fun i : Nat => [(1, .ptr 0 0), (5, .ms 1 0 0 l.length), (6, num l.length), (7, num i)]) (fun i : Nat => [.box [str (bs (O ++ (l.take i).flatMap eT))], .rows 0 1 (l.map str)]) (fun i => l.length - i) (fun i => i ≤ l.length) (0) 2 (bm (by omega) (by simp only [List.length_map,List.take_zero,List.flatMap_nil,List.append_nil,Int.cast_ofNat_Int,go_sem,reduceIte,zA,zB,zC,zD,zE,zF,reduceCtorEq] <;> rfl)) (Nat.zero_le _) ?_
 intro i hi
 intro Z1 bW
 simp only [List.length_map,go_sem,reduceIte,zA,zB,zC,zD,zE,zF,reduceCtorEq]
 refine aM (fun Nl => ?_) (fun Nl => ?_)
 ·have aD : i < l.length := by simpa using Nl
  have hw := aB i (by omega)
  rw [Nl]
  obtain ⟨x, Fs⟩ : ∃ x, l[i]? = some x := ⟨_, List.getElem?_eq_getElem aD⟩
  have cT : (i : Int) < (l.length : Int) := by omega
  have TI := mN eT Fs
  have JT := hx x (List.mem_of_getElem? Fs)
  have Ft := fL (g := eT) (l := l.take i) (k := 1048586) fun x h => (by have hx := zU hx i; exact kP x (hx x h))
  have hgx : (eT x).length ≤ 1048586 := (by have hx : ∀ y ∈ [x], y.size ≤ 1048576 := (fun y hy => by rw [List.mem_singleton] at hy; exact hy ▸ JT); have h : x ∈ [x] := (by simp); exact kP x (hx x h))
  rw [List.length_take] at Ft
  have DQ := DR (O ++ (l.take i).flatMap eT) (eT x) (by rw [List.length_append]; omega)
  simp only [hw,List.getElem?_map,Fs,cT,DQ,Option.map_some,Int.natCast_nonneg,List.length_map,go_sem,reduceIte,zA,zB,zC,zD,zE,zF,reduceCtorEq]
  refine bI tt_ok aK [⟨.r, 0, [], [], []⟩, ⟨.n, 0, [], [], []⟩, ⟨.n, 0, [], [], []⟩, ⟨.n, 0, [], [], []⟩, ⟨.w, 0, [], [], []⟩] 1 (by kernel_rfl) ?_
  simp only [hw,List.getElem?_map,Fs,cT,DQ,Option.map_some,Int.natCast_nonneg,List.length_map,go_sem,reduceIte,zA,zB,zC,zD,zE,zF,reduceCtorEq]
  refine cG (Lu x JT) ?_
  rintro _ rfl
  simp only [hw,List.getElem?_map,Fs,cT,DQ,Option.map_some,Int.natCast_nonneg,List.length_map,go_sem,reduceIte,zA,zB,zC,zD,zE,zF,reduceCtorEq]
  refine bW _ ⟨i + 1, ?_, ?_, bm (by omega) (by (simp only [TI,hw,List.append_assoc,go_sem,reduceIte,zA,zB,zC,zD,zE,zF,reduceCtorEq]))⟩
  ·exact aD
  ·omega
 ·have c5 : ¬ i < l.length := by simpa using Nl
  have rD : i = l.length := by omega
  subst rD
  rw [List.take_length]
  simp only [List.length_map,go_sem,reduceIte,zA,zB,zC,zD,zE,zF,reduceCtorEq]
  exact hK _ _ ⟨rfl, rfl⟩
theorem Lw (O : List UInt8) (l : List Int) (hl : l.length ≤ 1048576) (hO : O.length ≤ 1152921504606846976) (hx : ∀ x ∈ l, 0 ≤ x ∧ x < 9223372036854775808) : ∃ r_ m_, (fun r m => r = .bN [] ∧ m = [.box [str (bs (O ++ l.flatMap nc))], .rows 0 1 (l.map num)]) r_ m_ ∧ aR Tryz.prog 55 [.ms 1 0 0 l.length, .ptr 0 0] ([.box [str (bs O)], .rows 0 1 (l.map num)]) r_ m_ := by
 refine Ge tt_ok [] 22 [] (2) (by simp) (fn := Tryz.f55) Tryz.func55 rfl Tryz.call55 ⟨rfl, rfl, by simp⟩ fun K hK => ?_
 have hlx := fL (g := nc) (l := l) (k := 10) fun x h => dw (hx x h).1 (hx x h).2
 simp only [List.length_map,go_sem,reduceIte,zA,zB,zC,zD,zE,zF,reduceCtorEq]
 refine cO tt_ok [] (fun i : Nat => [(1, .ptr 0 0), (7, .ms 1 0 0 l.length), (8, num l.length), (9, num i)]) (fun i : Nat => [.box [str (bs (O ++ (l.take i).flatMap nc))], .rows 0 1 (l.map num)]) (fun i => l.length - i) (fun i => i ≤ l.length) (0) 2 (bm (by omega) (by simp only [List.length_map,List.take_zero,List.flatMap_nil,List.append_nil,Int.cast_ofNat_Int,go_sem,reduceIte,zA,zB,zC,zD,zE,zF,reduceCtorEq] <;> rfl)) (Nat.zero_le _) ?_
 intro i hi
 intro Z1 bW
 simp only [List.length_map,go_sem,reduceIte,zA,zB,zC,zD,zE,zF,reduceCtorEq]
 refine aM (fun cY => ?_) (fun cY => ?_)
 ·have aD : i < l.length := by simpa using cY
  have hw := aB i (by omega)
  rw [cY]
  obtain ⟨x, Fs⟩ : ∃ x, l[i]? = some x := ⟨_, List.getElem?_eq_getElem aD⟩
  have cT : (i : Int) < (l.length : Int) := by omega
  have TI := mN nc Fs
  have JT := hx x (List.mem_of_getElem? Fs)
  have Ft := fL (g := nc) (l := l.take i) (k := 10) fun x h => (by have hx := zU hx i; exact dw (hx x h).1 (hx x h).2)
  have hgx : (nc x).length ≤ 10 := (by have hx : ∀ y ∈ [x], 0 ≤ y ∧ y < 9223372036854775808 := (fun y hy => by rw [List.mem_singleton] at hy; exact hy ▸ JT); have h : x ∈ [x] := (by simp); exact dw (hx x h).1 (hx x h).2)
  rw [List.length_take] at Ft
  have DQ := DR (O ++ (l.take i).flatMap nc) (nc x) (by rw [List.length_append]; omega)
  simp only [hw,List.getElem?_map,Fs,cT,DQ,Option.map_some,Int.natCast_nonneg,List.length_map,go_sem,reduceIte,zA,zB,zC,zD,zE,zF,reduceCtorEq]
  refine cF (Ia x JT.1 JT.2) ?_
  rintro _ rfl
  simp only [hw,List.getElem?_map,Fs,cT,DQ,Option.map_some,Int.natCast_nonneg,List.length_map,go_sem,reduceIte,zA,zB,zC,zD,zE,zF,reduceCtorEq]
  refine bW _ ⟨i + 1, ?_, ?_, bm (by omega) (by (simp only [TI,hw,List.append_assoc,go_sem,reduceIte,zA,zB,zC,zD,zE,zF,reduceCtorEq]))⟩
  ·exact aD
  ·omega
 ·have c5 : ¬ i < l.length := by simpa using cY
  have rD : i = l.length := by omega
  subst rD
  rw [List.take_length]
  simp only [List.length_map,go_sem,reduceIte,zA,zB,zC,zD,zE,zF,reduceCtorEq]
  exact hK _ _ ⟨rfl, rfl⟩
theorem tL (O : List UInt8) (l : List ByteArray) (hl : l.length ≤ 1048576) (hO : O.length ≤ 1152921504606846976) (hx : ∀ x ∈ l, x.size ≤ 1048576) (M : List aw) (k k2 : Nat) (hk : M[k]? = some (.box [str (bs O)])) (kD : M[k2]? = some (.rows 0 1 (l.map str))) (bH : k ≠ k2) :
  ∃ r_ m_, (fun r m => r = .bN [] ∧ m = M.set k (.box [str (bs (O ++ l.flatMap eT))])) r_ m_ ∧ aR Tryz.prog 57 [.ms k2 0 0 l.length, .ptr k 0] M r_ m_ := by
 obtain ⟨r, m, ⟨rfl, rfl⟩, h⟩ := Ib O l hl hO hx
 have h3 := vK h M k k2 (by simp [ai]) (by simp [az, ai]) rfl (by simp [az, ai]) (fun σ => by simp [cq, ca, bt]) (fun σ => by simp [cq, ca, bt]) (fun σ => by simp [cq, ca, bt]) hk kD bH
 exact ⟨_, _, ⟨rfl, rfl⟩, by simpa [ca, bt] using h3⟩
theorem sb (O : List UInt8) (l : List Int) (hl : l.length ≤ 1048576) (hO : O.length ≤ 1152921504606846976) (hx : ∀ x ∈ l, 0 ≤ x ∧ x < 9223372036854775808) (M : List aw) (k k2 : Nat) (hk : M[k]? = some (.box [str (bs O)])) (kD : M[k2]? = some (.rows 0 1 (l.map num))) (bH : k ≠ k2) :
  ∃ r_ m_, (fun r m => r = .bN [] ∧ m = M.set k (.box [str (bs (O ++ l.flatMap nc))])) r_ m_ ∧ aR Tryz.prog 55 [.ms k2 0 0 l.length, .ptr k 0] M r_ m_ := by
 obtain ⟨r, m, ⟨rfl, rfl⟩, h⟩ := Lw O l hl hO hx
 have h3 := vK h M k k2 (by simp [ai]) (by simp [az, ai]) rfl (by simp [az, ai]) (fun σ => by simp [cq, ca, bt]) (fun σ => by simp [cq, ca, bt]) (fun σ => by simp [cq, ca, bt]) hk kD bH
 exact ⟨_, _, ⟨rfl, rfl⟩, by simpa [ca, bt] using h3⟩
end Go.Proofs.YtnfeacnbgbggfaaGreatDoor
end

section
namespace Go.Proofs.YtnfeacnbgbggfaaGreatDoor
open Go.Eng
open Nat renaming reduceAdd → zA, reduceLT → zB, reduceLeDiff → zC, reduceMul → zD, reduceEqDiff → zE, reduceSub → zF
variable [aH]
set_option maxHeartbeats 4000000
set_option maxRecDepth 100000
theorem iw {P : Program} {f : FuncId} {vs : List V} {r : V} {B0 rK : aw} (h : aR P f vs [B0] r [rK]) (M : List aw) (k : Nat) (hv : vs.all (ai 1) = true) (hm : [B0].all (az 1) = true) (hr : ai 1 r = true) (G4 : [rK].all (az 1) = true)
  (h1 : ∀ σ, cq σ B0 = B0) (Gg : ∀ σ, cq σ rK = rK) (hk : M[k]? = some B0) :
  aR P f (ca (fun j => if j = 0 then k else M.length + (j - 1)) vs) M (bt (fun j => if j = 0 then k else M.length + (j - 1)) r) (M.set k rK) := by
 have h3 := h.zf M (fun j => if j = 0 then k else M.length + (j - 1)) 1 rfl hv hm hr G4 (by simp) (fun i B hi => by
  match i with
  | 0 => simp at hi; subst hi; rw [h1]; simpa using hk
  | i + 1 => simp at hi) (fun i j hi hj he => by omega) (fun j hj => by rw [if_neg (by omega)])
 have hM : mZ (fun j => if j = 0 then k else M.length + (j - 1)) 1 [rK] M = M.set k rK := by
  unfold mZ
  simp only [vC,List.map_nil,List.append_nil,gj]
  show M.set k (cq _ rK) = _
  rw [Gg]
 rwa [hM] at h3
theorem vL (m c i : Nat) (hm : m < 2 ^ i) (hs : m + c * 2 ^ i < 2 ^ 64) : tK .u64 (m : Int) ((c * 2 ^ i : Nat) : Int) = ((m + c * 2 ^ i : Nat) : Int) := by
 unfold tK
 have e : (BitVec.ofInt IntKind.u64.bits (m : Int) ||| BitVec.ofInt IntKind.u64.bits ((c * 2 ^ i : Nat) : Int)).toNat = m + c * 2 ^ i := by
  show (BitVec.ofInt 64 (m : Int) ||| BitVec.ofInt 64 ((c * 2 ^ i : Nat) : Int)).toNat = _
  rw [BitVec.ofInt_natCast, BitVec.ofInt_natCast, BitVec.toNat_or, BitVec.toNat_ofNat, BitVec.toNat_ofNat, Nat.mod_eq_of_lt (by omega), Nat.mod_eq_of_lt (by omega)]
  have := Nat.two_pow_add_eq_or_of_lt hm c
  rw [Nat.or_comm, Nat.mul_comm c, ← this, Nat.add_comm]
 rw [e]
 exact wrap64 _ hs
theorem Xc (c i : Nat) (h : c * 2 ^ (7 * i) < 2 ^ 64) (hi : i ≤ 9) : IntKind.u64.wrap ((c : Int) * 2 ^ min ((7 * i : Nat) : Int).toNat IntKind.u64.bits) = ((c * 2 ^ (7 * i) : Nat) : Int) := by
 have e : min ((7 * i : Nat) : Int).toNat IntKind.u64.bits = 7 * i := by
  show min ((7 * i : Nat) : Int).toNat 64 = 7 * i
  omega
 rw [e]
 have : (c : Int) * 2 ^ (7 * i) = ((c * 2 ^ (7 * i) : Nat) : Int) := by push_cast; rfl
 rw [this]
 exact wrap64 _ h
theorem DS (x y : Operand) (c i : Nat) (h : c * 2 ^ (7 * i) < 2 ^ 64) (hi : i ≤ 9) : aQ Tryz.prog (fC .shl 136 x y) (.sc (.int .u64 (c : Int))) (num ((7 * i : Nat) : Int)) = some (bG (c * 2 ^ (7 * i))) := by
 rw [show num ((7 * i : Nat) : Int) = V.sc (.int .i64 ((7 * i : Nat) : Int)) from rfl, P6 136 x y .u64 .i64 _ _ (by omega), Xc c i h hi]; rfl
theorem Ic {s : ByteArray} {a : Nat} {c : UInt8} (h : s[a]? = some c) : from_ s a = c :: from_ s (a + 1) := by
 have h1 := jX h
 unfold from_
 obtain ⟨h2, h3⟩ := List.getElem?_eq_some_iff.1 h1
 rw [List.drop_eq_getElem_cons h2, h3]
theorem Ie {s : ByteArray} {a : Nat} (h : s.size ≤ a) : from_ s a = [] := List.drop_eq_nil_of_le (by rw [Array.length_toList]; exact h)
theorem Fu (i : Nat) : 2 ^ (7 * (i + 1)) = 128 * 2 ^ (7 * i) := by rw [show (128 : Nat) = 2 ^ 7 from rfl, ← Nat.pow_add]; congr 1; omega
def Fv (s : ByteArray) (a : Nat) (r : V) : Prop := ∃ (n j : Nat) (ok : Bool), r = .bN [bG n, num j, bl ok] ∧ n < 2 ^ 64 ∧ j ≤ s.size ∧ (ok = (dJ (from_ s a) 0 0).isSome) ∧ ∀ n' k, dJ (from_ s a) 0 0 = some (n', k) → n = n' ∧ j = a + k
theorem Fv.no {s : ByteArray} {a : Nat} (h : dJ (from_ s a) 0 0 = none) : Fv s a (.bN [bG 0, num (0 : Nat), bl false]) := ⟨0, 0, false, rfl, by decide, Nat.zero_le _, by rw [h]; rfl, fun _ _ h' => by rw [h] at h'; cases h'⟩
theorem Nv {i m c : Nat} (hi : i ≤ 9) (hm : m < 2 ^ (7 * i)) (hc : c < 128) (h9 : i = 9 → c ≤ 1) : m + c * 2 ^ (7 * i) < 2 ^ 64 ∧ (i + 1 ≤ 9 → m + c * 2 ^ (7 * i) < 2 ^ (7 * (i + 1))) ∧ c * 2 ^ (7 * i) < 2 ^ 64 := by
 by_cases h : i = 9
 ·subst h
  have := h9 rfl
  refine ⟨?_, by omega, ?_⟩ <;> omega
 ·have h1 : c * 2 ^ (7 * i) ≤ 127 * 2 ^ (7 * i) := Nat.mul_le_mul_right _ (by omega)
  have h2 := Fu i
  have h3 : 2 ^ (7 * (i + 1)) ≤ 2 ^ 63 := Nat.pow_le_pow_right (by omega) (by omega)
  refine ⟨?_, fun _ => ?_, ?_⟩ <;> omega
theorem Fv.yes {s : ByteArray} {a i m : Nat} {c : UInt8} {ok : Bool} (jI : dJ (from_ s a) 0 0 = if i = 0 ∨ 0 < c.toNat then some (m + c.toNat * 2 ^ (7 * i), i + 1) else none) (hc : c.toNat < 128) (h64 : m + c.toNat % 128 * 2 ^ (7 * i) < 2 ^ 64) (hj : a + i + 1 ≤ s.size) (bK : ok = decide (i = 0 ∨ 0 < c.toNat)) :
  Fv s a (.bN [bG (m + c.toNat % 128 * 2 ^ (7 * i)), num (a + i + 1 : Nat), bl ok]) := by
 refine ⟨_, _, _, rfl, h64, hj, ?_, fun n' k h => ?_⟩
 ·rw [jI, bK]; split <;> simp_all
 ·rw [jI] at h
  split at h
  ·simp only [Option.some.injEq,Prod.mk.injEq] at h
   rw [Nat.mod_eq_of_lt hc]
   exact ⟨h.1, by rw [← h.2, Nat.add_assoc]⟩
  ·cases h
def Rp (s : ByteArray) (a : Nat) (r : V) : Prop := ∃ (n : Int) (j : Nat) (ok : Bool), r = .bN [num n, num j, bl ok] ∧ j ≤ s.size ∧ (ok = (pc s a).isSome) ∧ ∀ n' k, pc s a = some (n', k) → n = n' ∧ j = k
def Nw (s : ByteArray) (a : Nat) : V := match BT s a with | some (t, j) => .bN [str t, num j, bl true] | none => .bN [str ⟨#[]⟩, num 0, bl false]
theorem Lx (s : ByteArray) (hs : s.size ≤ 1073741824) (a a0 : Nat) (e : Int) (ha : a ≤ s.size) : ∃ r_, Fv s a r_ ∧ aR Tryz.prog 131 [.ptr 0 0, num a] ([.box [str s, num a0, num e]]) r_ ([.box [str s, num a0, num e]]) := by
 refine Gf tt_ok [] 54 [.tmp 4, .tmp 5, .tmp 6] (fn := Tryz.f131) Tryz.func131 rfl Tryz.call131 ⟨rfl, rfl, by simp⟩ fun K hK => ?_
 have fu : Tryz.prog.underlying 9 = some .string := by kernel_rfl
 have sl : ∀ (a : ByteArray) (ty : TypeId), cH Tryz.prog (Builtin.len_ #[9] ty) [.sc (.string a)] = some (num a.size) := fun a ty => ck (P := Tryz.prog) (tt := tt) (T := 9) a fu ty
 have DH : Tryz.prog.underlying 5 = some (.int .u8) := by kernel_rfl
 have ig : Tryz.prog.underlying 136 = some (.int .u64) := by kernel_rfl
 have DI : Tryz.prog.underlying 3 = some (.int .i64) := by kernel_rfl
 have Ls := fun (k : IntKind) (n : Int) => ek (P := Tryz.prog) (src := 136) (dst := 5) ig DH k n
 have Lt := fun (k : IntKind) (n : Int) => ek (P := Tryz.prog) (src := 3) (dst := 136) DI ig k n
 have xq := fun (k : IntKind) (n : Int) => ek (P := Tryz.prog) (src := 5) (dst := 136) DH ig k n
 have ea := fun x y (b : UInt8) => OT Tryz.prog 5 x y .u8 b.toNat 127
 have xr : ∀ b : UInt8, Hq .u8 (b.toNat : Int) 127 = ((b.toNat % 128 : Nat) : Int) := fun b => P7 _ b.toNat_lt
 have xt : ∀ b : UInt8, IntKind.u64.wrap ((b.toNat % 128 : Nat) : Int) = ((b.toNat % 128 : Nat) : Int) := fun b => wrap64 _ (by omega)
 simp only [bG,sl,xq,ea,xr,xt,eu,bG,go_sem,reduceIte,zA,zB,zC,zD,zE,zF,reduceCtorEq]
 refine cO tt_ok [] (fun b : Nat × Nat => [(0, .ptr 0 0), (1, num (a + b.1 : Nat)), (7, bG b.2), (8, num (7 * b.1 : Nat))]) (fun b : Nat × Nat => [.box [str s, num a0, num e]]) (fun b => 10 - b.1) (fun b => b.1 ≤ 10 ∧ a + b.1 ≤ s.size ∧ b.2 < 2 ^ 64 ∧ (b.1 ≤ 9 → b.2 < 2 ^ (7 * b.1)) ∧ dJ (from_ s a) 0 0 = dJ (from_ s (a + b.1)) b.1 b.2) ((0, 0)) 1 (bm (by omega) (by simp only [bG,sl,xq,ea,xr,xt,eu,bG,bG,Nat.mul_zero,Nat.add_zero,Int.cast_ofNat_Int,go_sem,reduceIte,zA,zB,zC,zD,zE,zF,reduceCtorEq] <;> rfl)) (⟨by decide, ha, by decide, fun _ => by decide, rfl⟩) ?_
 rintro ⟨i, m⟩ ⟨hi, hai, Xd, hm, jI⟩
 try dsimp only at hi hai Xd hm jI
 try dsimp only [bG]
 have hw := aB (a + i) (by omega)
 have Cs : IntKind.i64.wrap (((7 * i : Nat) : Int) + 7) = ((7 * (i + 1) : Nat) : Int) := by rw [IntWalk.i64_in _ (by omega)]; omega
 intro Z1 bW
 simp only [bG,sl,xq,ea,xr,xt,eu,bG,go_sem,reduceIte,zA,zB,zC,zD,zE,zF,reduceCtorEq]
 refine aM (fun zQ => ?_) (fun zQ => ?_)
 ·have aD : a + i < s.size := by have := of_decide_eq_true zQ; omega
  obtain ⟨c, kL⟩ := bT (s := s) (i := a + i) aD
  have c6 := cM (P := Tryz.prog) s fu .i64 ((a + i : Nat) : Int) (by omega) (c := c) (show s[((a + i : Nat) : Int).toNat]? = some c from kL)
  have UA := Ic kL
  rw [UA, dJ] at jI
  have ko := c.toNat_lt
  simp only [bG,c6,hw,Cs,sl,xq,ea,xr,xt,eu,bG,go_sem,reduceIte,zA,zB,zC,zD,zE,zF,reduceCtorEq]
  refine aM (fun Ig => ?_) (fun Ig => ?_)
  ·have Ri : i ≤ 9 := by have := of_decide_eq_true Ig; omega
   have U3 := hm Ri
   simp only [bG,c6,hw,Cs,sl,xq,ea,xr,xt,eu,bG,go_sem,reduceIte,zA,zB,zC,zD,zE,zF,reduceCtorEq]
   refine aM (fun DT => ?_) (fun DT => ?_)
   ·simp only [bG,c6,hw,Cs,sl,xq,ea,xr,xt,eu,bG,go_sem,reduceIte,zA,zB,zC,zD,zE,zF,reduceCtorEq]
    refine aM (fun ql => ?_) (fun ql => ?_)
    ·have hR : Fv s a (.bN [bG 0, num (0 : Nat), bl false]) := by
      rw [if_pos (.inr ⟨by have := of_decide_eq_true DT; omega, by have := of_decide_eq_true ql; omega⟩)] at jI
      exact Fv.no jI
     simp only [bG,c6,hw,Cs,sl,xq,ea,xr,xt,eu,bG,go_sem,reduceIte,zA,zB,zC,zD,zE,zF,reduceCtorEq]
     exact hK _ _ ⟨hR, rfl⟩
    ·have h9 : i = 9 → c.toNat ≤ 1 := by first | (intro _; have := of_decide_eq_false ql; omega) | (intro h; have := of_decide_eq_false DT; omega)
     obtain ⟨jd, fR, Q8⟩ := Nv (c := c.toNat % 128) Ri U3 (by omega) (fun h => by have := h9 h; omega)
     have ki := fun x y => DS x y (c.toNat % 128) i Q8 Ri
     have Ih := vL m (c.toNat % 128) (7 * i) U3 jd
     rw [if_neg (by omega)] at jI
     simp only [bG,c6,hw,Cs,ki,Ih,sl,xq,ea,xr,xt,eu,bG,go_sem,reduceIte,zA,zB,zC,zD,zE,zF,reduceCtorEq]
     refine aM (fun Ct => ?_) (fun Ct => ?_)
     ·have l5 : c.toNat < 128 := by have := of_decide_eq_true Ct; omega
      rw [if_pos l5] at jI
      simp only [bG,c6,hw,Cs,ki,Ih,sl,xq,ea,xr,xt,eu,bG,go_sem,reduceIte,zA,zB,zC,zD,zE,zF,reduceCtorEq]
      refine aM (fun nY => ?_) (fun nY => ?_)
      ·have hR := Fv.yes (ok := true) jI l5 jd (by omega) (by have := of_decide_eq_true nY; simp; omega)
       simp only [bG,c6,hw,Cs,ki,Ih,sl,xq,ea,xr,xt,eu,bG,go_sem,reduceIte,zA,zB,zC,zD,zE,zF,reduceCtorEq]
       exact hK _ _ ⟨hR, rfl⟩
      ·have hR := Fv.yes (ok := decide (((7 * i : Nat) : Int) = 0)) jI l5 jd (by omega) (by have := of_decide_eq_false nY; rw [decide_eq_decide]; omega)
       simp only [bG,c6,hw,Cs,ki,Ih,sl,xq,ea,xr,xt,eu,bG,go_sem,reduceIte,zA,zB,zC,zD,zE,zF,reduceCtorEq]
       exact hK _ _ ⟨hR, rfl⟩
     ·have l5 : ¬ c.toNat < 128 := by have := of_decide_eq_false Ct; omega
      rw [if_neg l5, show c.toNat - 128 = c.toNat % 128 by omega] at jI
      have y8 : i + 1 ≤ 10 ∧ a + (i + 1) ≤ s.size ∧ m + c.toNat % 128 * 2 ^ (7 * i) < 2 ^ 64 ∧ (i + 1 ≤ 9 → m + c.toNat % 128 * 2 ^ (7 * i) < 2 ^ (7 * (i + 1))) ∧ dJ (from_ s a) 0 0 = dJ (from_ s (a + (i + 1))) (i + 1) (m + c.toNat % 128 * 2 ^ (7 * i)) := ⟨by omega, by omega, jd, fR, jI⟩
      simp only [bG,c6,hw,Cs,ki,Ih,sl,xq,ea,xr,xt,eu,bG,go_sem,reduceIte,zA,zB,zC,zD,zE,zF,reduceCtorEq]
      refine bW _ ⟨(i + 1, m + c.toNat % 128 * 2 ^ (7 * i)), ?_, ?_, bm (by omega) (by (simp only [bG,Nat.add_assoc,bG,go_sem,reduceIte,zA,zB,zC,zD,zE,zF,reduceCtorEq]))⟩
      ·exact y8
      ·dsimp only; omega
   ·have h9 : i = 9 → c.toNat ≤ 1 := by first | (intro _; have := of_decide_eq_false ql; omega) | (intro h; have := of_decide_eq_false DT; omega)
    obtain ⟨jd, fR, Q8⟩ := Nv (c := c.toNat % 128) Ri U3 (by omega) (fun h => by have := h9 h; omega)
    have ki := fun x y => DS x y (c.toNat % 128) i Q8 Ri
    have Ih := vL m (c.toNat % 128) (7 * i) U3 jd
    rw [if_neg (by omega)] at jI
    simp only [bG,c6,hw,Cs,ki,Ih,sl,xq,ea,xr,xt,eu,bG,go_sem,reduceIte,zA,zB,zC,zD,zE,zF,reduceCtorEq]
    refine aM (fun Ct => ?_) (fun Ct => ?_)
    ·have l5 : c.toNat < 128 := by have := of_decide_eq_true Ct; omega
     rw [if_pos l5] at jI
     simp only [bG,c6,hw,Cs,ki,Ih,sl,xq,ea,xr,xt,eu,bG,go_sem,reduceIte,zA,zB,zC,zD,zE,zF,reduceCtorEq]
     refine aM (fun nY => ?_) (fun nY => ?_)
     ·have hR := Fv.yes (ok := true) jI l5 jd (by omega) (by have := of_decide_eq_true nY; simp; omega)
      simp only [bG,c6,hw,Cs,ki,Ih,sl,xq,ea,xr,xt,eu,bG,go_sem,reduceIte,zA,zB,zC,zD,zE,zF,reduceCtorEq]
      exact hK _ _ ⟨hR, rfl⟩
     ·have hR := Fv.yes (ok := decide (((7 * i : Nat) : Int) = 0)) jI l5 jd (by omega) (by have := of_decide_eq_false nY; rw [decide_eq_decide]; omega)
      simp only [bG,c6,hw,Cs,ki,Ih,sl,xq,ea,xr,xt,eu,bG,go_sem,reduceIte,zA,zB,zC,zD,zE,zF,reduceCtorEq]
      exact hK _ _ ⟨hR, rfl⟩
    ·have l5 : ¬ c.toNat < 128 := by have := of_decide_eq_false Ct; omega
     rw [if_neg l5, show c.toNat - 128 = c.toNat % 128 by omega] at jI
     have y8 : i + 1 ≤ 10 ∧ a + (i + 1) ≤ s.size ∧ m + c.toNat % 128 * 2 ^ (7 * i) < 2 ^ 64 ∧ (i + 1 ≤ 9 → m + c.toNat % 128 * 2 ^ (7 * i) < 2 ^ (7 * (i + 1))) ∧ dJ (from_ s a) 0 0 = dJ (from_ s (a + (i + 1))) (i + 1) (m + c.toNat % 128 * 2 ^ (7 * i)) := ⟨by omega, by omega, jd, fR, jI⟩
     simp only [bG,c6,hw,Cs,ki,Ih,sl,xq,ea,xr,xt,eu,bG,go_sem,reduceIte,zA,zB,zC,zD,zE,zF,reduceCtorEq]
     refine bW _ ⟨(i + 1, m + c.toNat % 128 * 2 ^ (7 * i)), ?_, ?_, bm (by omega) (by (simp only [bG,Nat.add_assoc,bG,go_sem,reduceIte,zA,zB,zC,zD,zE,zF,reduceCtorEq]))⟩
     ·exact y8
     ·dsimp only; omega
  ·have UH : i = 10 := by have := of_decide_eq_false Ig; omega
   rw [if_pos (.inl (by omega))] at jI
   have hR := Fv.no jI
   simp only [bG,c6,hw,Cs,sl,xq,ea,xr,xt,eu,bG,go_sem,reduceIte,zA,zB,zC,zD,zE,zF,reduceCtorEq]
   exact hK _ _ ⟨hR, rfl⟩
 ·have c5 : s.size ≤ a + i := by have := of_decide_eq_false zQ; omega
  rw [Ie c5, dJ] at jI
  have hR := Fv.no jI
  simp only [bG,sl,xq,ea,xr,xt,eu,bG,go_sem,reduceIte,zA,zB,zC,zD,zE,zF,reduceCtorEq]
  exact hK _ _ ⟨hR, rfl⟩
end Go.Proofs.YtnfeacnbgbggfaaGreatDoor
end

section
namespace Go.Proofs.YtnfeacnbgbggfaaGreatDoor
open Go.Eng
open Nat renaming reduceAdd → zA, reduceLT → zB, reduceLeDiff → zC, reduceMul → zD, reduceEqDiff → zE, reduceSub → zF
variable [aH]
set_option maxHeartbeats 4000000
set_option maxRecDepth 100000
theorem Rp.of {s : ByteArray} {a n j : Nat} {ok ok2 : Bool} (hn : n < 2 ^ 64) (hj : j ≤ s.size) (bK : ok = (dJ (from_ s a) 0 0).isSome) (jI : ∀ n' k, dJ (from_ s a) 0 0 = some (n', k) → n = n' ∧ j = a + k) (h2 : ok2 = (ok && decide (n < 9223372036854775808))) : Rp s a (.bN [num (IntKind.i64.wrap (n : Int)), num j, bl ok2]) := by
 refine ⟨_, _, _, rfl, hj, ?_, fun n' k h => ?_⟩
 ·unfold pc
  cases hs : dJ (from_ s a) 0 0 with
  | none => rw [hs] at bK; rw [h2, bK]; rfl
  | some p =>
   obtain ⟨n0, k0⟩ := p
   obtain ⟨rfl, rfl⟩ := jI _ _ hs
   rw [hs] at bK
   rw [h2, bK]
   dsimp only
   by_cases h9 : n < 9223372036854775808 <;> simp [h9]
 ·unfold pc at h
  cases hs : dJ (from_ s a) 0 0 with
  | none => rw [hs] at h; cases h
  | some p =>
   obtain ⟨n0, k0⟩ := p
   obtain ⟨rfl, rfl⟩ := jI _ _ hs
   rw [hs] at h
   dsimp only at h
   split at h
   ·simp only [Option.some.injEq,Prod.mk.injEq] at h
    obtain ⟨rfl, rfl⟩ := h
    exact ⟨IntWalk.i64_in _ (by omega), rfl⟩
   ·cases h
theorem TJ (x y : Operand) (k' : IntKind) (n : Nat) : aQ Tryz.prog (fC .shr 136 x y) (.sc (.int .u64 (n : Int))) (.sc (.int k' 63)) = some (bG (n / 9223372036854775808)) := by
 rw [Hp Tryz.prog 136 x y .u64 k' n 63 (by omega)]
 have : ((n : Int)).fdiv (2 ^ min (63 : Int).toNat IntKind.u64.bits) = ((n / 9223372036854775808 : Nat) : Int) := by
  show ((n : Int)).fdiv ((9223372036854775808 : Nat) : Int) = _
  rw [Int.fdiv_eq_ediv_of_nonneg _ (by omega)]; omega
 rw [this]; rfl
theorem Cu {s : ByteArray} {a n j : Nat} (h : pc s a = some (n, j)) : n < 9223372036854775808 ∧ j ≤ s.size := ⟨(BV h).2.1, (BV h).2.2.2.1⟩
theorem xu (s : ByteArray) (hs : s.size ≤ 1073741824) (a a0 : Nat) (e : Int) (ha : a ≤ s.size) : ∃ r_, Rp s a r_ ∧ aR Tryz.prog 105 [.ptr 0 0, num a] ([.box [str s, num a0, num e]]) r_ ([.box [str s, num a0, num e]]) := by
 refine Gf tt_ok [] 26 [.tmp 4, .tmp 5, .tmp 6] (fn := Tryz.f105) Tryz.func105 rfl Tryz.call105 ⟨rfl, rfl, by simp⟩ fun K hK => ?_
 have DH : Tryz.prog.underlying 5 = some (.int .u8) := by kernel_rfl
 have ig : Tryz.prog.underlying 136 = some (.int .u64) := by kernel_rfl
 have DI : Tryz.prog.underlying 3 = some (.int .i64) := by kernel_rfl
 have Ls := fun (k : IntKind) (n : Int) => ek (P := Tryz.prog) (src := 136) (dst := 5) ig DH k n
 have Lt := fun (k : IntKind) (n : Int) => ek (P := Tryz.prog) (src := 3) (dst := 136) DI ig k n
 have U4 := fun (k : IntKind) (n : Int) => ek (P := Tryz.prog) (src := 136) (dst := 3) ig DI k n
 simp only [U4,bG,go_sem,reduceIte,zA,zB,zC,zD,zE,zF,reduceCtorEq]
 refine cS (Lx s hs a a0 e ha) ?_
 rintro _ ⟨n, j, ok, rfl, TK, TL, bK, jI⟩
 have C0 := fun x y k => TJ x y k n
 simp only [C0,U4,bG,go_sem,reduceIte,zA,zB,zC,zD,zE,zF,reduceCtorEq]
 refine aM (fun Ii => ?_) (fun Ii => ?_)
 ·have hR := Rp.of (ok2 := decide (((n / 9223372036854775808 : Nat) : Int) = 0)) TK TL bK jI (by rw [Ii, Bool.true_and, decide_eq_decide]; omega)
  simp only [C0,U4,bG,go_sem,reduceIte,zA,zB,zC,zD,zE,zF,reduceCtorEq]
  exact hK _ _ ⟨hR, rfl⟩
 ·have hR := Rp.of (ok2 := false) TK TL bK jI (by rw [Ii]; rfl)
  simp only [C0,U4,bG,go_sem,reduceIte,zA,zB,zC,zD,zE,zF,reduceCtorEq]
  exact hK _ _ ⟨hR, rfl⟩
theorem Cv (s : ByteArray) (hs : s.size ≤ 1073741824) (a a0 : Nat) (e : Int) (ha : a ≤ s.size) : ∃ r_, (fun w => w = Nw s a) r_ ∧ aR Tryz.prog 100 [.ptr 0 0, num a] ([.box [str s, num a0, num e]]) r_ ([.box [str s, num a0, num e]]) := by
 refine Gf tt_ok [] 42 [.tmp 4, .tmp 5, .tmp 6] (fn := Tryz.f100) Tryz.func100 rfl Tryz.call100 ⟨rfl, rfl, by simp⟩ fun K hK => ?_
 have fu : Tryz.prog.underlying 9 = some .string := by kernel_rfl
 have sl : ∀ (a : ByteArray) (ty : TypeId), cH Tryz.prog (Builtin.len_ #[9] ty) [.sc (.string a)] = some (num a.size) := fun a ty => ck (P := Tryz.prog) (tt := tt) (T := 9) a fu ty
 simp only [sl,go_sem,reduceIte,zA,zB,zC,zD,zE,zF,reduceCtorEq]
 refine cS (xu s hs a a0 e ha) ?_
 rintro _ ⟨n, j, ok, rfl, TL, bK, jI⟩
 simp only [sl,go_sem,reduceIte,zA,zB,zC,zD,zE,zF,reduceCtorEq]
 refine aM (fun zM => ?_) (fun zM => ?_)
 ·have P9 : ok = false := by simpa using zM
  have hR : Nw s a = .bN [str ⟨#[]⟩, num 0, bl false] := by
   unfold Nw BT
   cases hr : pc s a with
   | none => rfl
   | some p => rw [P9, hr] at bK; cases bK
  simp only [sl,go_sem,reduceIte,zA,zB,zC,zD,zE,zF,reduceCtorEq]
  exact hK _ _ ⟨hR.symm, rfl⟩
 ·have Nx : ok = true := by simpa using zM
  obtain ⟨n0, j0, hr⟩ : ∃ n0 j0, pc s a = some (n0, j0) := by
   cases hr : pc s a with
   | none => rw [Nx, hr] at bK; cases bK
   | some p => exact ⟨p.1, p.2, rfl⟩
  obtain ⟨rfl, rfl⟩ := jI _ _ hr
  have er := Cu hr
  have Cd : IntKind.i64.wrap ((s.size : Int) - (j : Int)) = (s.size : Int) - (j : Int) := IntWalk.i64_in _ (by omega)
  simp only [Cd,sl,go_sem,reduceIte,zA,zB,zC,zD,zE,zF,reduceCtorEq]
  refine aM (fun zV => ?_) (fun zV => ?_)
  ·have hR : Nw s a = .bN [str ⟨#[]⟩, num 0, bl false] := by
    first
    | exact hR
    | (unfold Nw BT; rw [hr]; dsimp only; rw [if_neg (by have := of_decide_eq_true zV; omega)])
   simp only [Cd,sl,go_sem,reduceIte,zA,zB,zC,zD,zE,zF,reduceCtorEq]
   exact hK _ _ ⟨hR.symm, rfl⟩
  ·have hle : n0 ≤ s.size - j := by have := of_decide_eq_false zV; omega
   have hR : Nw s a = .bN [str (s.extract j (j + n0)), num ((j + n0 : Nat) : Int), bl true] := by unfold Nw BT; rw [hr]; dsimp only; rw [if_pos hle]
   have hwa : IntKind.i64.wrap ((j : Int) + (n0 : Int)) = ((j + n0 : Nat) : Int) := by rw [IntWalk.i64_in _ (by omega)]; omega
   have PC : aQ Tryz.prog (fun a l => Instr.sliceAt 9 a (some l) (some (.int .i64 (((j + n0 : Nat) : Int)))) none) (.sc (.string s)) (.sc (.int .i64 ((j : Int)))) = some (.sc (.string (s.extract ((j : Int) : Int).toNat (((j + n0 : Nat) : Int) : Int).toNat))) := EE (P := Tryz.prog) (tt := tt) (mem := []) (T := 9) s fu .i64 .i64 ((j : Int)) (((j + n0 : Nat) : Int)) (by omega) (by omega) (by omega)
   rw [Int.toNat_natCast, Int.toNat_natCast] at PC
   simp only [Cd,hwa,PC,bA,sl,go_sem,reduceIte,zA,zB,zC,zD,zE,zF,reduceCtorEq]
   exact hK _ _ ⟨hR.symm, rfl⟩
theorem Ly (s : ByteArray) (hs : s.size ≤ 1073741824) (a a0 : Nat) (e : Int) (ha : a ≤ s.size) (M : List aw) (k : Nat) (hk : M[k]? = some (.box [str s, num a0, num e])) : ∃ r_, Rp s a r_ ∧ aR Tryz.prog 105 [.ptr k 0, num a] M r_ M := by
 obtain ⟨r, hr, h⟩ := xu s hs a a0 e ha
 have uu := hr
 obtain ⟨n, j, ok, rfl, -⟩ := uu
 have h3 := iw h M k (by simp [ai]) (by simp [az, ai]) (by simp [ai, dp]) (by simp [az, ai]) (fun σ => by simp [cq, ca, bt]) (fun σ => by simp [cq, ca, bt]) hk
 rw [eY hk] at h3
 exact ⟨_, hr, by simpa [ca, bt] using h3⟩
def lj (s : ByteArray) (a : Nat) (e : Int) : Nat × Nat × Int := if e ≠ 0 then (0, a, e) else match pc s a with | some (n, j) => (n, j, 0) | none => (0, a, 9)
def l6 (s : ByteArray) (a : Nat) (e : Int) : ByteArray × Nat × Int := if e ≠ 0 then (⟨#[]⟩, a, e) else match BT s a with | some (t, j) => (t, j, 0) | none => (⟨#[]⟩, a, 9)
def rq (ft : Int) (s : ByteArray) (a : Nat) (e : Int) : Nat × Nat × Int := if e ≠ 0 then (0, a, e) else match pc s a with | some (n, j) => if (n : Int) ≤ ft then (n, j, 0) else (0, a, 9) | none => (0, a, 9)
def Xe (ft : Int) (s : ByteArray) (a : Nat) (r : V) : Prop := ∃ (n : Int) (j : Nat) (ok : Bool), r = .bN [num n, num j, bl ok] ∧ (ok = match pc s a with | some (n', _) => decide ((n' : Int) ≤ ft) | none => false) ∧ ∀ n' k, pc s a = some (n', k) → n = n' ∧ j = k
theorem Fw (s : ByteArray) (hs : s.size ≤ 1073741824) (ft : Int) (a a0 : Nat) (e : Int) (ha : a ≤ s.size) : ∃ r_, Xe ft s a r_ ∧ aR Tryz.prog 106 [num a, .ptr 1 0, .ptr 2 0] ([.box [str s, num a0, num e], .box [.ptr 0 0], .box [num ft]]) r_ ([.box [str s, num a0, num e], .box [.ptr 0 0], .box [num ft]]) := by
 refine Gf tt_ok [] 25 [.tmp 4, .tmp 5, .tmp 6] (fn := Tryz.f106) Tryz.func106 rfl Tryz.call106 ⟨rfl, rfl, by simp⟩ fun K hK => ?_
 simp only [go_sem,reduceIte,zA,zB,zC,zD,zE,zF,reduceCtorEq]
 refine cS (Ly s hs a a0 e ha _ 0 rfl) ?_
 rintro _ ⟨n, j, ok, rfl, TL, bK, jI⟩
 simp only [go_sem,reduceIte,zA,zB,zC,zD,zE,zF,reduceCtorEq]
 refine bI tt_ok aK [⟨.n, 0, [], [], []⟩, ⟨.n, 0, [], [], []⟩, ⟨.n, 0, [], [], []⟩, ⟨.n, 0, [], [], []⟩, ⟨.n, 0, [], [], []⟩, ⟨.r, 0, [], [], []⟩, ⟨.n, 0, [], [], []⟩, ⟨.n, 0, [], [], []⟩, ⟨.n, 0, [], [], []⟩, ⟨.n, 0, [], [], []⟩, ⟨.n, 0, [], [], []⟩] 0 (by kernel_rfl) ?_
 simp only [go_sem,reduceIte,zA,zB,zC,zD,zE,zF,reduceCtorEq]
 refine aM (fun tB => ?_) (fun tB => ?_)
 ·have hR : Xe ft s a (.bN [num n, num j, bl (decide (n ≤ ft))]) := by
   refine ⟨_, _, _, rfl, ?_, jI⟩
   cases hr : pc s a with
   | none => rw [hr] at bK; rw [bK] at tB; cases tB
   | some p => obtain ⟨n0, j0⟩ := p; obtain ⟨rfl, rfl⟩ := jI _ _ hr; rfl
  simp only [go_sem,reduceIte,zA,zB,zC,zD,zE,zF,reduceCtorEq]
  exact hK _ _ ⟨hR, rfl⟩
 ·have hR : Xe ft s a (.bN [num n, num j, bl false]) := by
   refine ⟨_, _, _, rfl, ?_, jI⟩
   cases hr : pc s a with
   | none => rfl
   | some p => rw [hr] at bK; rw [bK] at tB; cases tB
  simp only [go_sem,reduceIte,zA,zB,zC,zD,zE,zF,reduceCtorEq]
  exact hK _ _ ⟨hR, rfl⟩
theorem Ij (s : ByteArray) (hs : s.size ≤ 1073741824) (a : Nat) (e : Int) (ha : a ≤ s.size) : ∃ r_ m_, (fun r m => r = num (lj s a e).1 ∧ m = [.box [str s, num (lj s a e).2.1, num (lj s a e).2.2]]) r_ m_ ∧ aR Tryz.prog 104 [.ptr 0 0, .fQ (.func 105) [.ptr 0 0] []] ([.box [str s, num a, num e]]) r_ m_ := by
 refine Ge tt_ok [] 36 [.tmp 4] (1) (by simp) (fn := Tryz.f104) Tryz.func104 rfl Tryz.call104 ⟨rfl, rfl, by simp⟩ fun K hK => ?_
 obtain ⟨σ, hσ⟩ : ∃ x, x = lj s a e := ⟨_, rfl⟩
 rw [← hσ] at hK
 simp only [go_sem,reduceIte,zA,zB,zC,zD,zE,zF,reduceCtorEq]
 refine aM (fun l0 => ?_) (fun l0 => ?_)
 ·have he : e ≠ 0 := by simpa using l0
  have fR : σ = (0, a, e) := by rw [hσ]; unfold lj; rw [if_pos he]
  subst fR
  simp only [go_sem,reduceIte,zA,zB,zC,zD,zE,zF,reduceCtorEq]
  exact hK _ _ ⟨rfl, rfl⟩
 ·have he : e = 0 := by simpa using l0
  subst he
  simp only [go_sem,reduceIte,zA,zB,zC,zD,zE,zF,reduceCtorEq]
  refine cS (xu s hs a a 0 ha) ?_
  rintro _ ⟨n, j, ok, rfl, TL, bK, jI⟩
  simp only [go_sem,reduceIte,zA,zB,zC,zD,zE,zF,reduceCtorEq]
  refine aM (fun iV => ?_) (fun iV => ?_)
  ·have P9 : ok = false := by simpa using iV
   have hr : pc s a = none := by
    cases hr : pc s a with
    | none => rfl
    | some p => rw [P9, hr] at bK; cases bK
   have fR : σ = (0, a, 9) := by rw [hσ]; unfold lj; rw [if_neg (by simp), hr]
   subst fR
   simp only [go_sem,reduceIte,zA,zB,zC,zD,zE,zF,reduceCtorEq]
   exact hK _ _ ⟨rfl, rfl⟩
  ·have Nx : ok = true := by simpa using iV
   obtain ⟨n0, j0, hr⟩ : ∃ n0 j0, pc s a = some (n0, j0) := by
    cases hr : pc s a with
    | none => rw [Nx, hr] at bK; cases bK
    | some p => exact ⟨p.1, p.2, rfl⟩
   obtain ⟨rfl, rfl⟩ := jI _ _ hr
   have fR : σ = (n0, j, 0) := by rw [hσ]; unfold lj; rw [if_neg (by simp), hr]
   subst fR
   simp only [go_sem,reduceIte,zA,zB,zC,zD,zE,zF,reduceCtorEq]
   exact hK _ _ ⟨rfl, rfl⟩
theorem Ik (s : ByteArray) (hs : s.size ≤ 1073741824) (ft : Int) (a : Nat) (e : Int) (ha : a ≤ s.size) : ∃ r_ m_, (fun r m => r = num (rq ft s a e).1 ∧ m = [.box [str s, num (rq ft s a e).2.1, num (rq ft s a e).2.2], .box [.ptr 0 0], .box [num ft]]) r_ m_ ∧ aR Tryz.prog 104 [.ptr 0 0, .fQ (.func 106) [] [.ptr 1 0, .ptr 2 0]] ([.box [str s, num a, num e], .box [.ptr 0 0], .box [num ft]]) r_ m_ := by
 refine Ge tt_ok [] 36 [.tmp 4] (3) (by simp) (fn := Tryz.f104) Tryz.func104 rfl Tryz.call104 ⟨rfl, rfl, by simp⟩ fun K hK => ?_
 obtain ⟨σ, hσ⟩ : ∃ x, x = rq ft s a e := ⟨_, rfl⟩
 rw [← hσ] at hK
 simp only [go_sem,reduceIte,zA,zB,zC,zD,zE,zF,reduceCtorEq]
 refine aM (fun l0 => ?_) (fun l0 => ?_)
 ·have he : e ≠ 0 := by simpa using l0
  have fR : σ = (0, a, e) := by rw [hσ]; unfold rq; rw [if_pos he]
  subst fR
  simp only [go_sem,reduceIte,zA,zB,zC,zD,zE,zF,reduceCtorEq]
  exact hK _ _ ⟨rfl, rfl⟩
 ·have he : e = 0 := by simpa using l0
  subst he
  simp only [go_sem,reduceIte,zA,zB,zC,zD,zE,zF,reduceCtorEq]
  refine cS (Fw s hs ft a a 0 ha) ?_
  rintro _ ⟨n, j, ok, rfl, bK, jI⟩
  simp only [go_sem,reduceIte,zA,zB,zC,zD,zE,zF,reduceCtorEq]
  refine aM (fun iV => ?_) (fun iV => ?_)
  ·have P9 : ok = false := by simpa using iV
   have fR : σ = (0, a, 9) := by
    rw [hσ]; unfold rq; rw [if_neg (by simp)]
    cases hr : pc s a with
    | none => rfl
    | some p =>
     obtain ⟨n0, j0⟩ := p
     rw [P9, hr] at bK
     exact if_neg (of_decide_eq_false bK.symm)
   subst fR
   simp only [go_sem,reduceIte,zA,zB,zC,zD,zE,zF,reduceCtorEq]
   exact hK _ _ ⟨rfl, rfl⟩
  ·have Nx : ok = true := by simpa using iV
   obtain ⟨n0, j0, hr⟩ : ∃ n0 j0, pc s a = some (n0, j0) := by
    cases hr : pc s a with
    | none => rw [Nx, hr] at bK; cases bK
    | some p => exact ⟨p.1, p.2, rfl⟩
   obtain ⟨rfl, rfl⟩ := jI _ _ hr
   rw [Nx, hr] at bK
   have fR : σ = (n0, j, 0) := by rw [hσ]; unfold rq; rw [if_neg (by simp), hr]; exact if_pos (of_decide_eq_true bK.symm)
   subst fR
   simp only [go_sem,reduceIte,zA,zB,zC,zD,zE,zF,reduceCtorEq]
   exact hK _ _ ⟨rfl, rfl⟩
theorem TN (s : ByteArray) (hs : s.size ≤ 1073741824) (a a0 : Nat) (e : Int) (ha : a ≤ s.size) : ∃ r_, (∃ (t : ByteArray) (j : Nat) (ok : Bool), r_ = .bN [str t, num j, bl ok] ∧ (ok = true → BT s a = some (t, j)) ∧ (ok = false → BT s a = none)) ∧ aR Tryz.prog 100 [.ptr 0 0, num a] [.box [str s, num a0, num e]] r_ [.box [str s, num a0, num e]] := by
 obtain ⟨r, rfl, h⟩ := Cv s hs a a0 e ha
 refine ⟨_, ?_, h⟩
 unfold Nw
 cases hr : BT s a with
 | none => exact ⟨_, 0, _, rfl, (fun h => by cases h), fun _ => rfl⟩
 | some p => obtain ⟨t, j⟩ := p; exact ⟨_, _, _, rfl, (fun _ => rfl), fun h => by cases h⟩
theorem Il (s : ByteArray) (hs : s.size ≤ 1073741824) (a : Nat) (e : Int) (ha : a ≤ s.size) : ∃ r_ m_, (fun r m => r = str (l6 s a e).1 ∧ m = [.box [str s, num (l6 s a e).2.1, num (l6 s a e).2.2]]) r_ m_ ∧ aR Tryz.prog 99 [.ptr 0 0, .fQ (.func 100) [.ptr 0 0] []] ([.box [str s, num a, num e]]) r_ m_ := by
 refine Ge tt_ok [] 36 [.tmp 4] (1) (by simp) (fn := Tryz.f99) Tryz.func99 rfl Tryz.call99 ⟨rfl, rfl, by simp⟩ fun K hK => ?_
 obtain ⟨σ, hσ⟩ : ∃ x, x = l6 s a e := ⟨_, rfl⟩
 rw [← hσ] at hK
 simp only [go_sem,reduceIte,zA,zB,zC,zD,zE,zF,reduceCtorEq]
 refine aM (fun l0 => ?_) (fun l0 => ?_)
 ·have he : e ≠ 0 := by simpa using l0
  have fR : σ = (⟨#[]⟩, a, e) := by rw [hσ]; unfold l6; rw [if_pos he]
  subst fR
  simp only [go_sem,reduceIte,zA,zB,zC,zD,zE,zF,reduceCtorEq]
  exact hK _ _ ⟨rfl, rfl⟩
 ·have he : e = 0 := by simpa using l0
  subst he
  simp only [go_sem,reduceIte,zA,zB,zC,zD,zE,zF,reduceCtorEq]
  refine cS (TN s hs a a 0 ha) ?_
  rintro _ ⟨t, j, ok, rfl, bK, dW⟩
  simp only [go_sem,reduceIte,zA,zB,zC,zD,zE,zF,reduceCtorEq]
  refine aM (fun iV => ?_) (fun iV => ?_)
  ·have P9 : ok = false := by simpa using iV
   have hr := dW P9
   have fR : σ = (⟨#[]⟩, a, 9) := by rw [hσ]; unfold l6; rw [if_neg (by simp), hr]
   subst fR
   simp only [go_sem,reduceIte,zA,zB,zC,zD,zE,zF,reduceCtorEq]
   exact hK _ _ ⟨rfl, rfl⟩
  ·have Nx : ok = true := by simpa using iV
   have hr := bK Nx
   have fR : σ = (t, j, 0) := by rw [hσ]; unfold l6; rw [if_neg (by simp), hr]
   subst fR
   simp only [go_sem,reduceIte,zA,zB,zC,zD,zE,zF,reduceCtorEq]
   exact hK _ _ ⟨rfl, rfl⟩
end Go.Proofs.YtnfeacnbgbggfaaGreatDoor
end

section
namespace Go.Proofs.YtnfeacnbgbggfaaGreatDoor
open Go.Eng
open Nat renaming reduceAdd → zA, reduceLT → zB, reduceLeDiff → zC, reduceMul → zD, reduceEqDiff → zE, reduceSub → zF
variable [aH]
set_option maxHeartbeats 4000000
set_option maxRecDepth 100000
def qo (s : ByteArray) (a : Nat) (e : Int) : Int := if e = 0 ∧ a < s.size then 9 else e
theorem Im (s : ByteArray) (hs : s.size ≤ 1073741824) (a : Nat) (e : Int) (ha : a ≤ s.size) : ∃ r_ m_, (fun r m => r = str (l6 s a e).1 ∧ m = [.box [str s, num (l6 s a e).2.1, num (l6 s a e).2.2]]) r_ m_ ∧ aR Tryz.prog 64 [.ptr 0 0] ([.box [str s, num a, num e]]) r_ m_ := by
 refine Ge tt_ok [] 7 [.tmp 2] (1) (by simp) (fn := Tryz.f64) Tryz.func64 rfl Tryz.call64 ⟨rfl, rfl, by simp⟩ fun K hK => ?_
 simp only [go_sem,reduceIte,zA,zB,zC,zD,zE,zF,reduceCtorEq]
 refine cW (Il s hs a e ha) ?_
 rintro _ _ ⟨rfl, rfl⟩
 simp only [go_sem,reduceIte,zA,zB,zC,zD,zE,zF,reduceCtorEq]
 exact hK _ _ ⟨rfl, rfl⟩
theorem Io (s : ByteArray) (hs : s.size ≤ 1073741824) (a : Nat) (e : Int) (ha : a ≤ s.size) : ∃ r_ m_, (fun r m => r = num (lj s a e).1 ∧ m = [.box [str s, num (lj s a e).2.1, num (lj s a e).2.2]]) r_ m_ ∧ aR Tryz.prog 66 [.ptr 0 0] ([.box [str s, num a, num e]]) r_ m_ := by
 refine Ge tt_ok [] 7 [.tmp 2] (1) (by simp) (fn := Tryz.f66) Tryz.func66 rfl Tryz.call66 ⟨rfl, rfl, by simp⟩ fun K hK => ?_
 simp only [go_sem,reduceIte,zA,zB,zC,zD,zE,zF,reduceCtorEq]
 refine cW (Ij s hs a e ha) ?_
 rintro _ _ ⟨rfl, rfl⟩
 simp only [go_sem,reduceIte,zA,zB,zC,zD,zE,zF,reduceCtorEq]
 exact hK _ _ ⟨rfl, rfl⟩
theorem Fx (s : ByteArray) (hs : s.size ≤ 1073741824) (ft : Int) (a : Nat) (e : Int) (ha : a ≤ s.size) : ∃ r_ m_, (fun r m => r = num (rq ft s a e).1 ∧ m = [.box [str s, num (rq ft s a e).2.1, num (rq ft s a e).2.2]]) r_ m_ ∧ aR Tryz.prog 67 [.ptr 0 0, num ft] ([.box [str s, num a, num e]]) r_ m_ := by
 refine Ge tt_ok [] 8 [.tmp 4] (1) (by simp) (fn := Tryz.f67) Tryz.func67 rfl Tryz.call67 ⟨rfl, rfl, by simp⟩ fun K hK => ?_
 simp only [go_sem,reduceIte,zA,zB,zC,zD,zE,zF,reduceCtorEq]
 refine cW (Ik s hs ft a e ha) ?_
 rintro _ _ ⟨rfl, rfl⟩
 simp only [go_sem,reduceIte,zA,zB,zC,zD,zE,zF,reduceCtorEq]
 exact hK _ _ ⟨rfl, rfl⟩
theorem l7 (s : ByteArray) (hs : s.size ≤ 1073741824) (a : Nat) (e : Int) (ha : a ≤ s.size) (M : List aw) (k : Nat) (hk : M[k]? = some (.box [str s, num a, num e])) :
  ∃ r_ m_, (fun r m => r = str (l6 s a e).1 ∧ m = M.set k (.box [str s, num (l6 s a e).2.1, num (l6 s a e).2.2])) r_ m_ ∧ aR Tryz.prog 64 [.ptr k 0] M r_ m_ := by
 obtain ⟨r, m, ⟨rfl, rfl⟩, h⟩ := Im s hs a e ha
 have h3 := iw h M k (by simp [ai]) (by simp [az, ai]) (by simp [ai]) (by simp [az, ai]) (fun σ => by simp [cq, ca, bt]) (fun σ => by simp [cq, ca, bt]) hk
 exact ⟨_, _, ⟨rfl, rfl⟩, by simpa [ca, bt] using h3⟩
theorem tM (s : ByteArray) (hs : s.size ≤ 1073741824) (a : Nat) (e : Int) (ha : a ≤ s.size) (M : List aw) (k : Nat) (hk : M[k]? = some (.box [str s, num a, num e])) :
  ∃ r_ m_, (fun r m => r = num (lj s a e).1 ∧ m = M.set k (.box [str s, num (lj s a e).2.1, num (lj s a e).2.2])) r_ m_ ∧ aR Tryz.prog 66 [.ptr k 0] M r_ m_ := by
 obtain ⟨r, m, ⟨rfl, rfl⟩, h⟩ := Io s hs a e ha
 have h3 := iw h M k (by simp [ai]) (by simp [az, ai]) (by simp [ai]) (by simp [az, ai]) (fun σ => by simp [cq, ca, bt]) (fun σ => by simp [cq, ca, bt]) hk
 exact ⟨_, _, ⟨rfl, rfl⟩, by simpa [ca, bt] using h3⟩
theorem tN (s : ByteArray) (hs : s.size ≤ 1073741824) (a : Nat) (e : Int) (ha : a ≤ s.size) (k : Nat) :
  ∃ r_ B, (fun r B => r = num (lj s a e).1 ∧ B = .box [str s, num (lj s a e).2.1, num (lj s a e).2.2]) r_ B ∧ B.aC = 0 ∧ ∀ M : List aw, M[k]? = some (.box [str s, num a, num e]) → aR Tryz.prog 66 [.ptr k 0] M r_ (M.set k B) :=
 ⟨_, _, ⟨rfl, rfl⟩, rfl, fun M hk => by obtain ⟨r, m, ⟨rfl, rfl⟩, h⟩ := tM s hs a e ha M k hk; exact h⟩
theorem qp (s : ByteArray) (hs : s.size ≤ 1073741824) (ft : Int) (a : Nat) (e : Int) (ha : a ≤ s.size) (M : List aw) (k : Nat) (hk : M[k]? = some (.box [str s, num a, num e])) :
  ∃ r_ m_, (fun r m => r = num (rq ft s a e).1 ∧ m = M.set k (.box [str s, num (rq ft s a e).2.1, num (rq ft s a e).2.2])) r_ m_ ∧ aR Tryz.prog 67 [.ptr k 0, num ft] M r_ m_ := by
 obtain ⟨r, m, ⟨rfl, rfl⟩, h⟩ := Fx s hs ft a e ha
 have h3 := iw h M k (by simp [ai]) (by simp [az, ai]) (by simp [ai]) (by simp [az, ai]) (fun σ => by simp [cq, ca, bt]) (fun σ => by simp [cq, ca, bt]) hk
 exact ⟨_, _, ⟨rfl, rfl⟩, by simpa [ca, bt] using h3⟩
theorem Fy (s : ByteArray) (hs : s.size ≤ 1073741824) (a : Nat) (e : Int) : ∃ r_, (fun w => w = num e) r_ ∧ aR Tryz.prog 68 [.ptr 0 0] ([.box [str s, num a, num e]]) r_ ([.box [str s, num a, num e]]) := by
 refine Gf tt_ok [] 7 [.tmp 2] (fn := Tryz.f68) Tryz.func68 rfl Tryz.call68 ⟨rfl, rfl, by simp⟩ fun K hK => ?_
 simp only [go_sem,reduceIte,zA,zB,zC,zD,zE,zF,reduceCtorEq]
 exact hK _ _ ⟨rfl, rfl⟩
theorem Lz (s : ByteArray) (hs : s.size ≤ 1073741824) (a : Nat) (e : Int) : ∃ r_, (fun w => w = num (qo s a e)) r_ ∧ aR Tryz.prog 69 [.ptr 0 0] ([.box [str s, num a, num e]]) r_ ([.box [str s, num a, num e]]) := by
 refine Gf tt_ok [] 24 [.tmp 2] (fn := Tryz.f69) Tryz.func69 rfl Tryz.call69 ⟨rfl, rfl, by simp⟩ fun K hK => ?_
 have fu : Tryz.prog.underlying 9 = some .string := by kernel_rfl
 have sl : ∀ (a : ByteArray) (ty : TypeId), cH Tryz.prog (Builtin.len_ #[9] ty) [.sc (.string a)] = some (num a.size) := fun a ty => ck (P := Tryz.prog) (tt := tt) (T := 9) a fu ty
 simp only [sl,go_sem,reduceIte,zA,zB,zC,zD,zE,zF,reduceCtorEq]
 refine bI tt_ok aK [⟨.n, 0, [], [], []⟩, ⟨.n, 0, [], [], []⟩, ⟨.n, 0, [], [], []⟩, ⟨.r, 0, [], [], []⟩, ⟨.n, 0, [], [], []⟩, ⟨.n, 0, [], [], []⟩, ⟨.n, 0, [], [], []⟩, ⟨.n, 0, [], [], []⟩, ⟨.n, 0, [], [], []⟩, ⟨.r, 0, [], [], []⟩, ⟨.n, 0, [], [], []⟩, ⟨.n, 0, [], [], []⟩, ⟨.n, 0, [], [], []⟩, ⟨.r, 0, [], [], []⟩, ⟨.n, 0, [], [], []⟩, ⟨.n, 0, [], [], []⟩, ⟨.n, 0, [], [], []⟩] 0 (by kernel_rfl) ?_
 simp only [sl,go_sem,reduceIte,zA,zB,zC,zD,zE,zF,reduceCtorEq]
 refine aM (fun zW => ?_) (fun zW => ?_)
 ·have he : e = 0 := by simpa using zW
  simp only [sl,go_sem,reduceIte,zA,zB,zC,zD,zE,zF,reduceCtorEq]
  refine aM (fun tu => ?_) (fun tu => ?_)
  ·have hR : (9 : Int) = qo s a e := by unfold qo; rw [if_pos ⟨he, by have := of_decide_eq_true tu; omega⟩]
   simp only [sl,go_sem,reduceIte,zA,zB,zC,zD,zE,zF,reduceCtorEq]
   exact hK _ _ ⟨congrArg num hR, rfl⟩
  ·have hR : e = qo s a e := by first | exact hR | (unfold qo; rw [if_neg (fun h => by have := of_decide_eq_false tu; omega)])
   simp only [sl,go_sem,reduceIte,zA,zB,zC,zD,zE,zF,reduceCtorEq]
   exact hK _ _ ⟨congrArg num hR, rfl⟩
 ·have he : ¬ e = 0 := by simpa using zW
  have hR : e = qo s a e := by unfold qo; rw [if_neg (by simp [he])]
  simp only [sl,go_sem,reduceIte,zA,zB,zC,zD,zE,zF,reduceCtorEq]
  exact hK _ _ ⟨congrArg num hR, rfl⟩
theorem xv (s : ByteArray) : ∃ r_ m_, (fun r m => r = .ptr 0 0 ∧ m = [.box [str s, num (0 : Nat), num 0]]) r_ m_ ∧ aR Tryz.prog 63 [str s] ([]) r_ m_ := by
 refine Ge tt_ok [] 6 [.tmp 2] (1) (by decide) (fn := Tryz.f63) Tryz.func63 rfl Tryz.call63 ⟨rfl, rfl, by simp⟩ fun K hK => ?_
 simp only [go_sem,reduceIte,zA,zB,zC,zD,zE,zF,reduceCtorEq]
 exact hK _ _ ⟨rfl, rfl⟩
theorem Fz (s : ByteArray) (hs : s.size ≤ 1073741824) (a : Nat) (e : Int) (M : List aw) (k : Nat) (hk : M[k]? = some (.box [str s, num a, num e])) : ∃ r_, (fun w => w = num e) r_ ∧ aR Tryz.prog 68 [.ptr k 0] M r_ M := by
 obtain ⟨r, rfl, h⟩ := Fy s hs a e
 have h3 := iw h M k (by simp [ai]) (by simp [az, ai]) (by simp [ai]) (by simp [az, ai]) (fun σ => by simp [cq, ca, bt]) (fun σ => by simp [cq, ca, bt]) hk
 rw [eY hk] at h3
 exact ⟨_, rfl, by simpa [ca, bt] using h3⟩
theorem LA (s : ByteArray) (hs : s.size ≤ 1073741824) (a : Nat) (e : Int) (M : List aw) (k : Nat) (hk : M[k]? = some (.box [str s, num a, num e])) : ∃ r_, (fun w => w = num (qo s a e)) r_ ∧ aR Tryz.prog 69 [.ptr k 0] M r_ M := by
 obtain ⟨r, rfl, h⟩ := Lz s hs a e
 have h3 := iw h M k (by simp [ai]) (by simp [az, ai]) (by simp [ai]) (by simp [az, ai]) (fun σ => by simp [cq, ca, bt]) (fun σ => by simp [cq, ca, bt]) hk
 rw [eY hk] at h3
 exact ⟨_, rfl, by simpa [ca, bt] using h3⟩
theorem xw (s : ByteArray) (M : List aw) : ∃ r_ m_, (fun r m => r = .ptr M.length 0 ∧ m = M ++ [.box [str s, num (0 : Nat), num 0]]) r_ m_ ∧ aR Tryz.prog 63 [str s] M r_ m_ := by
 obtain ⟨r, m, ⟨rfl, rfl⟩, h⟩ := xv s
 have h2 := h.zf M (fun j => M.length + j) 0 rfl (by simp [ai]) rfl (by simp [ai]) (by simp [az, ai]) (Nat.zero_le _) (fun i B hi => by simp at hi) (fun i j hi => by omega) (fun j _ => by omega)
 refine ⟨_, _, ⟨rfl, rfl⟩, ?_⟩
 simpa [ca, bt, cq, mZ, gj] using h2
end Go.Proofs.YtnfeacnbgbggfaaGreatDoor
end

section
namespace Go.Proofs.YtnfeacnbgbggfaaGreatDoor
open Go.Eng
open Nat renaming reduceAdd → zA, reduceLT → zB, reduceLeDiff → zC, reduceMul → zD, reduceEqDiff → zE, reduceSub → zF
variable [aH]
set_option maxHeartbeats 4000000
set_option maxRecDepth 100000
theorem vM (hG : aH.g = some 0) (l : List Rl) (hb : ux l) (rows : List V) : ∃ r_, (fun w => w = num (eH l)) r_ ∧ aO Tryz.prog 22 [.agg [aV l, .slice rows]] r_ := tI hG l rows hb
theorem Cw (r : Rl) : eH [r] = gH r := by
 unfold eH
 rw [if_neg (by simp)]
 unfold dS
 split
 ·rfl
 ·rename_i h; have h0 : gH r = 0 := by simpa using h
  simp [dS, h0]
theorem FA {P : bB → Prop} (hP : ∀ y z : bB, P y → P z → P ⟨y.lo, max y.hi z.hi⟩) {o : List bB} {x : bB} (ho : ∀ y ∈ o, P y) (hx : P x) : ∀ y ∈ dm o x, P y := by
 intro y hy
 unfold dm at hy
 split at hy
 ·rename_i z hz
  have hzm := List.mem_of_getLast? hz
  split at hy
  ·rcases List.mem_append.1 hy with h | h
   ·exact ho y (List.dropLast_subset _ h)
   ·rw [List.mem_singleton] at h; subst h; exact hP z x (ho z hzm) hx
  ·rcases List.mem_append.1 hy with h | h
   ·exact ho y h
   ·rw [List.mem_singleton] at h; subst h; exact hx
 ·rw [List.mem_singleton] at hy; subst hy; exact hx
def nZ (x : bB) : Prop := 0 ≤ x.lo ∧ x.lo < x.hi ∧ x.hi ≤ 1000000
theorem FB (s : List bB) : ∀ x ∈ canon s, nZ x := by
 have h1 : ∀ (l o : List bB), (∀ y ∈ l, nZ y) → (∀ y ∈ o, nZ y) → ∀ y ∈ l.foldl dm o, nZ y := by
  intro l
  induction l with
  | nil => intro o _ ho; exact ho
  | cons a t ih =>
   intro o hl ho
   rw [List.foldl_cons]
   exact ih _ (fun y hy => hl y (by simp [hy])) (FA (fun y z hy hz => by unfold nZ at *; dsimp only; omega) ho (hl a (by simp)))
 unfold canon merge
 refine h1 _ _ (fun y hy => ?_) (fun y hy => by simp at hy)
 have h2 := (kJ (clip s) [] List.Pairwise.nil).2.subset hy
 exact xi y (by simpa using h2)
def Rr (q : Rq) : Prop := bD q.path = 0 ∧ q.set = canon q.set ∧ q.set ≠ []
structure U5 (r : Rl) : Prop where
 path : bD r.path = 0
 mj : r.aC.mj = bO r.path
 aC : r.aC.ok = true
 len : r.reqs.length ≤ 16
 ar : jJ r.ar = true
 gq : jJ r.gq = true
 ce : jJ r.ce = true
 reqs : ∀ q ∈ r.reqs, Rr q
theorem TO {c : Prop} [Decidable c] (h : (if c then (1 : Int) else 0) = 0) : ¬ c := fun hc => by rw [if_pos hc] at h; cases h
theorem vN : ∀ (l : List Rq) (b : Option Rq), eQ b l = 0 → ∀ q ∈ l, Rr q
 | [], b, _, q, hq => by simp at hq
 | a :: t, b, h, q, hq => by
  rw [eQ] at h
  split at h
  ·rename_i h1; exact absurd h h1
  ·rename_i h1
   rcases List.mem_cons.1 hq with rfl | hq
   ·have h2 : mK q b = 0 := by simpa using h1
    unfold mK at h2
    split at h2
    ·omega
    ·rename_i h3
     have h4 := TO h2
     simp only [Bool.or_eq_true,not_or,decide_eq_true_eq,Bool.not_eq_true',decide_eq_false_iff_not,Classical.not_not] at h4
     exact ⟨by simpa using h3, h4.1.2, fun e => h4.1.1 (by rw [e]; rfl)⟩
   ·exact vN t _ h q hq
theorem Ip {r : Rl} (h : gH r = 0) : U5 r := by
 unfold gH at h
 split at h
 ·omega
 ·rename_i h1
  split at h
  ·omega
  ·rename_i h2
   split at h
   ·rename_i h3; exact absurd h h3
   ·rename_i h3
    split at h
    ·rename_i h4
     have Q7 : fq r.reqs = 0 := by simpa using h3
     unfold fq at Q7
     split at Q7
     ·omega
     ·rename_i h5
      simp only [Bool.or_eq_true,not_or,Bool.not_eq_true',Bool.not_eq_false,decide_eq_true_eq] at h2
      simp only [Bool.and_eq_true] at h4
      exact ⟨by simpa using h1, by simpa using h2.2, h2.1, by omega, h4.1, h4.2.1, h4.2.2, vN _ _ Q7⟩
    ·omega
theorem fM {s : ByteArray} (h : jJ s = true) : s.size ≤ 32 := by
 unfold jJ at h
 simp only [Bool.or_eq_true,decide_eq_true_eq] at h
 omega
theorem sd {v : da} (h : v.ok = true) : (0 ≤ v.mj ∧ v.mj ≤ 999) ∧ (0 ≤ v.mn ∧ v.mn ≤ 999) ∧ 0 ≤ v.pt ∧ v.pt ≤ 999 := by
 unfold da.ok gu at h
 simp only [Bool.and_eq_true,decide_eq_true_eq] at h
 omega
def FD (x : bB) : List UInt8 := nc x.lo ++ nc x.hi
def vO (q : Rq) : List UInt8 := (eT q.path ++ nc (q.set.length : Int)) ++ q.set.flatMap FD
def xS (r : Rl) : Int := if r.yk = true then 1 else 0
def Gh (r : Rl) : List UInt8 := ((eT r.path ++ (nc r.aC.mn ++ (nc r.aC.pt ++ nc (xS r)))) ++ (eT r.ar ++ (eT r.gq ++ eT r.ce))) ++ nc (r.reqs.length : Int)
def qq (r : Rl) : List UInt8 := Gh r ++ r.reqs.flatMap vO
def FE (r : Rl) : V := if eH [r] = 0 then .bN [str (bs (qq r)), num 0] else .bN [str (bs []), num (eH [r])]
theorem n4 (r : Rl) : 0 ≤ xS r ∧ xS r ≤ 1 := by unfold xS; split <;> omega
theorem LB {x : bB} (h : nZ x) : (FD x).length ≤ 20 := by
 have h1 := dw (n := x.lo) (by unfold nZ at h; omega) (by unfold nZ at h; omega)
 have h2 := dw (n := x.hi) (by unfold nZ at h; omega) (by unfold nZ at h; omega)
 unfold FD
 simp only [List.length_append]; omega
theorem kQ {q : Rq} (h : Rr q) : ∀ x ∈ q.set, nZ x := by
 rw [h.2.1]; exact FB _
theorem xx {l : List bB} (h : ∀ x ∈ l, nZ x) : (l.flatMap FD).length ≤ 20 * l.length := fL fun x hx => LB (h x hx)
theorem LC {q : Rq} (h : Rr q) (hb : xm q) : (vO q).length ≤ 22020190 := by
 have h1 := xx (kQ h)
 have h2 := dw (n := (q.set.length : Int)) (by omega) (by have := hb.2; omega)
 have h3 := kP q.path hb.1
 have h4 := hb.2
 unfold vO
 simp only [List.length_append]
 omega
theorem LD {r : Rl} (h : U5 r) (hb : Cm r) : (Gh r).length ≤ 8388608 := by
 have h1 := kP r.path hb.1
 have h2 := kP r.ar (by have := fM h.ar; omega)
 have h3 := kP r.gq (by have := fM h.gq; omega)
 have h4 := kP r.ce (by have := fM h.ce; omega)
 have hv := sd h.aC
 have h5 := dw (n := r.aC.mn) (by omega) (by omega)
 have h6 := dw (n := r.aC.pt) (by omega) (by omega)
 have h7 := dw (n := xS r) (by have := n4 r; omega) (by have := n4 r; omega)
 have h8 := dw (n := (r.reqs.length : Int)) (by omega) (by have := h.len; omega)
 unfold Gh
 simp only [List.length_append]
 omega
theorem Iq {r : Rl} (h : U5 r) (hb : Cm r) (i : Nat) : ((r.reqs.take i).flatMap vO).length ≤ 352323040 := by
 have h1 := fL (g := vO) (l := r.reqs.take i) (k := 22020190) fun q hq => LC (h.reqs q (List.mem_of_mem_take hq)) (hb.2.2 q (List.mem_of_mem_take hq))
 have h2 := h.len
 rw [List.length_take] at h1
 have : min i r.reqs.length ≤ 16 := by omega
 have := Nat.mul_le_mul_left 22020190 this
 omega
theorem zX (hG : aH.g = some 0) (r : Rl) (hb : Cm r) : ∃ r_, (fun w => w = FE r) r_ ∧ aO Tryz.prog 17 [ag r] r_ := by
 refine ef tt_ok [30000] 89 [.tmp 2, .tmp 3] (fn := Tryz.f17) Tryz.func17 rfl Tryz.call17 ⟨rfl, rfl, by simp⟩ fun K hK => ?_
 simp only [ag,af,ah]
 have Qa := Cw r
 have Qb : ux [r] := ⟨by simp, fun x hx => by rw [List.mem_singleton] at hx; exact hx ▸ hb⟩
 have bd : ∀ (mem : List aw) (ks : List (Nat × Nat)) (n : Int), cp mem ks (num n) = mem := fun _ _ _ => rfl
 simp only [List.length_map,bd,List.flatMap_nil,List.append_nil,go_sem,reduceIte,zA,zB,zC,zD,zE,zF,reduceCtorEq]
 refine sq tt_ok [30000] ?_
 simp only [List.length_map,bd,List.flatMap_nil,List.append_nil,go_sem,reduceIte,zA,zB,zC,zD,zE,zF,reduceCtorEq]
 refine cF (by have h := vM hG [r] Qb []; simp only [aV,List.map_cons,List.map_nil,ag,af,ah] at h; exact h) ?_
 rintro _ rfl
 simp only [List.length_map,bd,List.flatMap_nil,List.append_nil,go_sem,reduceIte,zA,zB,zC,zD,zE,zF,reduceCtorEq]
 refine aM (fun pg => ?_) (fun pg => ?_)
 ·have bH : eH [r] ≠ 0 := by simpa using pg
  have ay : V.bN [str ⟨#[]⟩, num (eH [r])] = FE r := by unfold FE; rw [if_neg bH]; rfl
  simp only [List.length_map,bd,List.flatMap_nil,List.append_nil,go_sem,reduceIte,zA,zB,zC,zD,zE,zF,reduceCtorEq]
  exact hK _ ay
 ·have c6 : eH [r] = 0 := by simpa using pg
  have Ny := Ip (Qa ▸ c6)
  have hv := sd Ny.aC
  have hyb := n4 r
  have hld := LD Ny hb
  have VW := Iq Ny hb
  have MG : (eT r.path).length ≤ 8388608 ∧ (nc r.aC.mn).length + ((nc r.aC.pt).length + (nc (xS r)).length) ≤ 8388608 ∧ (eT r.ar).length + ((eT r.gq).length + (eT r.ce).length) ≤ 8388608 := by
   have h := hld
   unfold Gh at h
   simp only [List.length_append] at h
   omega
  have hn3 : ∀ x ∈ [r.aC.mn, r.aC.pt, xS r], 0 ≤ x ∧ x < 9223372036854775808 := by intro x hx; simp at hx; rcases hx with rfl | rfl | rfl <;> omega
  have ht3 : ∀ x ∈ [r.ar, r.gq, r.ce], x.size ≤ 1048576 := by
   have h1 := fM Ny.ar
   have h2 := fM Ny.gq
   have h3 := fM Ny.ce
   intro x hx; simp at hx; rcases hx with rfl | rfl | rfl <;> omega
  have qH := Ny.len
  have ay : V.bN [str (bs (Gh r ++ r.reqs.flatMap vO)), num 0] = FE r := by unfold FE; rw [if_pos c6]; rfl
  simp only [List.length_map,bd,List.flatMap_nil,List.append_nil,go_sem,reduceIte,zA,zB,zC,zD,zE,zF,reduceCtorEq]
  refine cW (tL [] [r.path] (by simp) (by simp) (by simpa using hb.1) _ 2 3 rfl rfl (by decide)) ?_
  rintro _ _ ⟨rfl, rfl⟩
  try simp only [List.set_cons_zero,List.set_cons_succ]
  simp only [List.length_map,bd,List.flatMap_nil,List.append_nil,go_sem,reduceIte,zA,zB,zC,zD,zE,zF,reduceCtorEq]
  refine S5 tt_ok [30000] [8] 4 [0,1,2,3,4,5,6,7,13,14,15,16,17,18,19,20,21,22,23,24,25] (fun vs => vs = [num (xS r)]) (fun Z1 bW => ?_) ?_
  ·simp only [List.length_map,bd,List.flatMap_nil,List.append_nil,go_sem,reduceIte,zA,zB,zC,zD,zE,zF,reduceCtorEq]
   refine aM (fun PQ => ?_) (fun PQ => ?_)
   ·simp only [List.length_map,bd,List.flatMap_nil,List.append_nil,go_sem,reduceIte,zA,zB,zC,zD,zE,zF,reduceCtorEq]
    refine bW _ (S4 (by omega) (by simp only [List.length_map,bd,List.flatMap_nil,List.append_nil,go_sem,reduceIte,zA,zB,zC,zD,zE,zF,reduceCtorEq]) ?_)
    simp only [gQ,lk,reduceIte,zE]
    simp_all [xS]
   ·simp only [List.length_map,bd,List.flatMap_nil,List.append_nil,go_sem,reduceIte,zA,zB,zC,zD,zE,zF,reduceCtorEq]
    refine bW _ (S4 (by omega) (by simp only [List.length_map,bd,List.flatMap_nil,List.append_nil,go_sem,reduceIte,zA,zB,zC,zD,zE,zF,reduceCtorEq]) ?_)
    simp only [gQ,lk,reduceIte,zE]
    simp_all [xS]
  ·intro vs hJ
   obtain rfl := hJ
   simp only [List.length_map,bd,List.flatMap_nil,List.append_nil,go_sem,reduceIte,zA,zB,zC,zD,zE,zF,reduceCtorEq]
   refine cW (sb (eT r.path) [r.aC.mn, r.aC.pt, xS r] (by simp) (by (try simp only [List.length_append]); omega) hn3 _ 2 4 rfl rfl (by decide)) ?_
   rintro _ _ ⟨rfl, rfl⟩
   try simp only [List.set_cons_zero,List.set_cons_succ]
   simp only [List.length_map,bd,List.flatMap_nil,List.append_nil,go_sem,reduceIte,zA,zB,zC,zD,zE,zF,reduceCtorEq]
   refine cW (tL (eT r.path ++ (nc r.aC.mn ++ (nc r.aC.pt ++ nc (xS r)))) [r.ar, r.gq, r.ce] (by simp) (by (try simp only [List.length_append]); omega) ht3 _ 2 5 rfl rfl (by decide)) ?_
   rintro _ _ ⟨rfl, rfl⟩
   try simp only [List.set_cons_zero,List.set_cons_succ]
   simp only [List.length_map,bd,List.flatMap_nil,List.append_nil,go_sem,reduceIte,zA,zB,zC,zD,zE,zF,reduceCtorEq]
   refine cW (sb ((eT r.path ++ (nc r.aC.mn ++ (nc r.aC.pt ++ nc (xS r)))) ++ (eT r.ar ++ (eT r.gq ++ eT r.ce))) [(r.reqs.length : Int)] (by simp) (by (try simp only [List.length_append]); omega) (by simp; omega) _ 2 6 rfl rfl (by decide)) ?_
   rintro _ _ ⟨rfl, rfl⟩
   try simp only [List.set_cons_zero,List.set_cons_succ]
   simp only [List.length_map,bd,List.flatMap_nil,List.append_nil,go_sem,reduceIte,zA,zB,zC,zD,zE,zF,reduceCtorEq]
   refine sq tt_ok [30000] ?_
   simp only [List.length_map,bd,List.flatMap_nil,List.append_nil,go_sem,reduceIte,zA,zB,zC,zD,zE,zF,reduceCtorEq]
   refine cO tt_ok [30000] (fun i : Nat => [(5, .ptr 2 0), (6, .fQ (.func 55) [] [.ptr 2 0]), (7, .fQ (.func 57) [] [.ptr 2 0]), (55, .slice (r.reqs.map ao)), (56, num r.reqs.length), (57, num i)]) (fun i : Nat => [.box [str r.path, num r.aC.mj, num r.aC.mn, num r.aC.pt, .slice (r.reqs.map ao), str r.ar, str r.gq, str r.ce, bl r.yk], .rows 0 9 [.agg [str r.path, num r.aC.mj, num r.aC.mn, num r.aC.pt, .slice (r.reqs.map ao), str r.ar, str r.gq, str r.ce, bl r.yk]], .box [str (bs (Gh r ++ (r.reqs.take i).flatMap vO))], .rows 0 1 [str r.path], .rows 0 1 [num r.aC.mn, num r.aC.pt, num (xS r)], .rows 0 1 [str r.ar, str r.gq, str r.ce], .rows 0 1 [num r.reqs.length]]) (fun i => r.reqs.length - i) (fun i => i ≤ r.reqs.length) (0) 7 (bm (by omega) (by simp only [List.length_map,bd,List.flatMap_nil,List.append_nil,List.take_zero,List.flatMap_nil,List.append_nil,Int.cast_ofNat_Int,go_sem,reduceIte,zA,zB,zC,zD,zE,zF,reduceCtorEq] <;> rfl)) (Nat.zero_le _) ?_
   intro i hi
   intro Z2 qk
   simp only [List.length_map,bd,List.flatMap_nil,List.append_nil,go_sem,reduceIte,zA,zB,zC,zD,zE,zF,reduceCtorEq]
   refine aM (fun LF => ?_) (fun LF => ?_)
   ·have aD : i < r.reqs.length := by simpa using LF
    rw [LF]
    have cT : (i : Int) < (r.reqs.length : Int) := by omega
    have hw := aB i (by omega)
    obtain ⟨q, hx⟩ : ∃ q, r.reqs[i]? = some q := ⟨_, List.getElem?_eq_getElem aD⟩
    have LG := List.mem_of_getElem? hx
    have J1 := hb.2.2 q LG
    have hqw := Ny.reqs q LG
    have uo := kQ hqw
    have TI := mN vO hx
    have aav := VW i
    have hlp := kP q.path J1.1
    have RS := J1.2
    have hls := dw (n := (q.set.length : Int)) (by omega) (by omega)
    simp only [hw,List.getElem?_map,hx,Option.map_some,ao,ak,cT,Int.natCast_nonneg,List.length_map,bd,List.flatMap_nil,List.append_nil,go_sem,reduceIte,zA,zB,zC,zD,zE,zF,reduceCtorEq]
    refine cW (tL (Gh r ++ (r.reqs.take i).flatMap vO) [q.path] (by simp) (by rw [List.length_append]; omega) (by simpa using J1.1) _ 2 8 rfl rfl (by decide)) ?_
    rintro _ _ ⟨rfl, rfl⟩
    try simp only [List.set_cons_zero,List.set_cons_succ]
    simp only [hw,List.getElem?_map,hx,Option.map_some,ao,ak,cT,Int.natCast_nonneg,List.length_map,bd,List.flatMap_nil,List.append_nil,go_sem,reduceIte,zA,zB,zC,zD,zE,zF,reduceCtorEq]
    refine cW (sb ((Gh r ++ (r.reqs.take i).flatMap vO) ++ eT q.path) [(q.set.length : Int)] (by simp) (by (try simp only [List.length_append]); omega) (by simp; omega) _ 2 9 rfl rfl (by decide)) ?_
    rintro _ _ ⟨rfl, rfl⟩
    try simp only [List.set_cons_zero,List.set_cons_succ]
    simp only [hw,List.getElem?_map,hx,Option.map_some,ao,ak,cT,Int.natCast_nonneg,List.length_map,bd,List.flatMap_nil,List.append_nil,go_sem,reduceIte,zA,zB,zC,zD,zE,zF,reduceCtorEq]
    refine cO tt_ok [30000] (fun j : Nat => [(5, .ptr 2 0), (6, .fQ (.func 55) [] [.ptr 2 0]), (7, .fQ (.func 57) [] [.ptr 2 0]), (55, .slice (r.reqs.map ao)), (56, num r.reqs.length), (57, num i), (73, .slice (q.set.map aj)), (74, num q.set.length), (75, num j)]) (fun j : Nat => [.box [str r.path, num r.aC.mj, num r.aC.mn, num r.aC.pt, .slice (r.reqs.map ao), str r.ar, str r.gq, str r.ce, bl r.yk], .rows 0 9 [.agg [str r.path, num r.aC.mj, num r.aC.mn, num r.aC.pt, .slice (r.reqs.map ao), str r.ar, str r.gq, str r.ce, bl r.yk]], .box [str (bs ((((Gh r ++ (r.reqs.take i).flatMap vO) ++ eT q.path) ++ nc (q.set.length : Int)) ++ (q.set.take j).flatMap FD))], .rows 0 1 [str r.path], .rows 0 1 [num r.aC.mn, num r.aC.pt, num (xS r)], .rows 0 1 [str r.ar, str r.gq, str r.ce], .rows 0 1 [num r.reqs.length], .box [str q.path, .slice (q.set.map aj)], .rows 0 1 [str q.path], .rows 0 1 [num q.set.length]]) (fun j => q.set.length - j) (fun j => j ≤ q.set.length) (0) 10 (bm (by omega) (by simp only [hw,List.getElem?_map,hx,Option.map_some,ao,ak,cT,Int.natCast_nonneg,List.length_map,bd,List.flatMap_nil,List.append_nil,List.take_zero,List.flatMap_nil,List.append_nil,Int.cast_ofNat_Int,go_sem,reduceIte,zA,zB,zC,zD,zE,zF,reduceCtorEq] <;> rfl)) (Nat.zero_le _) ?_
    intro j hj
    intro Z3 FF
    simp only [hw,List.getElem?_map,hx,Option.map_some,ao,ak,cT,Int.natCast_nonneg,List.length_map,bd,List.flatMap_nil,List.append_nil,go_sem,reduceIte,zA,zB,zC,zD,zE,zF,reduceCtorEq]
    refine aM (fun LH => ?_) (fun LH => ?_)
    ·have Ft : j < q.set.length := by simpa using LH
     rw [LH]
     have TP : (j : Int) < (q.set.length : Int) := by omega
     have EF := aB j (by omega)
     obtain ⟨x, U6⟩ : ∃ x, q.set[j]? = some x := ⟨_, List.getElem?_eq_getElem Ft⟩
     have JT := uo x (List.mem_of_getElem? U6)
     have Xf := mN FD U6
     have xQ : ∀ y ∈ [x.lo, x.hi], 0 ≤ y ∧ y < 9223372036854775808 := by unfold nZ at JT; intro y hy; simp at hy; rcases hy with rfl | rfl <;> omega
     have hlj := xx (l := q.set.take j) fun y hy => uo y (List.mem_of_mem_take hy)
     rw [List.length_take] at hlj
     simp only [hw,List.getElem?_map,hx,Option.map_some,ao,ak,cT,Int.natCast_nonneg,EF,List.getElem?_map,U6,Option.map_some,aj,TP,Int.natCast_nonneg,List.length_map,bd,List.flatMap_nil,List.append_nil,go_sem,reduceIte,zA,zB,zC,zD,zE,zF,reduceCtorEq]
     refine cW (sb ((((Gh r ++ (r.reqs.take i).flatMap vO) ++ eT q.path) ++ nc (q.set.length : Int)) ++ (q.set.take j).flatMap FD) [x.lo, x.hi] (by simp) (by (try simp only [List.length_append]); omega) xQ _ 2 11 rfl rfl (by decide)) ?_
     rintro _ _ ⟨rfl, rfl⟩
     try simp only [List.set_cons_zero,List.set_cons_succ]
     simp only [hw,List.getElem?_map,hx,Option.map_some,ao,ak,cT,Int.natCast_nonneg,EF,List.getElem?_map,U6,Option.map_some,aj,TP,Int.natCast_nonneg,List.length_map,bd,List.flatMap_nil,List.append_nil,go_sem,reduceIte,zA,zB,zC,zD,zE,zF,reduceCtorEq]
     refine FF _ ⟨j + 1, ?_, ?_, bm (by omega) (by (simp only [Xf,EF,FD,List.append_assoc,go_sem,reduceIte,zA,zB,zC,zD,zE,zF,reduceCtorEq]))⟩
     ·exact Ft
     ·omega
    ·have TQ : ¬ j < q.set.length := by simpa using LH
     have qD : j = q.set.length := by omega
     subst qD
     rw [List.take_length]
     simp only [hw,List.getElem?_map,hx,Option.map_some,ao,ak,cT,Int.natCast_nonneg,List.length_map,bd,List.flatMap_nil,List.append_nil,go_sem,reduceIte,zA,zB,zC,zD,zE,zF,reduceCtorEq]
     refine qk _ ⟨i + 1, ?_, ?_, bm (by omega) (by (simp only [TI,hw,vO,List.append_assoc,go_sem,reduceIte,zA,zB,zC,zD,zE,zF,reduceCtorEq]))⟩
     ·exact aD
     ·omega
   ·have c5 : ¬ i < r.reqs.length := by simpa using LF
    have rD : i = r.reqs.length := by omega
    subst rD
    rw [List.take_length]
    simp only [List.length_map,bd,List.flatMap_nil,List.append_nil,go_sem,reduceIte,zA,zB,zC,zD,zE,zF,reduceCtorEq]
    exact hK _ ay
end Go.Proofs.YtnfeacnbgbggfaaGreatDoor
end
