/-
  CONTRACTS: slices.SortFunc at clipped spans.
  CONTRACTS: Canonical.
  CONTRACTS: the checks of requirements.
  CONTRACTS: requirements, releases, indices.
  READINGS of chapter 32's data.
  CONTRACTS: the bytes of numbers and strings.
  CONTRACTS: the closures of Manifest.
  CONTRACTS: the reader.
  CONTRACTS: numbers and strings read.
  CONTRACTS: the methods of a reader.
  CONTRACTS: Manifest.
-/
import Derived.Test.YtnfeacnbgbggfaaGreatDoorY4
set_option linter.all false
section
namespace Go.Proofs.YtnfeacnbgbggfaaGreatDoor
open Go.Eng
open Go.Sort (SWO grow flatK HoldsK PermIn SortedIn)
variable [aG]
theorem vf (d : Array QS) (i j : Nat) (hi : i < d.size) (hj : j < 2) : (flatK nK 2 d)[i * 2 + j]! = (nK d[i]!)[j]! := by
 rw [Go.Sort.get_flatK _ _ _ _ (by omega)]
 rw [show (i * 2 + j) / 2 = i by omega, show (i * 2 + j) % 2 = j by omega]
theorem XX : ∀ l : List bG, (∀ x ∈ l, 0 ≤ x.lo ∧ x.lo ≤ 1000000) → ∃ d : List QS, d.map Subtype.val = l
 | [], _ => ⟨[], rfl⟩
 | x :: r, h => by
  obtain ⟨d, hd⟩ := XX r fun y hy => h y (by simp [hy])
  exact ⟨⟨x, h x (by simp)⟩ :: d, by simp [hd]⟩
theorem Bt (m : List ay) (b v : Nat) (l : List bG) (hb : m[b]? = some (.rows v 2 (l.map aj))) (h0 : 0 < l.length) (hl : l.length ≤ 1048576) (hC : ∀ x ∈ l, 0 ≤ x.lo ∧ x.lo ≤ 1000000) :
  gH Tryz.prog 118 [.ms b v 0 l.length, .sc (.func (.func 119) #[] #[])] m fun r m' => r = .sc (.tuple #[]) ∧ ∃ l' : List bG, l'.Perm l ∧ fU l' ∧ m' = m.set b (.rows v 2 (l'.map aj)) := by
 refine ⟨Tryz.call118, fun E w xs hs hx => ?_⟩
 obtain ⟨x, ys, nt, hr, u6⟩ := hx.of_cons
 obtain ⟨f, zs, Ww, xv, hz⟩ := u6.of_cons
 have Jz := hz.of_nil
 subst Jz
 have hf := b9 xv
 subst hf
 obtain rfl : xs = #[x, .func (.func 119) #[] #[]] := by rw [← Array.toArray_toList (xs := xs), nt, Ww]
 rcases hs.mem b _ hb with ⟨Jv, -⟩ | ⟨gb, T, cs, c, hblk, hh, tV, QA, fm, hF⟩
 ·rw [List.map_eq_nil_iff] at Jv; subst Jv; simp at h0
 rw [List.length_map] at QA
 obtain ⟨cap, rfl⟩ : ∃ cap, x = .slice (some ⟨gb, 0, none⟩) l.length cap := by
  clear u6 hx nt fm hl
  generalize l.length = nl at hr h0 QA ⊢
  cases hr with
  | ms _ _ _ _ _ g' e' c' a cap eP Nk WD L9 =>
   rw [hblk] at eP; cases eP
   obtain ⟨rfl, -⟩ := WD rfl
   exact ⟨cap, rfl⟩
  | df => exact absurd h0 (Nat.lt_irrefl _)
 obtain ⟨dl, FA⟩ := XX l hC
 have lq : ∀ (i : Nat) (u : bG), l[i]? = some u → cs[i * 2]? = some (.int .i64 u.lo) ∧ cs[i * 2 + 1]? = some (.int .i64 u.hi) := fun i u hu => by
  obtain ⟨-, h2⟩ := fm i (aj u) (by rw [List.getElem?_map, hu]; rfl)
  constructor
  ·obtain ⟨y, hy, -, DQ⟩ := h2 0 (num u.lo) rfl
   rw [b9 DQ] at hy; exact hy
  ·obtain ⟨y, hy, -, DQ⟩ := h2 1 (num u.hi) rfl
   rw [b9 DQ] at hy; exact hy
 have XY : gb < w.heap.size := (Array.getElem?_eq_some_iff.1 hh).1
 have zd : dl.length = l.length := by rw [← FA, List.length_map]
 have eS : ∀ i, i < l.length → l[i]? = some (dl.toArray[i]!).1 := fun i hi => by
  have T8 : i < dl.length := by omega
  have e : l[i]? = some (dl[i]).1 := by
   have := congrArg (fun q : List bG => q[i]?) FA
   simp only [List.getElem?_map,List.getElem?_eq_getElem T8,Option.map_some] at this
   exact this.symm
  rw [e, getElem!_pos dl.toArray i (by simpa using T8)]
  simp
 have hH : HoldsK nK 2 w gb 0 dl.toArray := fun t ht => by
  have ht' : t < l.length * 2 := by simpa [zd] using ht
  obtain ⟨i, j, hi, hj, rfl⟩ : ∃ i j, i < l.length ∧ j < 2 ∧ t = i * 2 + j := ⟨t / 2, t % 2, by omega, by omega, by omega⟩
  have hc := lq i _ (eS i hi)
  refine ⟨?_, by simp [World.frozen?, hh]⟩
  rw [iW hh, Nat.zero_add, vf _ _ _ (by simpa [zd] using hi) hj]
  obtain rfl | rfl : j = 0 ∨ j = 1 := by omega
  ·exact hc.1
  ·exact hc.2
 have call := KI gb 0 cap dl.toArray w hH XY (by simp; omega)
 have e1 : dl.toArray.size = l.length := by rw [List.size_toArray, zd]
 rw [e1] at call
 refine call.mono ?_
 rintro e w' ⟨rfl, d', n, os, hp, WE, rfl⟩
 have uH : d'.size = l.length := by rw [hp.1]; simp [zd]
 have om : (sortWorldK nK 2 w gb 0 n d' os).heap[gb]? = some (.cells (Go.Sort.putCells id 0 (flatK nK 2 d') cs) T (0, 0)) := by
  show (_ ++ os)[gb]? = _
  rw [Array.getElem?_append_left (by simpa [Go.Sort.putRowK] using XY)]
  show ((w.heap.modify gb _))[gb]? = _
  rw [Array.getElem?_modify, if_pos rfl, hh]; rfl
 obtain ⟨h1, h2⟩ := hs.Wl (w' := sortWorldK nK 2 w gb 0 n d' os) (rs' := (d'.toList.map Subtype.val).map aj) hb hblk hF rfl rfl rfl (by
   show _ ≤ (_ ++ os).size
   rw [Array.size_append]
   show _ ≤ (w.heap.modify gb _).size + _
   rw [Array.size_modify]; omega) om (fun k hk bO => by
   show (_ ++ os)[k]? = _
   rw [Array.getElem?_append_left (by simpa [Go.Sort.putRowK] using hk)]
   show ((w.heap.modify gb _))[k]? = _
   rw [Array.getElem?_modify, if_neg (fun e => bO e.symm)]) (by simp [Go.Sort.putCells, tV]) (by simp [uH]; exact QA) (fun i row hi => by
   rw [List.map_map, List.getElem?_map, Option.map_eq_some_iff] at hi
   obtain ⟨u, hu, rfl⟩ := hi
   have hid : i < d'.size := by simpa using (List.getElem?_eq_some_iff.1 hu).1
   have Zw : d'[i]! = u := by
    rw [getElem!_pos d' i hid]
    have := (List.getElem?_eq_some_iff.1 hu).2
    simpa using this
   have key : ∀ j, j < 2 → (Go.Sort.putCells id 0 (flatK nK 2 d') cs)[i * 2 + j]? = some ((nK u)[j]!) := fun j hj => by
    have aB : i * 2 + j < cs.size := by rw [tV]; omega
    unfold Go.Sort.putCells
    rw [Array.getElem?_mapIdx, Array.getElem?_eq_getElem aB, Option.map_some, if_pos ⟨Nat.zero_le _, by simp; omega⟩]
    simp only [id,Nat.sub_zero]
    rw [vf _ _ _ hid hj, Zw]
   refine ⟨rfl, fun j cc hj => ?_⟩
   match j, hj with
   | 0, hj => cases hj; exact ⟨.int .i64 u.1.lo, by simpa [nK] using key 0 (by omega), rfl, .sc _ _⟩
   | 1, hj => cases hj; exact ⟨.int .i64 u.1.hi, by simpa [nK] using key 1 (by omega), rfl, .sc _ _⟩
   | j + 2, hj => simp [aj, V.cells] at hj)
 refine ⟨E, _, _, _, rfl, ⟨rfl, d'.toList.map Subtype.val, ?_, ?_, rfl⟩, h2, h1, .sc _ _⟩
 ·have := hp.2.2
  rw [← FA]
  refine List.Perm.map _ ?_
  simpa [uH, zd, Array.extract_eq_self_of_le] using this
 ·refine List.pairwise_iff_getElem.2 fun i j hi hj sb => ?_
  have XZ : j < d'.size := by simpa using hj
  have := WE i j (Nat.zero_le _) sb (by simpa [uH] using XZ)
  rw [getElem!_pos d' j XZ, getElem!_pos d' i (by omega)] at this
  have := of_decide_eq_false this
  unfold Hv at this
  simp only [List.getElem_map,Array.getElem_toList]
  omega
def S4 : FuncId → List V → Option V := fun _ _ => none
theorem ze : sN Tryz.prog S4 := fun f vs r h => by cases h
theorem Hx : ju Tryz.prog (fun _ _ => none) := fun f vs r h => by cases h
theorem Bu : aP Tryz.prog 118 [.slice [], .sc (.func (.func 119) #[] #[])] (.bT []) := CK ze Hx 3000 (by kernel_rfl)
theorem Bv (m : List ay) (b v : Nat) (l : List bG) (hb : m[b]? = some (.rows v 2 (l.map aj))) (hl : l.length ≤ 1048576) (hC : ∀ x ∈ l, 0 ≤ x.lo ∧ x.lo ≤ 1000000) :
  gH Tryz.prog 118 [.ms b v 0 l.length, .sc (.func (.func 119) #[] #[])] m fun r m' => r = .sc (.tuple #[]) ∧ ∃ l' : List bG, l'.Perm l ∧ fU l' ∧ m' = m.set b (.rows v 2 (l'.map aj)) := by
 rcases Nat.eq_zero_or_pos l.length with h0 | h0
 ·obtain rfl : l = [] := List.length_eq_zero_iff.1 h0
  refine (aP.Eu (m := m) (b := b) (v := v) Bu fun E xs h => ?_).rel.mono fun r m' ⟨h1, h2⟩ => ⟨h1, [], List.Perm.refl _, List.Pairwise.nil, by
   rw [h2]
   apply List.ext_getElem?
   intro i
   rw [List.getElem?_set]
   split
   ·rename_i hi; subst hi
    rw [if_pos (List.getElem?_eq_some_iff.1 hb).1, hb]
   ·rfl⟩
  obtain ⟨y, ys, rfl, hr, hy⟩ := h.of_cons
  rw [hy.of_nil]
  have := b9 hr
  subst this
  exact aQ.cons (.sc _ _) (.nil _)
 ·exact Bt m b v l hb h0 hl hC
end Go.Proofs.YtnfeacnbgbggfaaGreatDoor
end

section
namespace Go.Proofs.YtnfeacnbgbggfaaGreatDoor
open Go.Eng
open Nat renaming reduceAdd → zA, reduceLT → zB, reduceLeDiff → zC, reduceMul → zD, reduceEqDiff → zE, reduceSub → zF
variable [aG]
set_option maxHeartbeats 4000000
set_option maxRecDepth 100000
theorem my {s : List bG} {i : Nat} {x : bG} (h : s[i]? = some x) : clip (s.take (i + 1)) = clip (s.take i) ++ (mu x).toList := by
 rw [List.take_add_one, h]
 unfold clip
 rw [List.filterMap_append]
 cases hx : mu x <;> simp [hx]
theorem ji (s : List bG) : (clip s).length ≤ s.length := List.length_filterMap_le _ _
theorem C3 {x : bG} (h : max x.lo 0 < min x.hi 1000000) : mu x = some ⟨max x.lo 0, min x.hi 1000000⟩ := if_pos h
theorem C4 {x : bG} (h : ¬ max x.lo 0 < min x.hi 1000000) : mu x = none := if_neg h
structure Mg (l R : List bG) (i n : Nat) : Prop where
 hi : i ≤ l.length
 hn : n ≤ i
 hl : R.length = l.length
 ht : R.take n = merge (l.take i)
 hd : R.drop i = l.drop i
 h0 : 0 < i → 0 < n
theorem iK {l : List bG} {i : Nat} {x : bG} (h : l[i]? = some x) : merge (l.take (i + 1)) = dn (merge (l.take i)) x := by
 rw [List.take_add_one, h]
 unfold merge
 rw [List.foldl_append]; rfl
theorem Mg.start (l : List bG) : Mg l l 0 0 := ⟨Nat.zero_le _, Nat.le_refl _, rfl, rfl, rfl, fun h => absurd h (Nat.lt_irrefl _)⟩
theorem Mg.at {l R : List bG} {i n : Nat} (h : Mg l R i n) (aB : i < l.length) : ∃ x, l[i]? = some x ∧ R[i]? = some x := by
 refine ⟨l[i], List.getElem?_eq_getElem aB, ?_⟩
 have h1 : (R.drop i)[0]? = (l.drop i)[0]? := by rw [h.hd]
 rw [List.getElem?_drop, List.getElem?_drop, Nat.add_zero] at h1
 rw [h1, List.getElem?_eq_getElem aB]
theorem Mg.last {l R : List bG} {i n : Nat} (h : Mg l R i n) (iB : 0 < i) (aB : i < l.length) : ∃ y, R[n - 1]? = some y ∧ (merge (l.take i)).getLast? = some y := by
 have hn := h.h0 iB
 have C5 : n - 1 < R.length := by rw [h.hl]; have := h.hn; omega
 refine ⟨R[n - 1], List.getElem?_eq_getElem C5, ?_⟩
 rw [← h.ht, List.getLast?_eq_getElem?, List.length_take, Nat.min_eq_left (by have := h.hn; rw [h.hl]; omega), List.getElem?_take_of_lt (by omega), List.getElem?_eq_getElem C5]
theorem Mg.push {l R : List bG} {i n : Nat} {x : bG} (h : Mg l R i n) (hx : l[i]? = some x) (hm : dn (merge (l.take i)) x = merge (l.take i) ++ [x]) : Mg l (R.set n x) (i + 1) (n + 1) := by
 have aB := (List.getElem?_eq_some_iff.1 hx).1
 have hn := h.hn
 refine ⟨aB, by omega, by rw [List.length_set]; exact h.hl, ?_, ?_, fun _ => Nat.succ_pos _⟩
 ·rw [iK hx, hm, ← h.ht]
  apply List.ext_getElem?
  intro j
  have X0 : n < R.length := by rw [h.hl]; omega
  rcases Nat.lt_trichotomy j n with hj | hj | hj
  ·rw [List.getElem?_take_of_lt (by omega), List.getElem?_set_ne (by omega), List.getElem?_append_left (by rw [List.length_take]; omega), List.getElem?_take_of_lt hj]
  ·subst hj
   rw [List.getElem?_take_of_lt (by omega), List.getElem?_append_right (by rw [List.length_take]; omega), List.length_take, Nat.min_eq_left (by omega), Nat.sub_self]
   simp [X0]
  ·rw [List.getElem?_eq_none (by rw [List.length_take]; omega), List.getElem?_eq_none (by rw [List.length_append, List.length_take]; simp; omega)]
 ·apply List.ext_getElem?
  intro j
  rw [List.getElem?_drop, List.getElem?_drop, List.getElem?_set_ne (by omega)]
  have h1 : (R.drop i)[1 + j]? = (l.drop i)[1 + j]? := by rw [h.hd]
  rw [List.getElem?_drop, List.getElem?_drop] at h1
  rw [show i + 1 + j = i + (1 + j) by omega]; exact h1
theorem Mg.join {l R : List bG} {i n : Nat} {x y : bG} (h : Mg l R i n) (hx : l[i]? = some x) (iB : 0 < i) (hy : R[n - 1]? = some y) (hle : x.lo ≤ y.hi) : Mg l (R.set (n - 1) ⟨y.lo, max y.hi x.hi⟩) (i + 1) n := by
 have aB := (List.getElem?_eq_some_iff.1 hx).1
 have hn := h.hn
 have X1 := h.h0 iB
 obtain ⟨y', X2, qR⟩ := h.last iB aB
 rw [hy] at X2; cases X2
 have X0 : n ≤ R.length := by rw [h.hl]; omega
 refine ⟨aB, by omega, by rw [List.length_set]; exact h.hl, ?_, ?_, fun _ => X1⟩
 ·rw [iK hx]
  unfold dn
  rw [qR]
  dsimp only
  rw [if_pos hle, ← h.ht]
  apply List.ext_getElem?
  intro j
  have FA : ((R.take n).dropLast).length = n - 1 := by rw [List.length_dropLast, List.length_take]; omega
  rcases Nat.lt_trichotomy j (n - 1) with hj | hj | hj
  ·rw [List.getElem?_take_of_lt (by omega), List.getElem?_set_ne (by omega), List.getElem?_append_left (by omega), List.getElem?_dropLast, if_pos (by rw [List.length_take]; omega), List.getElem?_take_of_lt (by omega)]
  ·subst hj
   rw [List.getElem?_take_of_lt (by omega), List.getElem?_append_right (by omega), FA, Nat.sub_self, List.getElem?_set]
   simp; omega
  ·rw [List.getElem?_eq_none (by rw [List.length_take, List.length_set]; omega), List.getElem?_eq_none (by rw [List.length_append, FA]; simp; omega)]
 ·apply List.ext_getElem?
  intro j
  rw [List.getElem?_drop, List.getElem?_drop, List.getElem?_set_ne (by omega)]
  have h1 : (R.drop i)[1 + j]? = (l.drop i)[1 + j]? := by rw [h.hd]
  rw [List.getElem?_drop, List.getElem?_drop] at h1
  rw [show i + 1 + j = i + (1 + j) by omega]; exact h1
theorem mz {o : List bG} {x : bG} (h : ∀ y, o.getLast? = some y → ¬ x.lo ≤ y.hi) : dn o x = o ++ [x] := by
 unfold dn
 cases hl : o.getLast? with
 | none => rw [List.getLast?_eq_none_iff.1 hl]; rfl
 | some y => dsimp only; rw [if_neg (h y hl)]
theorem o6 (s : List bG) (hl : s.length ≤ 1048576) : aP Tryz.prog 86 [ak s] (ak (canon s)) := by
 refine QN tt_ok [19] 79 [.tmp 2] (fn := Tryz.f86) Tryz.func86 rfl Tryz.call86 ⟨rfl, rfl, by simp⟩ fun K hK => ?_
 simp only [ak]
 simp only [List.length_map,go_sem,reduceIte,zA,zB,zC,zD,zE,zF,reduceCtorEq]
 refine yK 3 0 2 (by decide) rfl ?_
 refine ct tt_ok [19] (fun a : Nat × List bG => [(3, .ms 0 a.2.length 0 a.2.length), (9, .slice (s.map aj)), (10, num s.length), (11, num a.1)]) (fun a : Nat × List bG => [.rows a.2.length 2 (a.2.map aj)]) (fun a => s.length - a.1) (fun a => a.1 ≤ s.length ∧ a.2 = clip (s.take a.1)) ((0, [])) 1 (ba (by omega) (by simp only [List.length_map,List.map_nil,List.length_nil,Int.cast_ofNat_Int,go_sem,reduceIte,zA,zB,zC,zD,zE,zF,reduceCtorEq] <;> rfl)) (⟨Nat.zero_le _, rfl⟩) ?_
 rintro ⟨i, l⟩ ⟨hi, jD⟩
 try dsimp only at hi jD
 try dsimp only
 intro Z1 bP
 simp only [List.length_map,go_sem,reduceIte,zA,zB,zC,zD,zE,zF,reduceCtorEq]
 refine aL (fun O4 => ?_) (fun O4 => ?_)
 ·have aB : i < s.length := by simpa using O4
  have hw := ax i (by omega)
  obtain ⟨x, hx⟩ : ∃ x, s[i]? = some x := ⟨_, List.getElem?_eq_getElem aB⟩
  have rK : (if x.lo < 0 then 0 else x.lo) = max x.lo 0 := by split <;> omega
  have rf : (if (1000000 : Int) < x.hi then 1000000 else x.hi) = min x.hi 1000000 := by split <;> omega
  have QA : l.length ≤ 1048576 := by rw [jD]; have := ji (s.take i); rw [List.length_take] at this; omega
  have dE : l.length + 1 ≤ 34359738368 := by omega
  simp only [hw,List.getElem?_map,hx,aj,rK,rf,dE,List.length_append,List.length_cons,List.length_nil,Nat.zero_add,List.length_map,go_sem,reduceIte,zA,zB,zC,zD,zE,zF,reduceCtorEq]
  refine aL (fun gq => ?_) (fun gq => ?_)
  ·let nv : Nat × List bG := (i + 1, l ++ [⟨max x.lo 0, min x.hi 1000000⟩])
   have O5 : l ++ [⟨max x.lo 0, min x.hi 1000000⟩] = clip (s.take (i + 1)) := by rw [my hx, C3 (by simpa using gq), jD]; rfl
   simp only [hw,List.getElem?_map,hx,aj,rK,rf,dE,List.length_append,List.length_cons,List.length_nil,Nat.zero_add,List.length_map,go_sem,reduceIte,zA,zB,zC,zD,zE,zF,reduceCtorEq]
   refine bP _ ⟨nv, ?_, ?_, ba (by omega) (by (simp [nv, je, lk, aW, bo, ai, aA, List.map_append, aj]))⟩
   ·exact ⟨aB, by dsimp only [nv]; exact O5⟩
   ·dsimp only [nv]; omega
  ·let nv : Nat × List bG := (i + 1, l)
   have O5 : l = clip (s.take (i + 1)) := by rw [my hx, C4 (by simpa using gq), jD]; simp
   simp only [hw,List.getElem?_map,hx,aj,rK,rf,dE,List.length_append,List.length_cons,List.length_nil,Nat.zero_add,List.length_map,go_sem,reduceIte,zA,zB,zC,zD,zE,zF,reduceCtorEq]
   refine bP _ ⟨nv, ?_, ?_, ba (by omega) (by (simp [nv, je, lk, aW, bo, ai, aA, List.map_append, aj]))⟩
   ·exact ⟨aB, by dsimp only [nv]; exact O5⟩
   ·dsimp only [nv]; omega
 ·have cB : ¬ i < s.length := by simpa using O4
  have O6 : l = clip s := by rw [jD, show i = s.length by omega, List.take_length]
  have Aa : l.length ≤ 1048576 := by rw [O6]; have := ji s; omega
  have hC : ∀ x ∈ l, 0 ≤ x.lo ∧ x.lo ≤ 1000000 := fun x hx => by have := wK x (O6 ▸ hx); omega
  simp only [List.length_map,go_sem,reduceIte,zA,zB,zC,zD,zE,zF,reduceCtorEq]
  refine cR (Bv _ 0 _ _ rfl Aa hC) ?_
  rintro _ _ ⟨rfl, l2, hp, ha, rfl⟩
  simp only [List.length_map,go_sem,reduceIte,zA,zB,zC,zD,zE,zF,reduceCtorEq]
  obtain ⟨L, hL⟩ : ∃ L, L = l2 := ⟨_, rfl⟩
  rw [← hL] at hp ha
  have Bw : L.length = l.length := hp.length_eq
  rw [← Bw, ← hL]
  refine ct tt_ok [19] (fun a : Nat × Nat × List bG => [(3, .ms 0 L.length 0 L.length), (6, num a.2.1), (34, .ms 0 L.length 0 L.length), (35, num L.length), (36, num a.1)]) (fun a : Nat × Nat × List bG => [.rows L.length 2 (a.2.2.map aj)]) (fun a => L.length - a.1) (fun a => Mg L a.2.2 a.1 a.2.1) ((0, 0, L)) 1 (ba (by omega) (by simp only [List.length_map,Int.cast_ofNat_Int,go_sem,reduceIte,zA,zB,zC,zD,zE,zF,reduceCtorEq] <;> rfl)) (Mg.start L) ?_
  rintro ⟨i, n, R⟩ hM
  try dsimp only at hM
  try dsimp only
  have hMi := hM.hi
  have hMn := hM.hn
  have MN := hM.hl
  intro Z2 mP
  simp only [List.length_map,go_sem,reduceIte,zA,zB,zC,zD,zE,zF,reduceCtorEq]
  refine aL (fun rn => ?_) (fun rn => ?_)
  ·have aB : i < L.length := by simpa using rn
   rw [rn]
   have cX : (i : Int) < (L.length : Int) := by omega
   have hw := ax i (by omega)
   have D4 := ax n (by omega)
   obtain ⟨x, hx, O7⟩ := hM.at aB
   have td : (n : Int) < (L.length : Int) := by omega
   simp only [hw,D4,List.getElem?_map,O7,aj,MN,cX,Int.natCast_nonneg,td,List.length_map,go_sem,reduceIte,zA,zB,zC,zD,zE,zF,reduceCtorEq]
   refine bu tt_ok aD [⟨.n, 0, [], [], []⟩, ⟨.n, 0, [], [], []⟩, ⟨.n, 0, [], [], []⟩, ⟨.n, 0, [], [], []⟩, ⟨.r, 0, [], [], []⟩, ⟨.n, 0, [], [], []⟩, ⟨.n, 0, [], [], []⟩, ⟨.n, 0, [], [], []⟩, ⟨.r, 0, [], [], []⟩, ⟨.n, 0, [], [], []⟩, ⟨.r, 0, [], [], []⟩, ⟨.n, 0, [], [], []⟩, ⟨.n, 0, [], [], []⟩] 0 (by kernel_rfl) ?_
   simp only [hw,D4,List.getElem?_map,O7,aj,MN,cX,Int.natCast_nonneg,td,List.length_map,go_sem,reduceIte,zA,zB,zC,zD,zE,zF,reduceCtorEq]
   refine aL (fun Bx => ?_) (fun Bx => ?_)
   ·have iB : 0 < i := by have := of_decide_eq_true Bx; omega
    have X1 := hM.h0 iB
    obtain ⟨y, hy, qR⟩ := hM.last iB aB
    have KJ : IntKind.i64.wrap ((n : Int) - 1) = ((n - 1 : Nat) : Int) := jf _ _ (by omega) (by omega)
    have C5 : ((n - 1 : Nat) : Int) < (L.length : Int) := by omega
    simp only [hw,D4,List.getElem?_map,O7,aj,MN,cX,Int.natCast_nonneg,td,KJ,hy,C5,List.length_map,go_sem,reduceIte,zA,zB,zC,zD,zE,zF,reduceCtorEq]
    refine aL (fun O8 => ?_) (fun O8 => ?_)
    ·have hle : x.lo ≤ y.hi := by simpa using O8
     have rK : (if y.hi < x.hi then x.hi else y.hi) = max y.hi x.hi := by split <;> omega
     let nv : Nat × Nat × List bG := (i + 1, n, R.set (n - 1) ⟨y.lo, max y.hi x.hi⟩)
     have S5 := hM.join hx iB hy hle
     simp only [hw,D4,List.getElem?_map,O7,aj,MN,cX,Int.natCast_nonneg,td,KJ,hy,C5,rK,List.length_map,go_sem,reduceIte,zA,zB,zC,zD,zE,zF,reduceCtorEq]
     refine bu tt_ok aD [⟨.n, 0, [], [], []⟩, ⟨.n, 0, [], [], []⟩, ⟨.n, 0, [], [1], []⟩, ⟨.n, 0, [], [], []⟩, ⟨.n, 0, [], [], []⟩, ⟨.n, 0, [], [4], []⟩, ⟨.r, 0, [], [3,4,5], []⟩, ⟨.n, 0, [], [3,4,5,6], []⟩, ⟨.r, 0, [], [3,4,5,6,7], []⟩, ⟨.n, 0, [], [], []⟩, ⟨.r, 0, [], [9], []⟩, ⟨.n, 0, [], [3,4,5,6,7,8,9,10], []⟩, ⟨.r, 0, [], [0,1,2,3,4,5,6,7,8,9,10,11], []⟩, ⟨.n, 0, [], [0,1,2,3,4,5,6,7,8,9,10,11,12], []⟩, ⟨.w, 0, [], [0,1,2,3,4,5,6,7,8,9,10,11,12,13], []⟩] 1 (by kernel_rfl) ?_
     simp only [hw,D4,List.getElem?_map,O7,aj,MN,cX,Int.natCast_nonneg,td,KJ,hy,C5,rK,List.length_map,go_sem,reduceIte,zA,zB,zC,zD,zE,zF,reduceCtorEq]
     refine mP _ ⟨nv, ?_, ?_, ba (by omega) (by (simp [nv, je, lk, aW, bo, ai, aA, List.map_set, aj, setRow, cb, V.cells]))⟩
     ·dsimp only [nv]; exact S5
     ·dsimp only [nv]; omega
    ·have zZ : dn (merge (L.take i)) x = merge (L.take i) ++ [x] := mz fun z hz => by
      rw [qR] at hz; cases hz; simpa using O8
     let nv : Nat × Nat × List bG := (i + 1, n + 1, R.set n x)
     have S5 := hM.push hx zZ
     obtain ⟨z, hz⟩ : ∃ z, R[n]? = some z := ⟨_, List.getElem?_eq_getElem (by omega)⟩
     simp only [hw,D4,List.getElem?_map,O7,aj,MN,cX,Int.natCast_nonneg,td,KJ,hy,C5,hz,List.length_map,go_sem,reduceIte,zA,zB,zC,zD,zE,zF,reduceCtorEq]
     refine mP _ ⟨nv, ?_, ?_, ba (by omega) (by (simp [nv, je, lk, aW, bo, ai, aA, List.map_set, aj, setRow, cb, V.cells]))⟩
     ·dsimp only [nv]; exact S5
     ·dsimp only [nv]; omega
   ·have vY : i = 0 := by have := of_decide_eq_false Bx; omega
    have zZ : dn (merge (L.take i)) x = merge (L.take i) ++ [x] := mz fun y hy => by simp [vY, merge] at hy
    let nv : Nat × Nat × List bG := (i + 1, n + 1, R.set n x)
    have S5 := hM.push hx zZ
    obtain ⟨z, hz⟩ : ∃ z, R[n]? = some z := ⟨_, List.getElem?_eq_getElem (by omega)⟩
    simp only [hw,D4,List.getElem?_map,O7,aj,MN,cX,Int.natCast_nonneg,td,hz,List.length_map,go_sem,reduceIte,zA,zB,zC,zD,zE,zF,reduceCtorEq]
    refine mP _ ⟨nv, ?_, ?_, ba (by omega) (by (simp [nv, je, lk, aW, bo, ai, aA, List.map_set, aj, setRow, cb, V.cells]))⟩
    ·dsimp only [nv]; exact S5
    ·dsimp only [nv]; omega
  ·have cB : ¬ i < L.length := by simpa using rn
   have Zx : i = L.length := by omega
   simp only [List.length_map,go_sem,reduceIte,zA,zB,zC,zD,zE,zF,reduceCtorEq]
   refine rl (v' := .slice (R.map aj)) 3 (by decide) rfl (by rw [← MN]; simp [lk, eA, bD, List.take_of_length_le]) ?_
   have Zy : (n : Int) ≤ (R.length : Int) := by omega
   refine Uu tt_ok [19] ?_
   simp only [Zy,Int.le_refl,Int.natCast_nonneg,List.length_map,go_sem,reduceIte,zA,zB,zC,zD,zE,zF,reduceCtorEq]
   refine hK _ ?_
   have fk : (R.take n).map aj = (canon s).map aj := by rw [hM.ht, Zx, List.take_length, yQ (hp.trans (List.Perm.of_eq O6)) ha]
   simp [mK, lC, oC, Cr, eA, bD, ak, ← List.map_take, fk]
end Go.Proofs.YtnfeacnbgbggfaaGreatDoor
end

section
namespace Go.Proofs.YtnfeacnbgbggfaaGreatDoor
open Go.Eng
open Nat renaming reduceAdd → zA, reduceLT → zB, reduceLeDiff → zC, reduceMul → zD, reduceEqDiff → zE, reduceSub → zF
variable [aG]
set_option maxHeartbeats 4000000
set_option maxRecDepth 100000
theorem aR (T : TypeId) (x y : Operand) (a b : ByteArray) : aT Tryz.prog (fO .leq T x y) (str a) (str b) = some (bl (Op.bytesLess a.toList b.toList || a.toList == b.toList)) := by
 simp [aT, bC, fO, binOp, Op.stringOp, eqGuard, aH, dH, bind, pure, Sem.bind]
theorem dS (T : TypeId) (x y : Operand) (a b : ByteArray) : aT Tryz.prog (fO .geq T x y) (str a) (str b) = some (bl (!Op.bytesLess a.toList b.toList)) := by
 simp [aT, bC, fO, binOp, Op.stringOp, eqGuard, aH, dH, bind, pure, Sem.bind]
theorem iL (x y : Operand) : aT Tryz.prog (fO .neq 168 x y) (.sc (.pointer none)) (.sc (.pointer none)) = some (bl false) := by kernel_rfl
theorem dr.MO (v : dr) (i : Nat) (h : i < 3) : List.drop i [num v.mj, num v.mn, num v.pt] = num (v.part i) :: List.drop (i + 1) [num v.mj, num v.mn, num v.pt] := by
 obtain ⟨a, b, c⟩ := v
 match i, h with
 | 0, _ => rfl
 | 1, _ => rfl
 | 2, _ => rfl
def Jl (a b : ByteArray) : Bool := ke a b || decide (a = b)
def mA (q : Rq) (b : Option Rq) : Int := if bF q.path ≠ 0 then 4 else if (decide (q.set.length = 0) || !decide (q.set = canon q.set) || (match b with | some p => Jl q.path p.path | none => false)) = true then 1 else 0
def eO (b : Option Rq) : List Rq → Int
 | [] => 0
 | q :: r => if mA q b ≠ 0 then mA q b else eO (some q) r
def fw (l : List Rq) : Int := if 16 < l.length then 7 else eO none l
def jB (s : ByteArray) : Bool := decide (s.size = 0) || decide (s.size = 32)
def gr (r : Rl) : Int := if bF r.path ≠ 0 then 4 else if (!r.aC.ok || !decide (r.aC.mj = bQ r.path)) = true then 2 else if fw r.reqs ≠ 0 then fw r.reqs else if (jB r.ar && (jB r.gg && jB r.ce)) = true then 0 else 1
def c8 (b : Option Rl) : List Rl → Int
 | [] => 0
 | r :: t => if gr r ≠ 0 then gr r else match b with
  | none => c8 (some r) t
  | some p => if p.key = r.key then 5 else if 0 < p.cmp r then 1 else c8 (some r) t
theorem eI (b : Option Rl) (r : Rl) (t : List Rl) : c8 b (r :: t) = if gr r ≠ 0 then gr r else match b with
  | none => c8 (some r) t
  | some p => if p.key = r.key then 5 else if 0 < p.cmp r then 1 else c8 (some r) t := by cases b <;> rfl
def dK (l : List Rl) : Int := if 256 < l.length then 7 else c8 none l
def qS (q : Rq) : Prop := q.path.size ≤ 1048576 ∧ q.set.length ≤ 1048576
def Jm (r : Rl) : Prop := r.path.size ≤ 1048576 ∧ r.reqs.length ≤ 1048576 ∧ ∀ q ∈ r.reqs, qS q
def tY (l : List Rl) : Prop := l.length ≤ 1048576 ∧ ∀ r ∈ l, Jm r
def bU {α : Type} (l : List α) (i : Nat) : Option α := if i = 0 then none else l[i - 1]?
theorem te {l : List Rq} {i : Nat} {q : Rq} (h : l[i]? = some q) (h0 : mA q (bU l i) = 0) : eO (bU l i) (l.drop i) = eO (bU l (i + 1)) (l.drop (i + 1)) := by
 have aB := (List.getElem?_eq_some_iff.1 h).1
 rw [List.drop_eq_getElem_cons aB, (List.getElem?_eq_some_iff.1 h).2, eO, if_neg (by rw [h0]; simp)]
 unfold bU
 rw [if_neg (Nat.succ_ne_zero i), Nat.add_sub_cancel, h]
theorem lP {l : List Rq} {i : Nat} {q : Rq} (h : l[i]? = some q) (h0 : mA q (bU l i) ≠ 0) : eO (bU l i) (l.drop i) = mA q (bU l i) := by
 have aB := (List.getElem?_eq_some_iff.1 h).1
 rw [List.drop_eq_getElem_cons aB, (List.getElem?_eq_some_iff.1 h).2, eO, if_pos h0]
def bV (l : List Rq) (i : Nat) : V := match bU l i with
 | none => .sc (.pointer none)
 | some p => .cn [str p.path, ak p.set]
theorem iM (mem : List ay) (l : List Rq) (i : Nat) : eA mem (bV l i) = some (bV l i) := by unfold bV; split <;> rfl
theorem iN (l : List Rq) (i : Nat) : cr (bV l i) = [] := by unfold bV; split <;> rfl
theorem eJ (n : Nat) (l : List Rq) (i : Nat) : ai n (bV l i) = true := by unfold bV; split <;> rfl
theorem KK {l : List Rq} {i : Nat} {q : Rq} (h : l[i]? = some q) : bV l (i + 1) = .cn [str q.path, ak q.set] := by
 unfold bV bU
 rw [if_neg (Nat.succ_ne_zero i), Nat.add_sub_cancel, h]
def Hy (r : Rl) (i : Nat) : ByteArray := if i = 0 then r.ar else if i = 1 then r.gg else r.ce
theorem O9 (r : Rl) (i : Nat) (h : i < 3) : [str r.ar, str r.gg, str r.ce][i]? = some (str (Hy r i)) := by
 match i, h with
 | 0, _ => rfl
 | 1, _ => rfl
 | 2, _ => rfl
theorem Pa {r : Rl} (h : ∀ i < 3, jB (Hy r i) = true) : (jB r.ar && (jB r.gg && jB r.ce)) = true := by
 have h0 := h 0 (by omega); have h1 := h 1 (by omega); have h2 := h 2 (by omega)
 simp only [Bool.and_eq_true]
 exact ⟨h0, h1, h2⟩
theorem S6 {r : Rl} {i : Nat} (hi : i < 3) (h : jB (Hy r i) = false) : (jB r.ar && (jB r.gg && jB r.ce)) = false := by
 match i, hi with
 | 0, _ => rw [show jB r.ar = false from h]; rfl
 | 1, _ => rw [show jB r.gg = false from h]; simp
 | 2, _ => rw [show jB r.ce = false from h]; simp
theorem mB {l : List Rl} {i : Nat} {r : Rl} (h : l[i]? = some r) (h0 : gr r = 0) (hb : ∀ p, bU l i = some p → p.key ≠ r.key ∧ ¬ 0 < p.cmp r) : c8 (bU l i) (l.drop i) = c8 (bU l (i + 1)) (l.drop (i + 1)) := by
 have aB := (List.getElem?_eq_some_iff.1 h).1
 have hp : bU l (i + 1) = some r := by
  unfold bU
  rw [if_neg (Nat.succ_ne_zero i), Nat.add_sub_cancel, h]
 rw [List.drop_eq_getElem_cons aB, (List.getElem?_eq_some_iff.1 h).2, eI, if_neg (by rw [h0]; simp), hp]
 cases hq : bU l i with
 | none => rfl
 | some p => dsimp only; rw [if_neg (hb p hq).1, if_neg (hb p hq).2]
theorem C6 {l : List Rl} {i : Nat} {r : Rl} (h : l[i]? = some r) (h0 : gr r ≠ 0) : c8 (bU l i) (l.drop i) = gr r := by
 have aB := (List.getElem?_eq_some_iff.1 h).1
 rw [List.drop_eq_getElem_cons aB, (List.getElem?_eq_some_iff.1 h).2, eI, if_pos h0]
theorem tf {l : List Rl} {i : Nat} {r p : Rl} (h : l[i]? = some r) (h0 : gr r = 0) (hp : bU l i = some p) : c8 (bU l i) (l.drop i) = if p.key = r.key then 5 else if 0 < p.cmp r then 1 else c8 (some r) (l.drop (i + 1)) := by
 have aB := (List.getElem?_eq_some_iff.1 h).1
 rw [List.drop_eq_getElem_cons aB, (List.getElem?_eq_some_iff.1 h).2, eI, if_neg (by rw [h0]; simp), hp]
theorem pW {α : Type} {l : List α} {i : Nat} (h : i ≠ 0) : bU l i = l[i - 1]? := if_neg h
theorem KL (a b : dr) : ∃ r_, (fun w => w = num (a.cmp b)) r_ ∧ aP Tryz.prog 112 [bh a, bh b] r_ := by
 refine dI tt_ok [] 27 [.tmp 4] (fn := Tryz.f112) Tryz.func112 rfl Tryz.call112 ⟨rfl, rfl, by simp⟩ fun K hK => ?_
 simp only [bh]
 simp only [Tryz.underlying151,go_sem,reduceIte,zA,zB,zC,zD,zE,zF,reduceCtorEq]
 refine bu tt_ok aD [⟨.r, 0, [0,1], [], []⟩, ⟨.n, 0, [], [], []⟩, ⟨.r, 0, [0,1], [], []⟩, ⟨.n, 0, [], [], []⟩, ⟨.a, 0, [], [], []⟩, ⟨.a, 1, [], [], []⟩, ⟨.s, 0, [], [], []⟩, ⟨.s, 1, [], [], []⟩] 2 (by kernel_rfl) ?_
 simp only [Tryz.underlying151,go_sem,reduceIte,zA,zB,zC,zD,zE,zF,reduceCtorEq]
 refine cG (by have h := s7 a; simp only [bh] at h; exact h) ?_
 rintro _ rfl
 simp only [Tryz.underlying151,go_sem,reduceIte,zA,zB,zC,zD,zE,zF,reduceCtorEq]
 refine cG (by have h := s7 b; simp only [bh] at h; exact h) ?_
 rintro _ rfl
 simp only [Tryz.underlying151,go_sem,reduceIte,zA,zB,zC,zD,zE,zF,reduceCtorEq]
 refine bA tt_ok [] [13] 4 [5,6] (fun vs => ((3 : Int) - Go.Eng.intOf (vs.headD .undef)).toNat) (fun vs => ∃ i : Nat, vs = [num i] ∧ i ≤ 3 ∧ ∀ j < i, ft (a.part j) (b.part j) = 0) (by omega) (by simp only [Tryz.underlying151,go_sem,reduceIte,zA,zB,zC,zD,zE,zF,reduceCtorEq]) (⟨0, rfl, Nat.zero_le _, fun j hj => absurd hj (Nat.not_lt_zero j)⟩) fun vs hI Z1 bP => ?_
 obtain ⟨i, rfl, hi, aS⟩ := hI
 simp only [Tryz.underlying151,go_sem,reduceIte,zA,zB,zC,zD,zE,zF,reduceCtorEq]
 refine aL (fun cq => ?_) (fun cq => ?_)
 ·have aB : i < 3 := by have := of_decide_eq_true cq; omega
  rw [cq]
  have cX : (i : Int) < 3 := by omega
  have hw := ax i (by omega)
  have QT := a.MO i aB
  have QU := b.MO i aB
  have tg : ((3 : Nat) : Int) = 3 := rfl
  simp only [hw,cX,QT,QU,tg,Int.natCast_nonneg,Int.toNat_natCast,Nat.mul_one,Nat.zero_add,List.head?_cons,Tryz.underlying151,go_sem,reduceIte,zA,zB,zC,zD,zE,zF,reduceCtorEq]
  refine bu tt_ok aD [⟨.n, 0, [], [], []⟩, ⟨.r, 0, [], [], []⟩, ⟨.r, 0, [], [], []⟩, ⟨.n, 0, [], [], []⟩, ⟨.r, 0, [], [], []⟩, ⟨.r, 0, [], [], []⟩, ⟨.n, 0, [], [], []⟩, ⟨.n, 0, [], [], []⟩] 0 (by kernel_rfl) ?_
  simp only [hw,cX,QT,QU,tg,Int.natCast_nonneg,Int.toNat_natCast,Nat.mul_one,Nat.zero_add,List.head?_cons,Tryz.underlying151,go_sem,reduceIte,zA,zB,zC,zD,zE,zF,reduceCtorEq]
  refine cG (Kw _ _) ?_
  rintro _ rfl
  simp only [hw,cX,QT,QU,tg,Int.natCast_nonneg,Int.toNat_natCast,Nat.mul_one,Nat.zero_add,List.head?_cons,Tryz.underlying151,go_sem,reduceIte,zA,zB,zC,zD,zE,zF,reduceCtorEq]
  refine aL (fun iQ => ?_) (fun iQ => ?_)
  ·have aw : ft (a.part i) (b.part i) = a.cmp b := (dr.Bj aB aS (by simpa using iQ)).symm
   simp only [hw,cX,QT,QU,tg,Int.natCast_nonneg,Int.toNat_natCast,Nat.mul_one,Nat.zero_add,List.head?_cons,Tryz.underlying151,go_sem,reduceIte,zA,zB,zC,zD,zE,zF,reduceCtorEq]
   exact hK _ (congrArg num aw)
  ·simp only [hw,cX,QT,QU,tg,Int.natCast_nonneg,Int.toNat_natCast,Nat.mul_one,Nat.zero_add,List.head?_cons,Tryz.underlying151,go_sem,reduceIte,zA,zB,zC,zD,zE,zF,reduceCtorEq]
   refine bP _ (cA (by omega) (by simp only [hw,cX,QT,QU,tg,Int.natCast_nonneg,Int.toNat_natCast,Nat.mul_one,Nat.zero_add,List.head?_cons,Tryz.underlying151,go_sem,reduceIte,zA,zB,zC,zD,zE,zF,reduceCtorEq]) ?_ ?_) <;> simp only [fa,lk,reduceIte,zE]
   ·refine ⟨i + 1, rfl, aB, fun j hj => ?_⟩
    rcases Nat.lt_or_ge j i with h | h
    ·exact aS j h
    ·obtain rfl : j = i := by omega
     simpa using iQ
   ·simp only [Go.Eng.intOf,List.headD_cons]; omega
 ·have cB : i = 3 := by have := of_decide_eq_false cq; omega
  subst cB
  have aw : 0 = a.cmp b := (dr.cmp_eq aS).symm
  simp only [Tryz.underlying151,go_sem,reduceIte,zA,zB,zC,zD,zE,zF,reduceCtorEq]
  exact hK _ (congrArg num aw)
theorem By (a b : Rl) : ∃ r_, (fun w => w = num (a.cmp b)) r_ ∧ aP Tryz.prog 76 [ag a, ag b] r_ := by
 refine dI tt_ok [] 17 [.tmp 4] (fn := Tryz.f76) Tryz.func76 rfl Tryz.call76 ⟨rfl, rfl, by simp⟩ fun K hK => ?_
 simp only [ag,ab]
 simp only [go_sem,reduceIte,zA,zB,zC,zD,zE,zF,reduceCtorEq]
 refine bu tt_ok aD [⟨.n, 0, [], [], []⟩, ⟨.r, 0, [], [], []⟩, ⟨.n, 0, [], [], []⟩, ⟨.r, 0, [], [], []⟩, ⟨.n, 0, [], [], []⟩, ⟨.n, 0, [], [], []⟩, ⟨.r, 0, [], [], []⟩, ⟨.n, 0, [], [], []⟩, ⟨.r, 0, [], [], []⟩, ⟨.n, 0, [], [], []⟩, ⟨.n, 0, [], [], []⟩, ⟨.n, 0, [], [], []⟩, ⟨.n, 0, [], [], []⟩] 0 (by kernel_rfl) ?_
 simp only [go_sem,reduceIte,zA,zB,zC,zD,zE,zF,reduceCtorEq]
 refine cG (Kx _ _) ?_
 rintro _ rfl
 simp only [go_sem,reduceIte,zA,zB,zC,zD,zE,zF,reduceCtorEq]
 refine cG (by have h := KL a.aC b.aC; simp only [bh] at h; exact h) ?_
 rintro _ rfl
 simp only [go_sem,reduceIte,zA,zB,zC,zD,zE,zF,reduceCtorEq]
 refine cG (SV [kG a.path b.path, a.aC.cmp b.aC] (show 2 ≤ 1048576 by decide)) ?_
 rintro _ rfl
 simp only [go_sem,reduceIte,zA,zB,zC,zD,zE,zF,reduceCtorEq]
 exact hK _ (congrArg num (by rw [Kv]; rfl))
theorem Pb (hG : aG.g = some 0) (q : Rq) (hb : qS q) : ∃ r_, (fun w => w = num (mA q none)) r_ ∧ aP Tryz.prog 134 [al q, .sc (.pointer none)] r_ := by
 refine dI tt_ok [] 43 [.tmp 4] (fn := Tryz.f134) Tryz.func134 rfl Tryz.call134 ⟨rfl, rfl, by simp⟩ fun K hK => ?_
 simp only [al,ak]
 obtain ⟨rB, si⟩ := hb
 have Hz := o6 q.set si
 have rb := yX q.set (canon q.set) si
 generalize hC : canon q.set = C at Hz rb
 simp only [List.length_map,iL,go_sem,reduceIte,zA,zB,zC,zD,zE,zF,reduceCtorEq]
 refine cF (rJ hG q.path rB) ?_
 rintro _ ⟨nm, rfl⟩
 simp only [List.length_map,iL,go_sem,reduceIte,zA,zB,zC,zD,zE,zF,reduceCtorEq]
 refine aL (fun kF => ?_) (fun kF => ?_)
 ·simp only [List.length_map,iL,go_sem,reduceIte,zA,zB,zC,zD,zE,zF,reduceCtorEq]
  exact hK _ (congrArg num (by unfold mA; rw [hC]; simp_all))
 ·simp only [List.length_map,iL,go_sem,reduceIte,zA,zB,zC,zD,zE,zF,reduceCtorEq]
  refine bu tt_ok aD [⟨.n, 0, [], [], []⟩, ⟨.r, 0, [], [], []⟩, ⟨.n, 0, [], [], []⟩, ⟨.n, 0, [], [], []⟩, ⟨.n, 0, [], [], []⟩, ⟨.n, 0, [], [], []⟩, ⟨.r, 0, [], [], []⟩, ⟨.n, 0, [], [], []⟩, ⟨.r, 0, [], [], []⟩, ⟨.n, 0, [], [], []⟩, ⟨.n, 0, [], [], []⟩, ⟨.n, 0, [], [], []⟩, ⟨.n, 0, [], [], []⟩, ⟨.n, 0, [], [], []⟩, ⟨.n, 0, [], [], []⟩, ⟨.n, 0, [], [], []⟩, ⟨.n, 0, [], [], []⟩, ⟨.n, 0, [], [], []⟩, ⟨.r, 0, [], [], []⟩, ⟨.n, 0, [], [], []⟩, ⟨.n, 0, [], [], []⟩, ⟨.n, 0, [], [], []⟩, ⟨.r, 0, [], [], []⟩, ⟨.n, 0, [], [], []⟩, ⟨.n, 0, [], [], []⟩, ⟨.n, 0, [], [], []⟩] 0 (by kernel_rfl) ?_
  simp only [List.length_map,iL,go_sem,reduceIte,zA,zB,zC,zD,zE,zF,reduceCtorEq]
  refine aL (fun th => ?_) (fun th => ?_)
  ·simp only [List.length_map,iL,go_sem,reduceIte,zA,zB,zC,zD,zE,zF,reduceCtorEq]
   exact hK _ (congrArg num (by unfold mA; rw [hC]; simp_all))
  ·simp only [List.length_map,iL,go_sem,reduceIte,zA,zB,zC,zD,zE,zF,reduceCtorEq]
   refine cG (⟨_, rfl, Hz⟩) ?_
   rintro _ rfl
   simp only [List.length_map,iL,go_sem,reduceIte,zA,zB,zC,zD,zE,zF,reduceCtorEq]
   refine cG (rb) ?_
   rintro _ rfl
   simp only [List.length_map,iL,go_sem,reduceIte,zA,zB,zC,zD,zE,zF,reduceCtorEq]
   refine aL (fun Bz => ?_) (fun Bz => ?_)
   ·simp only [List.length_map,iL,go_sem,reduceIte,zA,zB,zC,zD,zE,zF,reduceCtorEq]
    exact hK _ (congrArg num (by unfold mA; rw [hC]; simp_all))
   ·simp only [List.length_map,iL,go_sem,reduceIte,zA,zB,zC,zD,zE,zF,reduceCtorEq]
    exact hK _ (congrArg num (by unfold mA; rw [hC]; simp_all))
theorem Pc (hG : aG.g = some 0) (q p : Rq) (hb : qS q) : ∃ r_, (fun w => w = num (mA q (some p))) r_ ∧ aP Tryz.prog 134 [al q, .cn [str p.path, ak p.set]] r_ := by
 refine dI tt_ok [] 43 [.tmp 4] (fn := Tryz.f134) Tryz.func134 rfl Tryz.call134 ⟨rfl, rfl, by simp⟩ fun K hK => ?_
 simp only [al,ak]
 obtain ⟨rB, si⟩ := hb
 have Hz := o6 q.set si
 have rb := yX q.set (canon q.set) si
 generalize hC : canon q.set = C at Hz rb
 simp only [List.length_map,Tryz.underlying168,aR,go_sem,reduceIte,zA,zB,zC,zD,zE,zF,reduceCtorEq]
 refine cF (rJ hG q.path rB) ?_
 rintro _ ⟨nm, rfl⟩
 simp only [List.length_map,Tryz.underlying168,aR,go_sem,reduceIte,zA,zB,zC,zD,zE,zF,reduceCtorEq]
 refine aL (fun kF => ?_) (fun kF => ?_)
 ·simp only [List.length_map,Tryz.underlying168,aR,go_sem,reduceIte,zA,zB,zC,zD,zE,zF,reduceCtorEq]
  exact hK _ (congrArg num (by unfold mA Jl ke; rw [hC]; simp_all [ao]))
 ·simp only [List.length_map,Tryz.underlying168,aR,go_sem,reduceIte,zA,zB,zC,zD,zE,zF,reduceCtorEq]
  refine bu tt_ok aD [⟨.n, 0, [], [], []⟩, ⟨.r, 0, [], [], []⟩, ⟨.n, 0, [], [], []⟩, ⟨.n, 0, [], [], []⟩, ⟨.n, 0, [], [], []⟩, ⟨.n, 0, [], [], []⟩, ⟨.r, 0, [], [], []⟩, ⟨.n, 0, [], [], []⟩, ⟨.r, 0, [], [], []⟩, ⟨.n, 0, [], [], []⟩, ⟨.n, 0, [], [], []⟩, ⟨.n, 0, [], [], []⟩, ⟨.n, 0, [], [], []⟩, ⟨.n, 0, [], [], []⟩, ⟨.n, 0, [], [], []⟩, ⟨.n, 0, [], [], []⟩, ⟨.n, 0, [], [], []⟩, ⟨.n, 0, [], [], []⟩, ⟨.r, 0, [], [], []⟩, ⟨.n, 0, [], [], []⟩, ⟨.n, 0, [], [], []⟩, ⟨.n, 0, [], [], []⟩, ⟨.r, 0, [], [], []⟩, ⟨.n, 0, [], [], []⟩, ⟨.n, 0, [], [], []⟩, ⟨.n, 0, [], [], []⟩] 0 (by kernel_rfl) ?_
  simp only [List.length_map,Tryz.underlying168,aR,go_sem,reduceIte,zA,zB,zC,zD,zE,zF,reduceCtorEq]
  refine aL (fun th => ?_) (fun th => ?_)
  ·simp only [List.length_map,Tryz.underlying168,aR,go_sem,reduceIte,zA,zB,zC,zD,zE,zF,reduceCtorEq]
   exact hK _ (congrArg num (by unfold mA Jl ke; rw [hC]; simp_all [ao]))
  ·simp only [List.length_map,Tryz.underlying168,aR,go_sem,reduceIte,zA,zB,zC,zD,zE,zF,reduceCtorEq]
   refine cG (⟨_, rfl, Hz⟩) ?_
   rintro _ rfl
   simp only [List.length_map,Tryz.underlying168,aR,go_sem,reduceIte,zA,zB,zC,zD,zE,zF,reduceCtorEq]
   refine cG (rb) ?_
   rintro _ rfl
   simp only [List.length_map,Tryz.underlying168,aR,go_sem,reduceIte,zA,zB,zC,zD,zE,zF,reduceCtorEq]
   refine aL (fun Bz => ?_) (fun Bz => ?_)
   ·simp only [List.length_map,Tryz.underlying168,aR,go_sem,reduceIte,zA,zB,zC,zD,zE,zF,reduceCtorEq]
    exact hK _ (congrArg num (by unfold mA Jl ke; rw [hC]; simp_all [ao]))
   ·simp only [List.length_map,Tryz.underlying168,aR,go_sem,reduceIte,zA,zB,zC,zD,zE,zF,reduceCtorEq]
    refine aL (fun Pd => ?_) (fun Pd => ?_)
    ·simp only [List.length_map,Tryz.underlying168,aR,go_sem,reduceIte,zA,zB,zC,zD,zE,zF,reduceCtorEq]
     exact hK _ (congrArg num (by unfold mA Jl ke; rw [hC]; simp_all [ao]))
    ·simp only [List.length_map,Tryz.underlying168,aR,go_sem,reduceIte,zA,zB,zC,zD,zE,zF,reduceCtorEq]
     exact hK _ (congrArg num (by unfold mA Jl ke; rw [hC]; simp_all [ao]))
theorem S7 (hG : aG.g = some 0) (q : Rq) (l : List Rq) (i : Nat) (hb : qS q) : ∃ r_, (fun w => w = num (mA q (bU l i))) r_ ∧ aP Tryz.prog 134 [al q, bV l i] r_ := by
 unfold bV
 cases bU l i with
 | none => exact Pb hG q hb
 | some p => exact Pc hG q p hb
end Go.Proofs.YtnfeacnbgbggfaaGreatDoor
end

section
namespace Go.Proofs.YtnfeacnbgbggfaaGreatDoor
open Go.Eng
open Nat renaming reduceAdd → zA, reduceLT → zB, reduceLeDiff → zC, reduceMul → zD, reduceEqDiff → zE, reduceSub → zF
variable [aG]
set_option maxHeartbeats 4000000
set_option maxRecDepth 100000
theorem Pe (hG : aG.g = some 0) (l : List Rq) (hl : l.length ≤ 1048576) (hb : ∀ q ∈ l, qS q) : ∃ r_, (fun w => w = num (fw l)) r_ ∧ aP Tryz.prog 109 [ah l] r_ := by
 refine dI tt_ok [] 27 [.tmp 2] (fn := Tryz.f109) Tryz.func109 rfl Tryz.call109 ⟨rfl, rfl, by simp⟩ fun K hK => ?_
 simp only [ah]
 obtain ⟨n, hn⟩ : ∃ n : Nat, n = 16 := ⟨_, rfl⟩
 simp only [eJ,List.length_map,↓iM,↓iN,go_sem,reduceIte,zA,zB,zC,zD,zE,zF,reduceCtorEq]
 refine aL (fun gi => ?_) (fun gi => ?_)
 ·have aw : 7 = fw l := by unfold fw; rw [if_pos (by have := of_decide_eq_true gi; omega)]
  simp only [eJ,List.length_map,↓iM,↓iN,go_sem,reduceIte,zA,zB,zC,zD,zE,zF,reduceCtorEq]
  exact hK _ (congrArg num aw)
 ·simp only [eJ,List.length_map,↓iM,↓iN,go_sem,reduceIte,zA,zB,zC,zD,zE,zF,reduceCtorEq]
  refine bA tt_ok [] [12,3] 0 [0,9,10,11] (fun vs => ((l.length : Int) - Go.Eng.intOf (vs.headD .undef)).toNat) (fun vs => ∃ i : Nat, vs = [num i, bV l i] ∧ i ≤ l.length ∧ eO none l = eO (bU l i) (l.drop i)) (by omega) (by simp only [eJ,List.length_map,↓iM,↓iN,go_sem,reduceIte,zA,zB,zC,zD,zE,zF,reduceCtorEq]) (⟨0, rfl, Nat.zero_le _, rfl⟩) fun vs hI Z1 bP => ?_
  obtain ⟨i, rfl, hi, gG⟩ := hI
  simp only [eJ,List.length_map,↓iM,↓iN,go_sem,reduceIte,zA,zB,zC,zD,zE,zF,reduceCtorEq]
  refine aL (fun lQ => ?_) (fun lQ => ?_)
  ·have aB : i < l.length := by simpa using lQ
   have hw := ax i (by omega)
   obtain ⟨x, hx⟩ : ∃ x, l[i]? = some x := ⟨_, List.getElem?_eq_getElem aB⟩
   simp only [eJ,hw,List.getElem?_map,hx,al,ak,List.length_map,↓iM,↓iN,go_sem,reduceIte,zA,zB,zC,zD,zE,zF,reduceCtorEq]
   refine cF (by have h := S7 hG x l i (hb x (List.mem_of_getElem? hx)); simp only [al,ak] at h; exact h) ?_
   rintro _ rfl
   simp only [eJ,hw,List.getElem?_map,hx,al,ak,List.length_map,↓iM,↓iN,go_sem,reduceIte,zA,zB,zC,zD,zE,zF,reduceCtorEq]
   refine aL (fun eW => ?_) (fun eW => ?_)
   ·have aw : mA x (bU l i) = fw l := by unfold fw; rw [if_neg (by have := of_decide_eq_false gi; omega), gG, lP hx (by simpa using eW)]
    simp only [eJ,hw,List.getElem?_map,hx,al,ak,List.length_map,↓iM,↓iN,go_sem,reduceIte,zA,zB,zC,zD,zE,zF,reduceCtorEq]
    exact hK _ (congrArg num aw)
   ·simp only [eJ,hw,List.getElem?_map,hx,al,ak,List.length_map,↓iM,↓iN,go_sem,reduceIte,zA,zB,zC,zD,zE,zF,reduceCtorEq]
    refine bP _ (cA (by omega) (by simp only [eJ,hw,List.getElem?_map,hx,al,ak,List.length_map,↓iM,↓iN,go_sem,reduceIte,zA,zB,zC,zD,zE,zF,reduceCtorEq]) ?_ ?_) <;> simp only [fa,lk,reduceIte,zE]
    ·exact ⟨i + 1, by rw [KK hx]; rfl, aB, by rw [gG]; exact te hx (by simpa using eW)⟩
    ·simp only [Go.Eng.intOf,List.headD_cons]; omega
  ·have cB : ¬ i < l.length := by simpa using lQ
   have aw : 0 = fw l := by unfold fw; rw [if_neg (by have := of_decide_eq_false gi; omega), gG, List.drop_eq_nil_of_le (by omega)]; rfl
   simp only [eJ,List.length_map,↓iM,↓iN,go_sem,reduceIte,zA,zB,zC,zD,zE,zF,reduceCtorEq]
   exact hK _ (congrArg num aw)
theorem BA (hG : aG.g = some 0) (r : Rl) (hb : Jm r) : ∃ r_, (fun w => w = num (gr r)) r_ ∧ aP Tryz.prog 75 [ag r] r_ := by
 refine dI tt_ok [] 56 [.tmp 2] (fn := Tryz.f75) Tryz.func75 rfl Tryz.call75 ⟨rfl, rfl, by simp⟩ fun K hK => ?_
 simp only [ag,ab,ah]
 obtain ⟨rB, si, QG⟩ := hb
 simp only [go_sem,reduceIte,zA,zB,zC,zD,zE,zF,reduceCtorEq]
 refine cF (rJ hG r.path rB) ?_
 rintro _ ⟨nm, rfl⟩
 simp only [go_sem,reduceIte,zA,zB,zC,zD,zE,zF,reduceCtorEq]
 refine aL (fun gM => ?_) (fun gM => ?_)
 ·have aw : 4 = gr r := by unfold gr; simp_all
  simp only [go_sem,reduceIte,zA,zB,zC,zD,zE,zF,reduceCtorEq]
  exact hK _ (congrArg num aw)
 ·simp only [go_sem,reduceIte,zA,zB,zC,zD,zE,zF,reduceCtorEq]
  refine cF (by have h := yW r.aC; simp only [bh] at h; exact h) ?_
  rintro _ rfl
  simp only [go_sem,reduceIte,zA,zB,zC,zD,zE,zF,reduceCtorEq]
  refine aL (fun th => ?_) (fun th => ?_)
  ·have aw : 2 = gr r := by unfold gr; simp_all
   simp only [go_sem,reduceIte,zA,zB,zC,zD,zE,zF,reduceCtorEq]
   exact hK _ (congrArg num aw)
  ·simp only [go_sem,reduceIte,zA,zB,zC,zD,zE,zF,reduceCtorEq]
   refine aL (fun Pf => ?_) (fun Pf => ?_)
   ·have aw : 2 = gr r := by unfold gr; simp_all
    simp only [go_sem,reduceIte,zA,zB,zC,zD,zE,zF,reduceCtorEq]
    exact hK _ (congrArg num aw)
   ·simp only [go_sem,reduceIte,zA,zB,zC,zD,zE,zF,reduceCtorEq]
    refine cF (by have h := Pe hG r.reqs si QG; simp only [ah] at h; exact h) ?_
    rintro _ rfl
    simp only [go_sem,reduceIte,zA,zB,zC,zD,zE,zF,reduceCtorEq]
    refine aL (fun zf => ?_) (fun zf => ?_)
    ·have aw : fw r.reqs = gr r := by unfold gr; simp_all
     simp only [go_sem,reduceIte,zA,zB,zC,zD,zE,zF,reduceCtorEq]
     exact hK _ (congrArg num aw)
    ·simp only [go_sem,reduceIte,zA,zB,zC,zD,zE,zF,reduceCtorEq]
     refine bA tt_ok [] [43] 2 [17,28,33,41,42] (fun vs => ((3 : Int) - Go.Eng.intOf (vs.headD .undef)).toNat) (fun vs => ∃ i : Nat, vs = [num i] ∧ i ≤ 3 ∧ ∀ j < i, jB (Hy r j) = true) (by omega) (by simp only [go_sem,reduceIte,zA,zB,zC,zD,zE,zF,reduceCtorEq]) (⟨0, rfl, Nat.zero_le _, fun j hj => absurd hj (Nat.not_lt_zero j)⟩) fun vs hI Z1 bP => ?_
     obtain ⟨i, rfl, hi, aS⟩ := hI
     simp only [go_sem,reduceIte,zA,zB,zC,zD,zE,zF,reduceCtorEq]
     refine aL (fun KM => ?_) (fun KM => ?_)
     ·have aB : i < 3 := by have := of_decide_eq_true KM; omega
      rw [KM]
      have cX : (i : Int) < 3 := by omega
      have hw := ax i (by omega)
      have y8 := O9 r i aB
      have tg : ((3 : Nat) : Int) = 3 := rfl
      simp only [hw,cX,y8,tg,Int.natCast_nonneg,Int.toNat_natCast,go_sem,reduceIte,zA,zB,zC,zD,zE,zF,reduceCtorEq]
      refine aL (fun Pg => ?_) (fun Pg => ?_)
      ·simp only [hw,cX,y8,tg,Int.natCast_nonneg,Int.toNat_natCast,go_sem,reduceIte,zA,zB,zC,zD,zE,zF,reduceCtorEq]
       refine aL (fun pX => ?_) (fun pX => ?_)
       ·have Mx : jB (Hy r i) = false := by unfold jB; simp_all <;> omega
        have hdn := S6 aB Mx
        have aw : 1 = gr r := by unfold gr; simp_all
        simp only [hw,cX,y8,tg,Int.natCast_nonneg,Int.toNat_natCast,go_sem,reduceIte,zA,zB,zC,zD,zE,zF,reduceCtorEq]
        exact hK _ (congrArg num aw)
       ·simp only [hw,cX,y8,tg,Int.natCast_nonneg,Int.toNat_natCast,go_sem,reduceIte,zA,zB,zC,zD,zE,zF,reduceCtorEq]
        refine bP _ (cA (by omega) (by simp only [hw,cX,y8,tg,Int.natCast_nonneg,Int.toNat_natCast,go_sem,reduceIte,zA,zB,zC,zD,zE,zF,reduceCtorEq]) ?_ ?_) <;> simp only [fa,lk,reduceIte,zE]
        ·refine ⟨i + 1, rfl, aB, fun j hj => ?_⟩
         rcases Nat.lt_or_ge j i with h | h
         ·exact aS j h
         ·obtain rfl : j = i := by omega
          unfold jB; simp_all <;> omega
        ·simp only [Go.Eng.intOf,List.headD_cons]; omega
      ·simp only [hw,cX,y8,tg,Int.natCast_nonneg,Int.toNat_natCast,go_sem,reduceIte,zA,zB,zC,zD,zE,zF,reduceCtorEq]
       refine bP _ (cA (by omega) (by simp only [hw,cX,y8,tg,Int.natCast_nonneg,Int.toNat_natCast,go_sem,reduceIte,zA,zB,zC,zD,zE,zF,reduceCtorEq]) ?_ ?_) <;> simp only [fa,lk,reduceIte,zE]
       ·refine ⟨i + 1, rfl, aB, fun j hj => ?_⟩
        rcases Nat.lt_or_ge j i with h | h
        ·exact aS j h
        ·obtain rfl : j = i := by omega
         unfold jB; simp_all <;> omega
       ·simp only [Go.Eng.intOf,List.headD_cons]; omega
     ·have cB : i = 3 := by have := of_decide_eq_false KM; omega
      subst cB
      have Mx := Pa aS
      have aw : 0 = gr r := by unfold gr; simp_all
      simp only [go_sem,reduceIte,zA,zB,zC,zD,zE,zF,reduceCtorEq]
      exact hK _ (congrArg num aw)
theorem ti (hG : aG.g = some 0) (l : List Rl) (I : List V) (hb : tY l) : ∃ r_, (fun w => w = num (dK l)) r_ ∧ aP Tryz.prog 22 [bm l I] r_ := by
 refine dI tt_ok [] 42 [.tmp 2] (fn := Tryz.f22) Tryz.func22 rfl Tryz.call22 ⟨rfl, rfl, by simp⟩ fun K hK => ?_
 simp only [bm,aY]
 obtain ⟨hl, hb⟩ := hb
 simp only [List.length_map,go_sem,reduceIte,zA,zB,zC,zD,zE,zF,reduceCtorEq]
 refine aL (fun cE => ?_) (fun cE => ?_)
 ·have aw : 7 = dK l := by unfold dK; rw [if_pos (by have := of_decide_eq_true cE; omega)]
  simp only [List.length_map,go_sem,reduceIte,zA,zB,zC,zD,zE,zF,reduceCtorEq]
  exact hK _ (congrArg num aw)
 ·simp only [List.length_map,go_sem,reduceIte,zA,zB,zC,zD,zE,zF,reduceCtorEq]
  refine bA tt_ok [] [14] 1 [1,10,12,13] (fun vs => ((l.length : Int) - Go.Eng.intOf (vs.headD .undef)).toNat) (fun vs => ∃ i : Nat, vs = [num i] ∧ i ≤ l.length ∧ c8 none l = c8 (bU l i) (l.drop i)) (by omega) (by simp only [List.length_map,go_sem,reduceIte,zA,zB,zC,zD,zE,zF,reduceCtorEq]) (⟨0, rfl, Nat.zero_le _, rfl⟩) fun vs hI Z1 bP => ?_
  obtain ⟨i, rfl, hi, gG⟩ := hI
  simp only [List.length_map,go_sem,reduceIte,zA,zB,zC,zD,zE,zF,reduceCtorEq]
  refine aL (fun gJ => ?_) (fun gJ => ?_)
  ·have aB : i < l.length := by simpa using gJ
   have hw := ax i (by omega)
   obtain ⟨x, hx⟩ : ∃ x, l[i]? = some x := ⟨_, List.getElem?_eq_getElem aB⟩
   simp only [hw,List.getElem?_map,hx,ag,ab,ah,List.length_map,go_sem,reduceIte,zA,zB,zC,zD,zE,zF,reduceCtorEq]
   refine cF (by have h := BA hG x (hb x (List.mem_of_getElem? hx)); simp only [ag,ab,ah] at h; exact h) ?_
   rintro _ rfl
   simp only [hw,List.getElem?_map,hx,ag,ab,ah,List.length_map,go_sem,reduceIte,zA,zB,zC,zD,zE,zF,reduceCtorEq]
   refine aL (fun wP => ?_) (fun wP => ?_)
   ·have aw : gr x = dK l := by unfold dK; rw [if_neg (by have := of_decide_eq_false cE; omega), gG, C6 hx (by simpa using wP)]
    simp only [hw,List.getElem?_map,hx,ag,ab,ah,List.length_map,go_sem,reduceIte,zA,zB,zC,zD,zE,zF,reduceCtorEq]
    exact hK _ (congrArg num aw)
   ·simp only [hw,List.getElem?_map,hx,ag,ab,ah,List.length_map,go_sem,reduceIte,zA,zB,zC,zD,zE,zF,reduceCtorEq]
    refine aL (fun fu => ?_) (fun fu => ?_)
    ·have vY : i = 0 := by have := of_decide_eq_true fu; omega
     have yF : ∀ p, bU l i = some p → p.key ≠ x.key ∧ ¬ 0 < p.cmp x := fun p hp => by rw [vY] at hp; cases hp
     simp only [hw,List.getElem?_map,hx,ag,ab,ah,List.length_map,go_sem,reduceIte,zA,zB,zC,zD,zE,zF,reduceCtorEq]
     refine bP _ (cA (by omega) (by simp only [hw,List.getElem?_map,hx,ag,ab,ah,List.length_map,go_sem,reduceIte,zA,zB,zC,zD,zE,zF,reduceCtorEq]) ?_ ?_) <;> simp only [fa,lk,reduceIte,zE]
     ·exact ⟨i + 1, rfl, aB, by rw [gG]; exact mB hx (by simpa using wP) yF⟩
     ·simp only [Go.Eng.intOf,List.headD_cons]; omega
    ·have vY : i ≠ 0 := by have := of_decide_eq_false fu; omega
     obtain ⟨p, hp⟩ : ∃ p, l[i - 1]? = some p := ⟨_, List.getElem?_eq_getElem (by omega)⟩
     have EI : bU l i = some p := by rw [pW vY, hp]
     have dT : IntKind.i64.wrap ((i : Int) - 1) = ((i - 1 : Nat) : Int) := jf _ _ (by omega) (by omega)
     have wQ := fun a b => Hl a b p.key x.key
     simp only [hw,List.getElem?_map,hx,ag,ab,ah,dT,hp,wQ,aI,List.length_map,go_sem,reduceIte,zA,zB,zC,zD,zE,zF,reduceCtorEq]
     refine bu tt_ok aD [⟨.r, 0, [], [], []⟩, ⟨.n, 0, [], [], []⟩, ⟨.r, 0, [], [], []⟩, ⟨.n, 0, [], [], []⟩, ⟨.n, 0, [], [], []⟩] 0 (by kernel_rfl) ?_
     simp only [hw,List.getElem?_map,hx,ag,ab,ah,dT,hp,wQ,aI,List.length_map,go_sem,reduceIte,zA,zB,zC,zD,zE,zF,reduceCtorEq]
     refine cG (by have h := kH p; simp only [ag,ab,ah,aI] at h; exact h) ?_
     rintro _ rfl
     simp only [hw,List.getElem?_map,hx,ag,ab,ah,dT,hp,wQ,aI,List.length_map,go_sem,reduceIte,zA,zB,zC,zD,zE,zF,reduceCtorEq]
     refine cG (by have h := kH x; simp only [ag,ab,ah,aI] at h; exact h) ?_
     rintro _ rfl
     simp only [hw,List.getElem?_map,hx,ag,ab,ah,dT,hp,wQ,aI,List.length_map,go_sem,reduceIte,zA,zB,zC,zD,zE,zF,reduceCtorEq]
     refine aL (fun pV => ?_) (fun pV => ?_)
     ·have aw : 5 = dK l := by unfold dK; rw [if_neg (by have := of_decide_eq_false cE; omega), gG, tf hx (by simpa using wP) EI, if_pos (by simpa using pV)]
      simp only [hw,List.getElem?_map,hx,ag,ab,ah,dT,hp,wQ,aI,List.length_map,go_sem,reduceIte,zA,zB,zC,zD,zE,zF,reduceCtorEq]
      exact hK _ (congrArg num aw)
     ·simp only [hw,List.getElem?_map,hx,ag,ab,ah,dT,hp,wQ,aI,List.length_map,go_sem,reduceIte,zA,zB,zC,zD,zE,zF,reduceCtorEq]
      refine cF (by have h := By p x; simp only [ag,ab,ah] at h; exact h) ?_
      rintro _ rfl
      simp only [hw,List.getElem?_map,hx,ag,ab,ah,dT,hp,wQ,aI,List.length_map,go_sem,reduceIte,zA,zB,zC,zD,zE,zF,reduceCtorEq]
      refine aL (fun Ph => ?_) (fun Ph => ?_)
      ·have aw : 1 = dK l := by unfold dK; rw [if_neg (by have := of_decide_eq_false cE; omega), gG, tf hx (by simpa using wP) EI, if_neg (by simpa using pV), if_pos (by simpa using Ph)]
       simp only [hw,List.getElem?_map,hx,ag,ab,ah,dT,hp,wQ,aI,List.length_map,go_sem,reduceIte,zA,zB,zC,zD,zE,zF,reduceCtorEq]
       exact hK _ (congrArg num aw)
      ·have yF : ∀ p, bU l i = some p → p.key ≠ x.key ∧ ¬ 0 < p.cmp x := fun q hq => by rw [EI] at hq; cases hq; exact ⟨by simpa using pV, by simpa using Ph⟩
       simp only [hw,List.getElem?_map,hx,ag,ab,ah,dT,hp,wQ,aI,List.length_map,go_sem,reduceIte,zA,zB,zC,zD,zE,zF,reduceCtorEq]
       refine bP _ (cA (by omega) (by simp only [hw,List.getElem?_map,hx,ag,ab,ah,dT,hp,wQ,aI,List.length_map,go_sem,reduceIte,zA,zB,zC,zD,zE,zF,reduceCtorEq]) ?_ ?_) <;> simp only [fa,lk,reduceIte,zE]
       ·exact ⟨i + 1, rfl, aB, by rw [gG]; exact mB hx (by simpa using wP) yF⟩
       ·simp only [Go.Eng.intOf,List.headD_cons]; omega
  ·have cB : ¬ i < l.length := by simpa using gJ
   have aw : 0 = dK l := by unfold dK; rw [if_neg (by have := of_decide_eq_false cE; omega), gG, List.drop_eq_nil_of_le (by omega)]; rfl
   simp only [List.length_map,go_sem,reduceIte,zA,zB,zC,zD,zE,zF,reduceCtorEq]
   exact hK _ (congrArg num aw)
end Go.Proofs.YtnfeacnbgbggfaaGreatDoor
end

section
namespace Go.Proofs.YtnfeacnbgbggfaaGreatDoor
open Go.Eng
theorem okWide_slice {P : Program} {W : World} {base : Nat} {T e : TypeId} {v : Value} (hT : P.underlying T = some (.slice e)) (h : Value.okWide P W .any base T v) : ∃ a l c, v = .slice a l c := by
 unfold Value.okWide at h
 rw [hT] at h
 unfold Cell.okWide at h
 rw [hT] at h
 cases v with
 | slice a l c => exact ⟨a, l, c, rfl⟩
 | _ => simp [Cell.ok, hT] at h
variable [aG]
theorem c3 : Tryz.prog.cellsOf 3 = 1 := by kernel_rfl
theorem c4 : Tryz.prog.cellsOf 4 = 1 := by kernel_rfl
theorem c9 : Tryz.prog.cellsOf 9 = 1 := by kernel_rfl
theorem Zz : Tryz.prog.cellsOf 22 = 1 := by kernel_rfl
theorem ZA : Tryz.prog.cellsOf 23 = 1 := by kernel_rfl
theorem ZB : Tryz.prog.cellsOf 25 = 2 := by kernel_rfl
theorem ZC : Tryz.prog.cellsOf 26 = 1 := by kernel_rfl
theorem WG : Tryz.prog.cellsOf 38 = 3 := by kernel_rfl
theorem X3 : Tryz.prog.cellsOf 40 = 9 := by kernel_rfl
theorem ZD : Tryz.prog.cellsOf 49 = 1 := by kernel_rfl
theorem X4 : Tryz.prog.cellsOf 51 = 2 := by kernel_rfl
theorem X5 : Tryz.prog.cellsOf 54 = 4 := by kernel_rfl
theorem X6 : Tryz.prog.cellsOf 78 = 2 := by kernel_rfl
theorem WH : Tryz.prog.cellsOf 228 = 1 := by kernel_rfl
theorem WI : Tryz.prog.cellsOf 229 = 1 := by kernel_rfl
theorem WJ : Tryz.prog.cellsOf 230 = 1 := by kernel_rfl
theorem WK : Tryz.prog.cellsOf 231 = 1 := by kernel_rfl
theorem S8 : Tryz.prog.cellsOf 233 = 5 := by kernel_rfl
section
variable {F : Addr → Option Value} {hg : Gl F} {H : Type} {enc : TypeId × Value → H} {w : World} {sp : Nat → Bool} {held : Bool} {f : Nat} {cs : List Value} {d : DataW H} {p : List MemPlace}
theorem kJ {a : List V} {cs : List Value} {off n : Nat} (h1 : Rd F hg a ((cs.drop off).take n)) (h : cs.length = off + n) : Rd F hg a (cs.drop off) := by
 rwa [List.take_of_length_le (by simp; omega)] at h1
theorem tj (h : DataW.trod enc Tryz.prog w 0 sp held f 3 cs = some (d, p)) : ∃ n : Int, Rd F hg [num n] cs ∧ 1 ≤ Rows.uptoBulk d := by
 cases f with
 | zero => simp [DataW.trod] at h
 | succ f => obtain ⟨n, rfl, rfl⟩ := trod_int Tryz.underlying3 h; exact ⟨n, A8 rfl, by simp [Rows.uptoBulk]⟩
theorem nL (h : DataW.trod enc Tryz.prog w 0 sp held f 9 cs = some (d, p)) : ∃ s : ByteArray, Rd F hg [str s] cs ∧ s.size + 1 ≤ Rows.uptoBulk d := by
 cases f with
 | zero => simp [DataW.trod] at h
 | succ f =>
  obtain ⟨n, rfl, rfl⟩ := trod_string Tryz.underlying9 h
  exact ⟨n, A8 rfl, by simp only [Rows.uptoBulk,Array.length_toList]; exact Nat.le_refl _⟩
theorem S9 (h : DataW.trod enc Tryz.prog w 0 sp held f 4 cs = some (d, p)) : ∃ b : Bool, Rd F hg [bl b] cs := by
 cases f with
 | zero => simp [DataW.trod] at h
 | succ f => obtain ⟨n, rfl, -⟩ := trod_bool Tryz.underlying4 h; exact ⟨n, A8 rfl⟩
theorem zg {T T' : TypeId} {α : Type} {row : α → V} {g : α → Nat} {n : Nat} (hF : F = w.cell?) (hT : Tryz.prog.underlying T = some (.slice T')) (hn : Tryz.prog.cellsOf T' = n)
  (hr : ∀ f', f' < f → ∀ {cs : List Value} {d : DataW H} {p : List MemPlace}, DataW.trod enc Tryz.prog w 0 sp held f' T' cs = some (d, p) → ∃ a : α, Rd F hg (row a).cells cs ∧ g a ≤ Rows.uptoBulk d)
  (h : DataW.trod enc Tryz.prog w 0 sp held f T cs = some (d, p)) : ∃ l : List α, Rd F hg [.slice (l.map row)] cs ∧ c7 g l + 1 ≤ Rows.uptoBulk d := by
 cases f with
 | zero => simp [DataW.trod] at h
 | succ f => exact Hf hF hT hn (fun h => hr f (Nat.lt_succ_self f) h) h
theorem wR {T T' : TypeId} (hT : Tryz.prog.underlying T = some (.slice T')) (h : DataW.trod enc Tryz.prog w 0 sp held f T cs = some (d, p)) : Rd F hg [.undef] cs := by
 cases f with
 | zero => simp [DataW.trod] at h
 | succ f =>
  rcases trod_slice hT h with ⟨rfl, -⟩ | ⟨a, cap, elems, spare, rfl, -⟩
  ·exact ⟨.cons (.undef _ _) (.nil _), by simp [Value.oneCell']⟩
  ·exact ⟨.cons (.undef _ _) (.nil _), by simp [Value.oneCell']⟩
def Pj (_ : bG) : Nat := 1
def HA (q : Rq) : Nat := q.path.size + q.set.length + 1
def HB (r : Rl) : Nat := r.path.size + r.ar.size + r.gg.size + r.ce.size + c7 HA r.reqs + 1
def BB (s : dD) : Nat := s.path.size + 1
theorem KN {α : Type} (l : List α) : c7 (fun _ => 1) l = l.length := by induction l with | nil => rfl | cons a t ih => simp [c7, ih]; omega
theorem Pk (h : DataW.trod enc Tryz.prog w 0 sp held f 78 cs = some (d, p)) : ∃ x : bG, Rd F hg (aj x).cells cs ∧ Pj x ≤ Rows.uptoBulk d := by
 cases f with
 | zero => simp [DataW.trod] at h
 | succ f =>
  obtain ⟨hl, d0, p0, h0, d1, p1, h1, rfl⟩ := fj Tryz.underlying78 h
  simp only [c3] at h0 h1
  rw [X6] at hl
  obtain ⟨a, ha, b0⟩ := tj (F := F) (hg := hg) h0
  obtain ⟨b, hb, b1⟩ := tj (F := F) (hg := hg) h1
  refine ⟨⟨a, b⟩, ?_, ?_⟩
  ·exact dw (a := [num a]) (off := 0) ha (kJ (a := [num b]) hb hl)
  ·simp only [Rows.uptoBulk,Rows.uptoBulkAll,Pj]; omega
theorem Pm (hF : F = w.cell?) (h : DataW.trod enc Tryz.prog w 0 sp held f 49 cs = some (d, p)) : ∃ l : List bG, Rd F hg [.slice (l.map aj)] cs ∧ l.length + 1 ≤ Rows.uptoBulk d := by
 obtain ⟨l, h1, h2⟩ := zg (F := F) (hg := hg) (row := aj) (g := Pj) hF Tryz.underlying49 X6 (fun f' _ {cs d p} h => Pk h) h
 exact ⟨l, h1, by rw [← KN l]; exact h2⟩
theorem Ta (hF : F = w.cell?) (h : DataW.trod enc Tryz.prog w 0 sp held f 51 cs = some (d, p)) : ∃ x : Rq, Rd F hg (al x).cells cs ∧ HA x ≤ Rows.uptoBulk d := by
 cases f with
 | zero => simp [DataW.trod] at h
 | succ f =>
  obtain ⟨hl, d0, p0, h0, d1, p1, h1, rfl⟩ := fj Tryz.underlying51 h
  simp only [c9,ZD] at h0 h1
  rw [X4] at hl
  obtain ⟨a, ha, b0⟩ := nL (F := F) (hg := hg) h0
  obtain ⟨l, Aa, b1⟩ := Pm (F := F) (hg := hg) hF h1
  refine ⟨⟨a, l⟩, ?_, ?_⟩
  ·exact dw (a := [str a]) (off := 0) ha (kJ (a := [.slice (l.map aj)]) Aa hl)
  ·simp only [Rows.uptoBulk,Rows.uptoBulkAll,HA]; omega
theorem HC (hF : F = w.cell?) (h : DataW.trod enc Tryz.prog w 0 sp held f 26 cs = some (d, p)) : ∃ l : List Rq, Rd F hg [.slice (l.map al)] cs ∧ c7 HA l + 1 ≤ Rows.uptoBulk d :=
 zg (row := al) (g := HA) hF Tryz.underlying26 X4 (fun f' _ {cs d p} h => Ta hF h) h
theorem HD (h : DataW.trod enc Tryz.prog w 0 sp held f 38 cs = some (d, p)) : ∃ v : dr, Rd F hg [num v.mj, num v.mn, num v.pt] cs := by
 cases f with
 | zero => simp [DataW.trod] at h
 | succ f =>
  obtain ⟨hl, d0, p0, h0, d1, p1, h1, d2, p2, h2, rfl⟩ := fj Tryz.underlying38 h
  simp only [c3] at h0 h1 h2
  rw [WG] at hl
  obtain ⟨a, ha, -⟩ := tj (F := F) (hg := hg) h0
  obtain ⟨b, hb, -⟩ := tj (F := F) (hg := hg) h1
  obtain ⟨c, hc, -⟩ := tj (F := F) (hg := hg) h2
  exact ⟨⟨a, b, c⟩, dw (a := [num a]) (off := 0) ha (dw (a := [num b]) hb (kJ (a := [num c]) hc hl))⟩
theorem Tb (hF : F = w.cell?) (h : DataW.trod enc Tryz.prog w 0 sp held f 40 cs = some (d, p)) : ∃ x : Rl, Rd F hg (ag x).cells cs ∧ HB x ≤ Rows.uptoBulk d := by
 cases f with
 | zero => simp [DataW.trod] at h
 | succ f =>
  obtain ⟨hl, d0, p0, h0, d1, p1, h1, d2, p2, h2, d3, p3, h3, d4, p4, h4, d5, p5, h5, d6, p6, h6, rfl⟩ := fj Tryz.underlying40 h
  simp only [c9,WG,ZC,c4] at h0 h1 h2 h3 h4 h5 h6
  rw [X3] at hl
  obtain ⟨x0, a0, b0⟩ := nL (F := F) (hg := hg) h0
  obtain ⟨x1, a1⟩ := HD (F := F) (hg := hg) h1
  obtain ⟨x2, a2, b2⟩ := HC (F := F) (hg := hg) hF h2
  obtain ⟨x3, a3, b3⟩ := nL (F := F) (hg := hg) h3
  obtain ⟨x4, a4, b4⟩ := nL (F := F) (hg := hg) h4
  obtain ⟨x5, a5, b5⟩ := nL (F := F) (hg := hg) h5
  obtain ⟨x6, a6⟩ := S9 (F := F) (hg := hg) h6
  refine ⟨⟨x0, x1, x2, x3, x4, x5, x6⟩, ?_, ?_⟩
  ·show Rd F hg ([str x0] ++ [num x1.mj, num x1.mn, num x1.pt] ++ [.slice (x2.map al)] ++ [str x3] ++ [str x4] ++ [str x5] ++ [bl x6]) (cs.drop 0)
   simp only [List.append_assoc]
   exact dw (a := [str x0]) (off := 0) a0 (dw (a := [num x1.mj, num x1.mn, num x1.pt]) a1 (dw (a := [.slice (x2.map al)]) a2 (dw (a := [str x3]) a3 (dw (a := [str x4]) a4 (dw (a := [str x5]) a5 (kJ (a := [bl x6]) a6 hl))))))
  ·simp only [Rows.uptoBulk,Rows.uptoBulkAll,HB]; omega
theorem Pn (hF : F = w.cell?) (h : DataW.trod enc Tryz.prog w 0 sp held f 22 cs = some (d, p)) : ∃ l : List Rl, Rd F hg [.slice (l.map ag)] cs ∧ c7 HB l + 1 ≤ Rows.uptoBulk d :=
 zg (row := ag) (g := HB) hF Tryz.underlying22 X3 (fun f' _ {cs d p} h => Tb hF h) h
theorem Po (h : DataW.trod enc Tryz.prog w 0 sp held f 54 cs = some (d, p)) : ∃ x : dD, Rd F hg (aI x).cells cs ∧ BB x ≤ Rows.uptoBulk d := by
 cases f with
 | zero => simp [DataW.trod] at h
 | succ f =>
  obtain ⟨hl, d0, p0, h0, d1, p1, h1, rfl⟩ := fj Tryz.underlying54 h
  simp only [c9,WG] at h0 h1
  rw [X5] at hl
  obtain ⟨x0, a0, b0⟩ := nL (F := F) (hg := hg) h0
  obtain ⟨x1, a1⟩ := HD (F := F) (hg := hg) h1
  refine ⟨⟨x0, x1⟩, ?_, ?_⟩
  ·exact dw (a := [str x0]) (off := 0) a0 (kJ (a := [num x1.mj, num x1.mn, num x1.pt]) a1 hl)
  ·simp only [Rows.uptoBulk,Rows.uptoBulkAll,BB]; omega
theorem KO (hF : F = w.cell?) (h : DataW.trod enc Tryz.prog w 0 sp held f 27 cs = some (d, p)) : ∃ l : List dD, Rd F hg [.slice (l.map aI)] cs ∧ c7 BB l + 1 ≤ Rows.uptoBulk d :=
 zg (row := aI) (g := BB) hF Tryz.underlying27 X5 (fun f' _ {cs d p} h => Po h) h
def wS (_ : Unit) : V := .agg [.undef, .undef, .undef, .undef, .undef]
theorem Pp (h : DataW.trod enc Tryz.prog w 0 sp held f 233 cs = some (d, p)) : ∃ x : Unit, Rd F hg (wS x).cells cs ∧ 0 ≤ Rows.uptoBulk d := by
 cases f with
 | zero => simp [DataW.trod] at h
 | succ f =>
  obtain ⟨hl, d0, p0, h0, d1, p1, h1, d2, p2, h2, d3, p3, h3, d4, p4, h4, rfl⟩ := fj Tryz.underlying233 h
  simp only [c9,WH,WI,WJ,WK] at h0 h1 h2 h3 h4
  rw [S8] at hl
  obtain ⟨x0, a0, -⟩ := nL (F := F) (hg := hg) h0
  have ZE : Rd F hg [.undef] ((cs.drop 0).take 1) := ⟨⟨a0.1.1, fun i v x hv hx => by
   match i with
   | 0 => simp at hv; subst hv; exact .undef _ _
   | i + 1 => simp at hv⟩, a0.2⟩
  refine ⟨(), ?_, Nat.zero_le _⟩
  exact dw (a := [.undef]) (off := 0) ZE (dw (a := [.undef]) (wR Tryz.underlying228 h1) (dw (a := [.undef]) (wR Tryz.underlying229 h2) (dw (a := [.undef]) (wR Tryz.underlying230 h3) (kJ (a := [.undef]) (wR Tryz.underlying231 h4) hl))))
theorem Tc (hF : F = w.cell?) (h : DataW.trod enc Tryz.prog w 0 sp held f 25 cs = some (d, p)) : ∃ (l : List Rl) (I : List V), Rd F hg [.slice (l.map ag), .slice I] cs ∧ c7 HB l + 1 ≤ Rows.uptoBulk d := by
 cases f with
 | zero => simp [DataW.trod] at h
 | succ f =>
  obtain ⟨hl, d0, p0, h0, d1, p1, h1, rfl⟩ := fj Tryz.underlying25 h
  simp only [Zz,ZA] at h0 h1
  rw [ZB] at hl
  obtain ⟨l, Aa, b0⟩ := Pn (F := F) (hg := hg) hF h0
  obtain ⟨us, hu, -⟩ := zg (F := F) (hg := hg) (row := wS) (g := fun _ => 0) hF Tryz.underlying23 S8 (fun f' _ {cs d p} h => Pp h) h1
  refine ⟨l, us.map wS, ?_, ?_⟩
  ·exact dw (a := [.slice (l.map ag)]) (off := 0) Aa (kJ (a := [.slice (us.map wS)]) hu hl)
  ·simp only [Rows.uptoBulk,Rows.uptoBulkAll]; omega
theorem Pq {q : Rq} (h : HA q ≤ 1048576) : qS q := by unfold HA at h; exact ⟨by omega, by omega⟩
theorem HE {l : List Rq} (h : c7 HA l ≤ 1048576) : l.length ≤ 1048576 ∧ ∀ q ∈ l, qS q := by
 refine ⟨Nat.le_trans (jx HA (fun q => by unfold HA; omega) l) h, fun q hq => ?_⟩
 obtain ⟨i, hi⟩ := List.mem_iff_getElem?.1 hq
 exact Pq (Nat.le_trans (u7 HA hi) h)
theorem Pr {r : Rl} (h : HB r ≤ 1048576) : Jm r := by
 unfold HB at h
 have := HE (l := r.reqs) (by omega)
 exact ⟨by omega, this.1, this.2⟩
theorem Ps {l : List Rl} (h : c7 HB l ≤ 1048576) : tY l := by
 refine ⟨Nat.le_trans (jx HB (fun q => by unfold HB; omega) l) h, fun r hr => ?_⟩
 obtain ⟨i, hi⟩ := List.mem_iff_getElem?.1 hr
 exact Pr (Nat.le_trans (u7 HB hi) h)
theorem Pt {l : List dD} (h : c7 BB l ≤ 1048576) : l.length ≤ 1048576 := Nat.le_trans (jx BB (fun q => by unfold BB; omega) l) h
end
end Go.Proofs.YtnfeacnbgbggfaaGreatDoor
end

section
namespace Go.Proofs.YtnfeacnbgbggfaaGreatDoor
open Go.Eng
open Nat renaming reduceAdd → zA, reduceLT → zB, reduceLeDiff → zC, reduceMul → zD, reduceEqDiff → zE, reduceSub → zF
variable [aG]
set_option maxHeartbeats 4000000
set_option maxRecDepth 100000
def KP (b : UInt8) : V := .sc (.int .u8 (b.toNat : Int))
def bI (n : Nat) : V := .sc (.int .u64 (n : Int))
def bs (l : List UInt8) : ByteArray := ⟨l.toArray⟩
theorem o7 (l : List UInt8) : (bs l).size = l.length := by simp [bs, ByteArray.size]
theorem jS (l : List UInt8) : bp (bs l) = l := by simp [bp, bs]
theorem EJ (s : ByteArray) : bs (bp s) = s := nG (jS _)
theorem BC (a b : ByteArray) : bp (a ++ b) = bp a ++ bp b := by unfold bp; rw [ByteArray.data_append, Array.toList_append]
theorem HF (a b : List UInt8) : bs a ++ bs b = bs (a ++ b) := nG (by rw [BC, jS, jS, jS])
theorem KQ (t : ByteArray) : bs (uv t.size) ++ t = bs (eT t) := by
 have h : bs (uv t.size) ++ bs (bp t) = bs (eT t) := HF _ _
 rwa [EJ] at h
theorem qT : ∀ l : List UInt8, eB (l.map KP) = some (l.map fun b => (b.toNat : Int))
 | [] => rfl
 | b :: r => by
  show (match eB (r.map KP) with | some l => some ((b.toNat : Int) :: l) | none => none) = _
  rw [qT r]; rfl
theorem o8 (l : List UInt8) : strOfNums (l.map fun b => (b.toNat : Int)) = bs l := by
 unfold strOfNums bs
 rw [List.map_map]
 congr 2
 conv => rhs; rw [← List.map_id l]
 exact List.map_congr_left fun b _ => by simp
theorem KR {mem : List ay} {b v : Nat} (l : List UInt8) (h : mem[b]? = some (.rows v 1 (l.map KP))) : kS Tryz.prog mem 159 9 (.ms b v 0 l.length) = some (str (bs l)) := by
 have hs : Tryz.prog.underlying 159 = some (.slice 5) := by kernel_rfl
 have he : Tryz.prog.underlying 5 = some (.int .u8) := by kernel_rfl
 have hd : Tryz.prog.underlying 9 = some .string := by kernel_rfl
 have ht : ((l.map KP).drop 0).take l.length = l.map KP := List.take_of_length_le (by simp)
 simp only [kS,h,true_and,List.length_map,Nat.zero_add,Nat.le_refl,if_true,ht,jo,hs,he,hd,qT,o8]
theorem HG : ∀ (k n : Nat), n < 2 ^ (7 * (k + 1)) → (uv n).length ≤ k + 1
 | 0, n, h => by rw [lL (by simpa using h)]; simp
 | k + 1, n, h => by
  by_cases hn : n < 128
  ·rw [lL hn]; simp
  ·rw [wL hn, List.length_cons]
   have hp : 2 ^ (7 * (k + 1 + 1)) = 2 ^ (7 * (k + 1)) * 128 := by rw [show (128 : Nat) = 2 ^ 7 from rfl, ← Nat.pow_add]; congr 1
   have := HG k (n / 128) (Nat.div_lt_of_lt_mul (by rw [Nat.mul_comm, ← hp]; exact h))
   omega
theorem lR {n : Nat} (h : n < 2 ^ 64) : (uv n).length ≤ 10 := HG 9 n (Nat.lt_of_lt_of_le h (Nat.pow_le_pow_right (by omega) (by omega)))
theorem Pu (n : Nat) : 0 < (uv n).length := by rw [uv]; split <;> simp
def tl (k : IntKind) (a b : Int) : Int := k.wrap (BitVec.ofInt k.bits a ||| BitVec.ofInt k.bits b).toNat
theorem ez (T : TypeId) (x y : Operand) (k : IntKind) (a b : Int) : aT Tryz.prog (fO .or T x y) (.sc (.int k a)) (.sc (.int k b)) = some (.sc (.int k (tl k a b))) := by
 simp [aT, bC, fO, binOp, eqGuard, aH, bind, pure, Sem.bind, Op.intBits, dH, tl]
theorem Pv (T : TypeId) (x y : Operand) (k k' : IntKind) (a b : Int) (hb : ¬ b < 0) : aT Tryz.prog (fO .shl T x y) (.sc (.int k a)) (.sc (.int k' b)) = some (.sc (.int k (k.wrap (a * 2 ^ min b.toNat k.bits)))) := by
 simp [aT, bC, fO, binOp, Op.shift, eqGuard, aH, dH, bind, pure, Sem.bind, hb]
theorem EK : (List.range 256).all (fun a => tl .u8 (a : Int) 128 == ((a % 128 + 128 : Nat) : Int)) = true := by kernel_rfl
theorem Td (a : Nat) (h : a < 256) : tl .u8 (a : Int) 128 = ((a % 128 + 128 : Nat) : Int) := by
 have := List.all_eq_true.1 EK a (by simpa using h)
 simpa using this
theorem BD : (List.range 256).all (fun a => GR .u8 (a : Int) 127 == ((a % 128 : Nat) : Int)) = true := by kernel_rfl
theorem Pw (a : Nat) (h : a < 256) : GR .u8 (a : Int) 127 = ((a % 128 : Nat) : Int) := by
 have := List.all_eq_true.1 BD a (by simpa using h)
 simpa using this
theorem MQ (n : Nat) : IntKind.u8.wrap (n : Int) = ((n % 256 : Nat) : Int) := by
 simp [IntKind.wrap, IntKind.signed, IntKind.bits]
theorem wrap64 (n : Nat) (h : n < 2 ^ 64) : IntKind.u64.wrap (n : Int) = (n : Int) := by
 simp [IntKind.wrap, IntKind.signed, IntKind.bits]
 omega
theorem u8_or (n : Nat) : tl .u8 (IntKind.u8.wrap (n : Int)) 128 = ((UInt8.ofNat (n % 128 + 128)).toNat : Int) := by
 rw [MQ, Td _ (Nat.mod_lt _ (by omega)), jg (by omega)]; omega
theorem Te (n : Nat) (h : n < 128) : IntKind.u8.wrap (n : Int) = ((UInt8.ofNat n).toNat : Int) := by
 rw [MQ, jg (by omega)]; omega
theorem WL (n : Nat) : ((n : Int)).fdiv (2 ^ min (7 : Int).toNat IntKind.u64.bits) = ((n / 128 : Nat) : Int) := by
 show ((n : Int)).fdiv ((128 : Nat) : Int) = _
 rw [Int.fdiv_eq_ediv_of_nonneg _ (by omega)]; omega
theorem KS (x y : Operand) (k' : IntKind) (n : Nat) : aT Tryz.prog (fO .shr 136 x y) (.sc (.int .u64 (n : Int))) (.sc (.int k' 7)) = some (bI (n / 128)) := by
 rw [GQ Tryz.prog 136 x y .u64 k' n 7 (by omega), WL]; rfl
theorem qU (n : Nat) (hn : n < 2 ^ 64) : aP Tryz.prog 93 [bI n] (str (bs (uv n))) := by
 refine QN tt_ok [] 20 [.tmp 2] (fn := Tryz.f93) Tryz.func93 rfl Tryz.call93 ⟨rfl, rfl, by simp⟩ fun K hK => ?_
 have C1 : Tryz.prog.underlying 5 = some (.int .u8) := by kernel_rfl
 have gZ : Tryz.prog.underlying 136 = some (.int .u64) := by kernel_rfl
 have C2 : Tryz.prog.underlying 3 = some (.int .i64) := by kernel_rfl
 have KU := fun (k : IntKind) (n : Int) => ey (P := Tryz.prog) (src := 136) (dst := 5) gZ C1 k n
 have KV := fun (k : IntKind) (n : Int) => ey (P := Tryz.prog) (src := 3) (dst := 136) C2 gZ k n
 have hln := lR hn
 simp only [bI,KU,ez,bI,List.length_map,go_sem,reduceIte,zA,zB,zC,zD,zE,zF,reduceCtorEq]
 refine yK 3 0 1 (by decide) rfl ?_
 refine ct tt_ok [] (fun a : List UInt8 × Nat => [(0, bI a.2), (3, .ms 0 a.1.length 0 a.1.length)]) (fun a : List UInt8 × Nat => [.rows a.1.length 1 (a.1.map KP)]) (fun a => a.2) (fun a => a.1 ++ uv a.2 = uv n ∧ a.2 < 2 ^ 64) (([], n)) 1 (ba (by omega) (by simp only [bI,KU,ez,bI,List.length_map,List.map_nil,List.length_nil,bI,Int.cast_ofNat_Int,go_sem,reduceIte,zA,zB,zC,zD,zE,zF,reduceCtorEq] <;> rfl)) (⟨rfl, hn⟩) ?_
 rintro ⟨p, m⟩ ⟨hp, hm⟩
 try dsimp only at hp hm
 try dsimp only [bI]
 have Ab : p.length + (uv m).length ≤ 10 := by have := congrArg List.length hp; rw [List.length_append] at this; omega
 have dE : p.length + 1 ≤ 34359738368 := by omega
 intro Z1 bP
 simp only [bI,KU,ez,bI,List.length_map,go_sem,reduceIte,zA,zB,zC,zD,zE,zF,reduceCtorEq]
 refine aL (fun QV => ?_) (fun QV => ?_)
 ·have Rk : ¬ m < 128 := by have := of_decide_eq_true QV; omega
  have CA := u8_or m
  have ZF := fun x y k => KS x y k m
  have fp : ∀ x : Int, ca [V.sc (.int .u8 x)] 0 1 = true := fun x => rfl
  simp only [bI,CA,ZF,fp,dE,List.length_cons,List.length_nil,Nat.zero_add,KU,ez,bI,List.length_map,go_sem,reduceIte,zA,zB,zC,zD,zE,zF,reduceCtorEq]
  refine bP _ ⟨(p ++ [UInt8.ofNat (m % 128 + 128)], m / 128), ?_, ?_, ba (by omega) (by (simp [je, lk, aW, bo, ai, aA, List.map_append, KP, bI]))⟩
  ·refine ⟨?_, by dsimp only; omega⟩
   rw [← hp, wL Rk, List.append_assoc]; rfl
  ·dsimp only; omega
 ·have C7 : m < 128 := by have := of_decide_eq_false QV; omega
  have kQ := Te m C7
  have fp : ∀ x : Int, ca [V.sc (.int .u8 x)] 0 1 = true := fun x => rfl
  have pE : p ++ [UInt8.ofNat m] = uv n := by rw [← hp, lL C7]
  have Jn : ∀ mem : List ay, mem[0]? = some (.rows (p.length + 1) 1 (p.map KP ++ [V.sc (.int .u8 ((UInt8.ofNat m).toNat : Int))])) → kS Tryz.prog mem 159 9 (.ms 0 (p.length + 1) 0 (p.length + 1)) = some (str (bs (uv n))) := fun mem hm => by
   have h := KR (b := 0) (v := p.length + 1) (p ++ [UInt8.ofNat m]) (mem := mem) (by rw [hm]; simp [KP])
   rw [pE] at h
   rw [← h, ← pE, List.length_append]; rfl
  simp only [bI,kQ,fp,dE,Jn,List.length_append,List.length_cons,List.length_nil,Nat.zero_add,KU,ez,bI,List.length_map,go_sem,reduceIte,zA,zB,zC,zD,zE,zF,reduceCtorEq]
  exact hK _ rfl
theorem KW (s : ByteArray) (hs : s.size ≤ 1048576) : ∃ r_, (fun w => w = str (bs (eT s))) r_ ∧ aP Tryz.prog 58 [str s] r_ := by
 refine dI tt_ok [] 9 [.tmp 2] (fn := Tryz.f58) Tryz.func58 rfl Tryz.call58 ⟨rfl, rfl, by simp⟩ fun K hK => ?_
 have fR : Tryz.prog.underlying 9 = some .string := by kernel_rfl
 have sl : ∀ (a : ByteArray) (ty : TypeId), cN Tryz.prog (Builtin.len_ #[9] ty) [.sc (.string a)] = some (num a.size) := fun a ty => cx (P := Tryz.prog) (tt := tt) (T := 9) a fR ty
 have C1 : Tryz.prog.underlying 5 = some (.int .u8) := by kernel_rfl
 have gZ : Tryz.prog.underlying 136 = some (.int .u64) := by kernel_rfl
 have C2 : Tryz.prog.underlying 3 = some (.int .i64) := by kernel_rfl
 have KU := fun (k : IntKind) (n : Int) => ey (P := Tryz.prog) (src := 136) (dst := 5) gZ C1 k n
 have KV := fun (k : IntKind) (n : Int) => ey (P := Tryz.prog) (src := 3) (dst := 136) C2 gZ k n
 have hw := wrap64 s.size (by omega)
 have C8 := fun x y => oD Tryz.prog 9 x y (bs (uv s.size)) s (by have := lR (n := s.size) (by omega); rw [o7, show IntKind.i64.max = 9223372036854775807 from rfl]; omega)
 have FH := KQ s
 simp only [sl,KV,hw,C8,FH,go_sem,reduceIte,zA,zB,zC,zD,zE,zF,reduceCtorEq]
 refine cF (⟨_, rfl, qU s.size (by omega)⟩) ?_
 rintro _ rfl
 simp only [sl,KV,hw,C8,FH,go_sem,reduceIte,zA,zB,zC,zD,zE,zF,reduceCtorEq]
 exact hK _ rfl
theorem KX (n : Nat) (hn : n < 2 ^ 63) : ∃ r_, (fun w => w = .bT [str (bs (uv n)), num 0]) r_ ∧ aP Tryz.prog 56 [num n] r_ := by
 refine dI tt_ok [] 9 [.tmp 2, .tmp 3] (fn := Tryz.f56) Tryz.func56 rfl Tryz.call56 ⟨rfl, rfl, by simp⟩ fun K hK => ?_
 have C1 : Tryz.prog.underlying 5 = some (.int .u8) := by kernel_rfl
 have gZ : Tryz.prog.underlying 136 = some (.int .u64) := by kernel_rfl
 have C2 : Tryz.prog.underlying 3 = some (.int .i64) := by kernel_rfl
 have KU := fun (k : IntKind) (n : Int) => ey (P := Tryz.prog) (src := 136) (dst := 5) gZ C1 k n
 have KV := fun (k : IntKind) (n : Int) => ey (P := Tryz.prog) (src := 3) (dst := 136) C2 gZ k n
 have hw := wrap64 n (by omega)
 simp only [KV,hw,go_sem,reduceIte,zA,zB,zC,zD,zE,zF,reduceCtorEq]
 refine aL (fun QV => ?_) (fun QV => ?_)
 ·exact absurd (of_decide_eq_true QV) (by omega)
 ·simp only [KV,hw,go_sem,reduceIte,zA,zB,zC,zD,zE,zF,reduceCtorEq]
  refine cF (⟨_, rfl, qU n (by omega)⟩) ?_
  rintro _ rfl
  simp only [KV,hw,go_sem,reduceIte,zA,zB,zC,zD,zE,zF,reduceCtorEq]
  exact hK _ rfl
end Go.Proofs.YtnfeacnbgbggfaaGreatDoor
end

section
namespace Go.Proofs.YtnfeacnbgbggfaaGreatDoor
open Go.Eng
open Nat renaming reduceAdd → zA, reduceLT → zB, reduceLeDiff → zC, reduceMul → zD, reduceEqDiff → zE, reduceSub → zF
variable [aG]
set_option maxHeartbeats 4000000
set_option maxRecDepth 100000
theorem C9 (A B : List UInt8) (h : A.length + B.length ≤ 4611686018427387904) (x y : Operand) : aT Tryz.prog (fO .add 9 x y) (str (bs A)) (str (bs B)) = some (str (bs (A ++ B))) := by
 rw [← HF]
 exact oD Tryz.prog 9 x y (bs A) (bs B) (by rw [o7, o7, show IntKind.i64.max = 9223372036854775807 from rfl]; omega)
def mQ (n : Int) : List UInt8 := uv n.toNat
theorem HH (n : Int) (h0 : 0 ≤ n) (h : n < 9223372036854775808) : ∃ r_, (fun w => w = .bT [str (bs (mQ n)), num 0]) r_ ∧ aP Tryz.prog 56 [num n] r_ := by
 obtain ⟨k, rfl⟩ : ∃ k : Nat, n = k := ⟨n.toNat, by omega⟩
 exact KX k (by omega)
theorem dx {n : Int} (h0 : 0 ≤ n) (h : n < 9223372036854775808) : (mQ n).length ≤ 10 := lR (by omega)
theorem kK (t : ByteArray) (h : t.size ≤ 1048576) : (eT t).length ≤ 1048586 := by
 unfold eT; rw [List.length_append, eV]
 have := lR (n := t.size) (by omega)
 omega
theorem fM {α β : Type} {g : α → List β} {k : Nat} : ∀ {l : List α}, (∀ x ∈ l, (g x).length ≤ k) → (l.flatMap g).length ≤ k * l.length
 | [], _ => by simp
 | a :: t, h => by
  have h1 := h a (by simp)
  have h2 := fM (l := t) (g := g) (k := k) fun x hx => h x (by simp [hx])
  rw [List.flatMap_cons, List.length_append, List.length_cons, Nat.mul_succ]; omega
theorem mC {α β : Type} (g : α → List β) {l : List α} {i : Nat} {x : α} (h : l[i]? = some x) : (l.take (i + 1)).flatMap g = (l.take i).flatMap g ++ g x := by
 rw [List.take_add_one, h, List.flatMap_append]; simp
theorem zh {α : Type} {l : List α} {p : α → Prop} (h : ∀ x ∈ l, p x) (i : Nat) : ∀ x ∈ l.take i, p x := fun x hx => h x (List.mem_of_mem_take hx)
theorem vg {P : Program} {f : FuncId} {vs : List V} {r : V} {B0 B1 rj : ay} (h : aU P f vs [B0, B1] r [rj, B1]) (M : List ay) (k k2 : Nat) (hv : vs.all (ai 2) = true) (hm : [B0, B1].all (aA 2) = true) (hr : ai 2 r = true) (Gu : [rj, B1].all (aA 2) = true)
  (h1 : ∀ σ, cu σ B0 = B0) (h2 : ∀ σ, cu σ B1 = B1) (FI : ∀ σ, cu σ rj = rj) (hk : M[k]? = some B0) (jA : M[k2]? = some B1) (bO : k ≠ k2) :
  aU P f (cg (fun j => if j = 0 then k else if j = 1 then k2 else M.length + (j - 2)) vs) M (bw (fun j => if j = 0 then k else if j = 1 then k2 else M.length + (j - 2)) r) (M.set k rj) := by
 have h3 := h.yI M (fun j => if j = 0 then k else if j = 1 then k2 else M.length + (j - 2)) 2 rfl hv hm hr Gu (by simp) (fun i B hi => by
  match i with
  | 0 => simp at hi; subst hi; rw [h1]; simpa using hk
  | 1 => simp at hi; subst hi; rw [h2]; simpa using jA
  | i + 2 => simp at hi) (fun i j hi hj he => by
  match i, j with
  | 0, 0 => rfl
  | 1, 1 => rfl
  | 0, 1 => exact absurd (by simpa using he) bO
  | 1, 0 => exact absurd (by simpa using he.symm) bO
  | i + 2, _ => omega
  | _, j + 2 => omega) (fun j hj => by rw [if_neg (by omega), if_neg (by omega)])
 have hM : mM (fun j => if j = 0 then k else if j = 1 then k2 else M.length + (j - 2)) 2 [rj, B1] M = M.set k rj := by
  unfold mM
  simp only [Ev,List.map_nil,List.append_nil,gf]
  show (M.set k (cu _ rj)).set k2 (cu _ B1) = _
  rw [FI, h2]
  exact eU (by rw [List.getElem?_set_ne bO]; exact jA)
 rwa [hM] at h3
theorem HI (O : List UInt8) (l : List ByteArray) (hl : l.length ≤ 1048576) (hO : O.length ≤ 1152921504606846976) (hx : ∀ x ∈ l, x.size ≤ 1048576) : ∃ r_ m_, (fun r m => r = .bT [] ∧ m = [.box [str (bs (O ++ l.flatMap eT))], .rows 0 1 (l.map str)]) r_ m_ ∧ aU Tryz.prog 57 [.ms 1 0 0 l.length, .ptr 0 0] ([.box [str (bs O)], .rows 0 1 (l.map str)]) r_ m_ := by
 refine FF tt_ok [] 16 [] (2) (by simp) (fn := Tryz.f57) Tryz.func57 rfl Tryz.call57 ⟨rfl, rfl, by simp⟩ fun K hK => ?_
 have ZG := fM (g := eT) (l := l) (k := 1048586) fun x h => kK x (hx x h)
 simp only [List.length_map,go_sem,reduceIte,zA,zB,zC,zD,zE,zF,reduceCtorEq]
 refine ct tt_ok [] (fun i : Nat => [(1, .ptr 0 0), (5, .ms 1 0 0 l.length), (6, num l.length), (7, num i)]) (fun i : Nat => [.box [str (bs (O ++ (l.take i).flatMap eT))], .rows 0 1 (l.map str)]) (fun i => l.length - i) (fun i => i ≤ l.length) (0) 2 (ba (by omega) (by simp only [List.length_map,List.take_zero,List.flatMap_nil,List.append_nil,Int.cast_ofNat_Int,go_sem,reduceIte,zA,zB,zC,zD,zE,zF,reduceCtorEq] <;> rfl)) (Nat.zero_le _) ?_
 intro i hi
 intro Z1 bP
 simp only [List.length_map,go_sem,reduceIte,zA,zB,zC,zD,zE,zF,reduceCtorEq]
 refine aL (fun MJ => ?_) (fun MJ => ?_)
 ·have aB : i < l.length := by simpa using MJ
  have hw := ax i (by omega)
  rw [MJ]
  obtain ⟨x, Jo⟩ : ∃ x, l[i]? = some x := ⟨_, List.getElem?_eq_getElem aB⟩
  have cX : (i : Int) < (l.length : Int) := by omega
  have Tf := mC eT Jo
  have Jp := hx x (List.mem_of_getElem? Jo)
  have EL := fM (g := eT) (l := l.take i) (k := 1048586) fun x h => (by have hx := zh hx i; exact kK x (hx x h))
  have ZH : (eT x).length ≤ 1048586 := (by have hx : ∀ y ∈ [x], y.size ≤ 1048576 := (fun y hy => by rw [List.mem_singleton] at hy; exact hy ▸ Jp); have h : x ∈ [x] := (by simp); exact kK x (hx x h))
  rw [List.length_take] at EL
  have C8 := C9 (O ++ (l.take i).flatMap eT) (eT x) (by rw [List.length_append]; omega)
  simp only [hw,List.getElem?_map,Jo,cX,C8,Option.map_some,Int.natCast_nonneg,List.length_map,go_sem,reduceIte,zA,zB,zC,zD,zE,zF,reduceCtorEq]
  refine bu tt_ok aD [⟨.r, 0, [], [], []⟩, ⟨.n, 0, [], [], []⟩, ⟨.n, 0, [], [], []⟩, ⟨.n, 0, [], [], []⟩, ⟨.w, 0, [], [], []⟩] 1 (by kernel_rfl) ?_
  simp only [hw,List.getElem?_map,Jo,cX,C8,Option.map_some,Int.natCast_nonneg,List.length_map,go_sem,reduceIte,zA,zB,zC,zD,zE,zF,reduceCtorEq]
  refine cG (KW x Jp) ?_
  rintro _ rfl
  simp only [hw,List.getElem?_map,Jo,cX,C8,Option.map_some,Int.natCast_nonneg,List.length_map,go_sem,reduceIte,zA,zB,zC,zD,zE,zF,reduceCtorEq]
  refine bP _ ⟨i + 1, ?_, ?_, ba (by omega) (by (simp only [Tf,hw,List.append_assoc,go_sem,reduceIte,zA,zB,zC,zD,zE,zF,reduceCtorEq]))⟩
  ·exact aB
  ·omega
 ·have cB : ¬ i < l.length := by simpa using MJ
  have rZ : i = l.length := by omega
  subst rZ
  rw [List.take_length]
  simp only [List.length_map,go_sem,reduceIte,zA,zB,zC,zD,zE,zF,reduceCtorEq]
  exact hK _ _ ⟨rfl, rfl⟩
theorem KY (O : List UInt8) (l : List Int) (hl : l.length ≤ 1048576) (hO : O.length ≤ 1152921504606846976) (hx : ∀ x ∈ l, 0 ≤ x ∧ x < 9223372036854775808) : ∃ r_ m_, (fun r m => r = .bT [] ∧ m = [.box [str (bs (O ++ l.flatMap mQ))], .rows 0 1 (l.map num)]) r_ m_ ∧ aU Tryz.prog 55 [.ms 1 0 0 l.length, .ptr 0 0] ([.box [str (bs O)], .rows 0 1 (l.map num)]) r_ m_ := by
 refine FF tt_ok [] 22 [] (2) (by simp) (fn := Tryz.f55) Tryz.func55 rfl Tryz.call55 ⟨rfl, rfl, by simp⟩ fun K hK => ?_
 have ZG := fM (g := mQ) (l := l) (k := 10) fun x h => dx (hx x h).1 (hx x h).2
 simp only [List.length_map,go_sem,reduceIte,zA,zB,zC,zD,zE,zF,reduceCtorEq]
 refine ct tt_ok [] (fun i : Nat => [(1, .ptr 0 0), (7, .ms 1 0 0 l.length), (8, num l.length), (9, num i)]) (fun i : Nat => [.box [str (bs (O ++ (l.take i).flatMap mQ))], .rows 0 1 (l.map num)]) (fun i => l.length - i) (fun i => i ≤ l.length) (0) 2 (ba (by omega) (by simp only [List.length_map,List.take_zero,List.flatMap_nil,List.append_nil,Int.cast_ofNat_Int,go_sem,reduceIte,zA,zB,zC,zD,zE,zF,reduceCtorEq] <;> rfl)) (Nat.zero_le _) ?_
 intro i hi
 intro Z1 bP
 simp only [List.length_map,go_sem,reduceIte,zA,zB,zC,zD,zE,zF,reduceCtorEq]
 refine aL (fun cE => ?_) (fun cE => ?_)
 ·have aB : i < l.length := by simpa using cE
  have hw := ax i (by omega)
  rw [cE]
  obtain ⟨x, Jo⟩ : ∃ x, l[i]? = some x := ⟨_, List.getElem?_eq_getElem aB⟩
  have cX : (i : Int) < (l.length : Int) := by omega
  have Tf := mC mQ Jo
  have Jp := hx x (List.mem_of_getElem? Jo)
  have EL := fM (g := mQ) (l := l.take i) (k := 10) fun x h => (by have hx := zh hx i; exact dx (hx x h).1 (hx x h).2)
  have ZH : (mQ x).length ≤ 10 := (by have hx : ∀ y ∈ [x], 0 ≤ y ∧ y < 9223372036854775808 := (fun y hy => by rw [List.mem_singleton] at hy; exact hy ▸ Jp); have h : x ∈ [x] := (by simp); exact dx (hx x h).1 (hx x h).2)
  rw [List.length_take] at EL
  have C8 := C9 (O ++ (l.take i).flatMap mQ) (mQ x) (by rw [List.length_append]; omega)
  simp only [hw,List.getElem?_map,Jo,cX,C8,Option.map_some,Int.natCast_nonneg,List.length_map,go_sem,reduceIte,zA,zB,zC,zD,zE,zF,reduceCtorEq]
  refine cF (HH x Jp.1 Jp.2) ?_
  rintro _ rfl
  simp only [hw,List.getElem?_map,Jo,cX,C8,Option.map_some,Int.natCast_nonneg,List.length_map,go_sem,reduceIte,zA,zB,zC,zD,zE,zF,reduceCtorEq]
  refine bP _ ⟨i + 1, ?_, ?_, ba (by omega) (by (simp only [Tf,hw,List.append_assoc,go_sem,reduceIte,zA,zB,zC,zD,zE,zF,reduceCtorEq]))⟩
  ·exact aB
  ·omega
 ·have cB : ¬ i < l.length := by simpa using cE
  have rZ : i = l.length := by omega
  subst rZ
  rw [List.take_length]
  simp only [List.length_map,go_sem,reduceIte,zA,zB,zC,zD,zE,zF,reduceCtorEq]
  exact hK _ _ ⟨rfl, rfl⟩
theorem tm (O : List UInt8) (l : List ByteArray) (hl : l.length ≤ 1048576) (hO : O.length ≤ 1152921504606846976) (hx : ∀ x ∈ l, x.size ≤ 1048576) (M : List ay) (k k2 : Nat) (hk : M[k]? = some (.box [str (bs O)])) (jA : M[k2]? = some (.rows 0 1 (l.map str))) (bO : k ≠ k2) :
  ∃ r_ m_, (fun r m => r = .bT [] ∧ m = M.set k (.box [str (bs (O ++ l.flatMap eT))])) r_ m_ ∧ aU Tryz.prog 57 [.ms k2 0 0 l.length, .ptr k 0] M r_ m_ := by
 obtain ⟨r, m, ⟨rfl, rfl⟩, h⟩ := HI O l hl hO hx
 have h3 := vg h M k k2 (by simp [ai]) (by simp [aA, ai]) rfl (by simp [aA, ai]) (fun σ => by simp [cu, cg, bw]) (fun σ => by simp [cu, cg, bw]) (fun σ => by simp [cu, cg, bw]) hk jA bO
 exact ⟨_, _, ⟨rfl, rfl⟩, by simpa [cg, bw] using h3⟩
theorem rL (O : List UInt8) (l : List Int) (hl : l.length ≤ 1048576) (hO : O.length ≤ 1152921504606846976) (hx : ∀ x ∈ l, 0 ≤ x ∧ x < 9223372036854775808) (M : List ay) (k k2 : Nat) (hk : M[k]? = some (.box [str (bs O)])) (jA : M[k2]? = some (.rows 0 1 (l.map num))) (bO : k ≠ k2) :
  ∃ r_ m_, (fun r m => r = .bT [] ∧ m = M.set k (.box [str (bs (O ++ l.flatMap mQ))])) r_ m_ ∧ aU Tryz.prog 55 [.ms k2 0 0 l.length, .ptr k 0] M r_ m_ := by
 obtain ⟨r, m, ⟨rfl, rfl⟩, h⟩ := KY O l hl hO hx
 have h3 := vg h M k k2 (by simp [ai]) (by simp [aA, ai]) rfl (by simp [aA, ai]) (fun σ => by simp [cu, cg, bw]) (fun σ => by simp [cu, cg, bw]) (fun σ => by simp [cu, cg, bw]) hk jA bO
 exact ⟨_, _, ⟨rfl, rfl⟩, by simpa [cg, bw] using h3⟩
end Go.Proofs.YtnfeacnbgbggfaaGreatDoor
end

section
namespace Go.Proofs.YtnfeacnbgbggfaaGreatDoor
open Go.Eng
open Nat renaming reduceAdd → zA, reduceLT → zB, reduceLeDiff → zC, reduceMul → zD, reduceEqDiff → zE, reduceSub → zF
variable [aG]
set_option maxHeartbeats 4000000
set_option maxRecDepth 100000
theorem ig {P : Program} {f : FuncId} {vs : List V} {r : V} {B0 rj : ay} (h : aU P f vs [B0] r [rj]) (M : List ay) (k : Nat) (hv : vs.all (ai 1) = true) (hm : [B0].all (aA 1) = true) (hr : ai 1 r = true) (Gu : [rj].all (aA 1) = true)
  (h1 : ∀ σ, cu σ B0 = B0) (FI : ∀ σ, cu σ rj = rj) (hk : M[k]? = some B0) :
  aU P f (cg (fun j => if j = 0 then k else M.length + (j - 1)) vs) M (bw (fun j => if j = 0 then k else M.length + (j - 1)) r) (M.set k rj) := by
 have h3 := h.yI M (fun j => if j = 0 then k else M.length + (j - 1)) 1 rfl hv hm hr Gu (by simp) (fun i B hi => by
  match i with
  | 0 => simp at hi; subst hi; rw [h1]; simpa using hk
  | i + 1 => simp at hi) (fun i j hi hj he => by omega) (fun j hj => by rw [if_neg (by omega)])
 have hM : mM (fun j => if j = 0 then k else M.length + (j - 1)) 1 [rj] M = M.set k rj := by
  unfold mM
  simp only [Ev,List.map_nil,List.append_nil,gf]
  show M.set k (cu _ rj) = _
  rw [FI]
 rwa [hM] at h3
theorem vh (m c i : Nat) (hm : m < 2 ^ i) (hs : m + c * 2 ^ i < 2 ^ 64) : tl .u64 (m : Int) ((c * 2 ^ i : Nat) : Int) = ((m + c * 2 ^ i : Nat) : Int) := by
 unfold tl
 have e : (BitVec.ofInt IntKind.u64.bits (m : Int) ||| BitVec.ofInt IntKind.u64.bits ((c * 2 ^ i : Nat) : Int)).toNat = m + c * 2 ^ i := by
  show (BitVec.ofInt 64 (m : Int) ||| BitVec.ofInt 64 ((c * 2 ^ i : Nat) : Int)).toNat = _
  rw [BitVec.ofInt_natCast, BitVec.ofInt_natCast, BitVec.toNat_or, BitVec.toNat_ofNat, BitVec.toNat_ofNat, Nat.mod_eq_of_lt (by omega), Nat.mod_eq_of_lt (by omega)]
  have := Nat.two_pow_add_eq_or_of_lt hm c
  rw [Nat.or_comm, Nat.mul_comm c, ← this, Nat.add_comm]
 rw [e]
 exact wrap64 _ hs
theorem WM (c i : Nat) (h : c * 2 ^ (7 * i) < 2 ^ 64) (hi : i ≤ 9) : IntKind.u64.wrap ((c : Int) * 2 ^ min ((7 * i : Nat) : Int).toNat IntKind.u64.bits) = ((c * 2 ^ (7 * i) : Nat) : Int) := by
 have e : min ((7 * i : Nat) : Int).toNat IntKind.u64.bits = 7 * i := by
  show min ((7 * i : Nat) : Int).toNat 64 = 7 * i
  omega
 rw [e]
 have : (c : Int) * 2 ^ (7 * i) = ((c * 2 ^ (7 * i) : Nat) : Int) := by push_cast; rfl
 rw [this]
 exact wrap64 _ h
theorem Da (x y : Operand) (c i : Nat) (h : c * 2 ^ (7 * i) < 2 ^ 64) (hi : i ≤ 9) : aT Tryz.prog (fO .shl 136 x y) (.sc (.int .u64 (c : Int))) (num ((7 * i : Nat) : Int)) = some (bI (c * 2 ^ (7 * i))) := by
 rw [show num ((7 * i : Nat) : Int) = V.sc (.int .i64 ((7 * i : Nat) : Int)) from rfl, Pv 136 x y .u64 .i64 _ _ (by omega), WM c i h hi]; rfl
theorem HJ {s : ByteArray} {a : Nat} {c : UInt8} (h : s[a]? = some c) : from_ s a = c :: from_ s (a + 1) := by
 have h1 := jP h
 unfold from_
 obtain ⟨h2, h3⟩ := List.getElem?_eq_some_iff.1 h1
 rw [List.drop_eq_getElem_cons h2, h3]
theorem HK {s : ByteArray} {a : Nat} (h : s.size ≤ a) : from_ s a = [] := List.drop_eq_nil_of_le (by rw [Array.length_toList]; exact h)
theorem EM (i : Nat) : 2 ^ (7 * (i + 1)) = 128 * 2 ^ (7 * i) := by rw [show (128 : Nat) = 2 ^ 7 from rfl, ← Nat.pow_add]; congr 1; omega
def EN (s : ByteArray) (a : Nat) (r : V) : Prop := ∃ (n j : Nat) (ok : Bool), r = .bT [bI n, num j, bl ok] ∧ n < 2 ^ 64 ∧ j ≤ s.size ∧ (ok = (dN (from_ s a) 0 0).isSome) ∧ ∀ n' k, dN (from_ s a) 0 0 = some (n', k) → n = n' ∧ j = a + k
theorem EN.no {s : ByteArray} {a : Nat} (h : dN (from_ s a) 0 0 = none) : EN s a (.bT [bI 0, num (0 : Nat), bl false]) := ⟨0, 0, false, rfl, by decide, Nat.zero_le _, by rw [h]; rfl, fun _ _ h' => by rw [h] at h'; cases h'⟩
theorem MR {i m c : Nat} (hi : i ≤ 9) (hm : m < 2 ^ (7 * i)) (hc : c < 128) (h9 : i = 9 → c ≤ 1) : m + c * 2 ^ (7 * i) < 2 ^ 64 ∧ (i + 1 ≤ 9 → m + c * 2 ^ (7 * i) < 2 ^ (7 * (i + 1))) ∧ c * 2 ^ (7 * i) < 2 ^ 64 := by
 by_cases h : i = 9
 ·subst h
  have := h9 rfl
  refine ⟨?_, by omega, ?_⟩ <;> omega
 ·have h1 : c * 2 ^ (7 * i) ≤ 127 * 2 ^ (7 * i) := Nat.mul_le_mul_right _ (by omega)
  have h2 := EM i
  have h3 : 2 ^ (7 * (i + 1)) ≤ 2 ^ 63 := Nat.pow_le_pow_right (by omega) (by omega)
  refine ⟨?_, fun _ => ?_, ?_⟩ <;> omega
theorem EN.yes {s : ByteArray} {a i m : Nat} {c : UInt8} {ok : Bool} (jz : dN (from_ s a) 0 0 = if i = 0 ∨ 0 < c.toNat then some (m + c.toNat * 2 ^ (7 * i), i + 1) else none) (hc : c.toNat < 128) (ZI : m + c.toNat % 128 * 2 ^ (7 * i) < 2 ^ 64) (hj : a + i + 1 ≤ s.size) (bM : ok = decide (i = 0 ∨ 0 < c.toNat)) :
  EN s a (.bT [bI (m + c.toNat % 128 * 2 ^ (7 * i)), num (a + i + 1 : Nat), bl ok]) := by
 refine ⟨_, _, _, rfl, ZI, hj, ?_, fun n' k h => ?_⟩
 ·rw [jz, bM]; split <;> simp_all
 ·rw [jz] at h
  split at h
  ·simp only [Option.some.injEq,Prod.mk.injEq] at h
   rw [Nat.mod_eq_of_lt hc]
   exact ⟨h.1, by rw [← h.2, Nat.add_assoc]⟩
  ·cases h
def QW (s : ByteArray) (a : Nat) (r : V) : Prop := ∃ (n : Int) (j : Nat) (ok : Bool), r = .bT [num n, num j, bl ok] ∧ j ≤ s.size ∧ (ok = (oZ s a).isSome) ∧ ∀ n' k, oZ s a = some (n', k) → n = n' ∧ j = k
def MT (s : ByteArray) (a : Nat) : V := match Bb s a with | some (t, j) => .bT [str t, num j, bl true] | none => .bT [str ⟨#[]⟩, num 0, bl false]
theorem KZ (s : ByteArray) (hs : s.size ≤ 1073741824) (a a0 : Nat) (e : Int) (ha : a ≤ s.size) : ∃ r_, EN s a r_ ∧ aU Tryz.prog 131 [.ptr 0 0, num a] ([.box [str s, num a0, num e]]) r_ ([.box [str s, num a0, num e]]) := by
 refine FG tt_ok [] 54 [.tmp 4, .tmp 5, .tmp 6] (fn := Tryz.f131) Tryz.func131 rfl Tryz.call131 ⟨rfl, rfl, by simp⟩ fun K hK => ?_
 have fR : Tryz.prog.underlying 9 = some .string := by kernel_rfl
 have sl : ∀ (a : ByteArray) (ty : TypeId), cN Tryz.prog (Builtin.len_ #[9] ty) [.sc (.string a)] = some (num a.size) := fun a ty => cx (P := Tryz.prog) (tt := tt) (T := 9) a fR ty
 have C1 : Tryz.prog.underlying 5 = some (.int .u8) := by kernel_rfl
 have gZ : Tryz.prog.underlying 136 = some (.int .u64) := by kernel_rfl
 have C2 : Tryz.prog.underlying 3 = some (.int .i64) := by kernel_rfl
 have KU := fun (k : IntKind) (n : Int) => ey (P := Tryz.prog) (src := 136) (dst := 5) gZ C1 k n
 have KV := fun (k : IntKind) (n : Int) => ey (P := Tryz.prog) (src := 3) (dst := 136) C2 gZ k n
 have wT := fun (k : IntKind) (n : Int) => ey (P := Tryz.prog) (src := 5) (dst := 136) C1 gZ k n
 have ea := fun x y (b : UInt8) => Oe Tryz.prog 5 x y .u8 b.toNat 127
 have wU : ∀ b : UInt8, GR .u8 (b.toNat : Int) 127 = ((b.toNat % 128 : Nat) : Int) := fun b => Pw _ b.toNat_lt
 have wV : ∀ b : UInt8, IntKind.u64.wrap ((b.toNat % 128 : Nat) : Int) = ((b.toNat % 128 : Nat) : Int) := fun b => wrap64 _ (by omega)
 simp only [bI,sl,wT,ea,wU,wV,ez,bI,go_sem,reduceIte,zA,zB,zC,zD,zE,zF,reduceCtorEq]
 refine ct tt_ok [] (fun b : Nat × Nat => [(0, .ptr 0 0), (1, num (a + b.1 : Nat)), (7, bI b.2), (8, num (7 * b.1 : Nat))]) (fun b : Nat × Nat => [.box [str s, num a0, num e]]) (fun b => 10 - b.1) (fun b => b.1 ≤ 10 ∧ a + b.1 ≤ s.size ∧ b.2 < 2 ^ 64 ∧ (b.1 ≤ 9 → b.2 < 2 ^ (7 * b.1)) ∧ dN (from_ s a) 0 0 = dN (from_ s (a + b.1)) b.1 b.2) ((0, 0)) 1 (ba (by omega) (by simp only [bI,sl,wT,ea,wU,wV,ez,bI,bI,Nat.mul_zero,Nat.add_zero,Int.cast_ofNat_Int,go_sem,reduceIte,zA,zB,zC,zD,zE,zF,reduceCtorEq] <;> rfl)) (⟨by decide, ha, by decide, fun _ => by decide, rfl⟩) ?_
 rintro ⟨i, m⟩ ⟨hi, ZJ, WN, hm, jz⟩
 try dsimp only at hi ZJ WN hm jz
 try dsimp only [bI]
 have hw := ax (a + i) (by omega)
 have BE : IntKind.i64.wrap (((7 * i : Nat) : Int) + 7) = ((7 * (i + 1) : Nat) : Int) := by rw [IntWalk.i64_in _ (by omega)]; omega
 intro Z1 bP
 simp only [bI,sl,wT,ea,wU,wV,ez,bI,go_sem,reduceIte,zA,zB,zC,zD,zE,zF,reduceCtorEq]
 refine aL (fun zb => ?_) (fun zb => ?_)
 ·have aB : a + i < s.size := by have := of_decide_eq_true zb; omega
  obtain ⟨c, kE⟩ := bZ (s := s) (i := a + i) aB
  have c6 := cQ (P := Tryz.prog) s fR .i64 ((a + i : Nat) : Int) (by omega) (c := c) (show s[((a + i : Nat) : Int).toNat]? = some c from kE)
  have Ua := HJ kE
  rw [Ua, dN] at jz
  have jD := c.toNat_lt
  simp only [bI,c6,hw,BE,sl,wT,ea,wU,wV,ez,bI,go_sem,reduceIte,zA,zB,zC,zD,zE,zF,reduceCtorEq]
  refine aL (fun HL => ?_) (fun HL => ?_)
  ·have QQ : i ≤ 9 := by have := of_decide_eq_true HL; omega
   have UA := hm QQ
   simp only [bI,c6,hw,BE,sl,wT,ea,wU,wV,ez,bI,go_sem,reduceIte,zA,zB,zC,zD,zE,zF,reduceCtorEq]
   refine aL (fun Db => ?_) (fun Db => ?_)
   ·simp only [bI,c6,hw,BE,sl,wT,ea,wU,wV,ez,bI,go_sem,reduceIte,zA,zB,zC,zD,zE,zF,reduceCtorEq]
    refine aL (fun pV => ?_) (fun pV => ?_)
    ·have hR : EN s a (.bT [bI 0, num (0 : Nat), bl false]) := by
      rw [if_pos (.inr ⟨by have := of_decide_eq_true Db; omega, by have := of_decide_eq_true pV; omega⟩)] at jz
      exact EN.no jz
     simp only [bI,c6,hw,BE,sl,wT,ea,wU,wV,ez,bI,go_sem,reduceIte,zA,zB,zC,zD,zE,zF,reduceCtorEq]
     exact hK _ _ ⟨hR, rfl⟩
    ·have h9 : i = 9 → c.toNat ≤ 1 := by first | (intro _; have := of_decide_eq_false pV; omega) | (intro h; have := of_decide_eq_false Db; omega)
     obtain ⟨jC, gQ, QF⟩ := MR (c := c.toNat % 128) QQ UA (by omega) (fun h => by have := h9 h; omega)
     have lb := fun x y => Da x y (c.toNat % 128) i QF QQ
     have HM := vh m (c.toNat % 128) (7 * i) UA jC
     rw [if_neg (by omega)] at jz
     simp only [bI,c6,hw,BE,lb,HM,sl,wT,ea,wU,wV,ez,bI,go_sem,reduceIte,zA,zB,zC,zD,zE,zF,reduceCtorEq]
     refine aL (fun BF => ?_) (fun BF => ?_)
     ·have lS : c.toNat < 128 := by have := of_decide_eq_true BF; omega
      rw [if_pos lS] at jz
      simp only [bI,c6,hw,BE,lb,HM,sl,wT,ea,wU,wV,ez,bI,go_sem,reduceIte,zA,zB,zC,zD,zE,zF,reduceCtorEq]
      refine aL (fun nM => ?_) (fun nM => ?_)
      ·have hR := EN.yes (ok := true) jz lS jC (by omega) (by have := of_decide_eq_true nM; simp; omega)
       simp only [bI,c6,hw,BE,lb,HM,sl,wT,ea,wU,wV,ez,bI,go_sem,reduceIte,zA,zB,zC,zD,zE,zF,reduceCtorEq]
       exact hK _ _ ⟨hR, rfl⟩
      ·have hR := EN.yes (ok := decide (((7 * i : Nat) : Int) = 0)) jz lS jC (by omega) (by have := of_decide_eq_false nM; rw [decide_eq_decide]; omega)
       simp only [bI,c6,hw,BE,lb,HM,sl,wT,ea,wU,wV,ez,bI,go_sem,reduceIte,zA,zB,zC,zD,zE,zF,reduceCtorEq]
       exact hK _ _ ⟨hR, rfl⟩
     ·have lS : ¬ c.toNat < 128 := by have := of_decide_eq_false BF; omega
      rw [if_neg lS, show c.toNat - 128 = c.toNat % 128 by omega] at jz
      have yG : i + 1 ≤ 10 ∧ a + (i + 1) ≤ s.size ∧ m + c.toNat % 128 * 2 ^ (7 * i) < 2 ^ 64 ∧ (i + 1 ≤ 9 → m + c.toNat % 128 * 2 ^ (7 * i) < 2 ^ (7 * (i + 1))) ∧ dN (from_ s a) 0 0 = dN (from_ s (a + (i + 1))) (i + 1) (m + c.toNat % 128 * 2 ^ (7 * i)) := ⟨by omega, by omega, jC, gQ, jz⟩
      simp only [bI,c6,hw,BE,lb,HM,sl,wT,ea,wU,wV,ez,bI,go_sem,reduceIte,zA,zB,zC,zD,zE,zF,reduceCtorEq]
      refine bP _ ⟨(i + 1, m + c.toNat % 128 * 2 ^ (7 * i)), ?_, ?_, ba (by omega) (by (simp only [bI,Nat.add_assoc,bI,go_sem,reduceIte,zA,zB,zC,zD,zE,zF,reduceCtorEq]))⟩
      ·exact yG
      ·dsimp only; omega
   ·have h9 : i = 9 → c.toNat ≤ 1 := by first | (intro _; have := of_decide_eq_false pV; omega) | (intro h; have := of_decide_eq_false Db; omega)
    obtain ⟨jC, gQ, QF⟩ := MR (c := c.toNat % 128) QQ UA (by omega) (fun h => by have := h9 h; omega)
    have lb := fun x y => Da x y (c.toNat % 128) i QF QQ
    have HM := vh m (c.toNat % 128) (7 * i) UA jC
    rw [if_neg (by omega)] at jz
    simp only [bI,c6,hw,BE,lb,HM,sl,wT,ea,wU,wV,ez,bI,go_sem,reduceIte,zA,zB,zC,zD,zE,zF,reduceCtorEq]
    refine aL (fun BF => ?_) (fun BF => ?_)
    ·have lS : c.toNat < 128 := by have := of_decide_eq_true BF; omega
     rw [if_pos lS] at jz
     simp only [bI,c6,hw,BE,lb,HM,sl,wT,ea,wU,wV,ez,bI,go_sem,reduceIte,zA,zB,zC,zD,zE,zF,reduceCtorEq]
     refine aL (fun nM => ?_) (fun nM => ?_)
     ·have hR := EN.yes (ok := true) jz lS jC (by omega) (by have := of_decide_eq_true nM; simp; omega)
      simp only [bI,c6,hw,BE,lb,HM,sl,wT,ea,wU,wV,ez,bI,go_sem,reduceIte,zA,zB,zC,zD,zE,zF,reduceCtorEq]
      exact hK _ _ ⟨hR, rfl⟩
     ·have hR := EN.yes (ok := decide (((7 * i : Nat) : Int) = 0)) jz lS jC (by omega) (by have := of_decide_eq_false nM; rw [decide_eq_decide]; omega)
      simp only [bI,c6,hw,BE,lb,HM,sl,wT,ea,wU,wV,ez,bI,go_sem,reduceIte,zA,zB,zC,zD,zE,zF,reduceCtorEq]
      exact hK _ _ ⟨hR, rfl⟩
    ·have lS : ¬ c.toNat < 128 := by have := of_decide_eq_false BF; omega
     rw [if_neg lS, show c.toNat - 128 = c.toNat % 128 by omega] at jz
     have yG : i + 1 ≤ 10 ∧ a + (i + 1) ≤ s.size ∧ m + c.toNat % 128 * 2 ^ (7 * i) < 2 ^ 64 ∧ (i + 1 ≤ 9 → m + c.toNat % 128 * 2 ^ (7 * i) < 2 ^ (7 * (i + 1))) ∧ dN (from_ s a) 0 0 = dN (from_ s (a + (i + 1))) (i + 1) (m + c.toNat % 128 * 2 ^ (7 * i)) := ⟨by omega, by omega, jC, gQ, jz⟩
     simp only [bI,c6,hw,BE,lb,HM,sl,wT,ea,wU,wV,ez,bI,go_sem,reduceIte,zA,zB,zC,zD,zE,zF,reduceCtorEq]
     refine bP _ ⟨(i + 1, m + c.toNat % 128 * 2 ^ (7 * i)), ?_, ?_, ba (by omega) (by (simp only [bI,Nat.add_assoc,bI,go_sem,reduceIte,zA,zB,zC,zD,zE,zF,reduceCtorEq]))⟩
     ·exact yG
     ·dsimp only; omega
  ·have Ui : i = 10 := by have := of_decide_eq_false HL; omega
   rw [if_pos (.inl (by omega))] at jz
   have hR := EN.no jz
   simp only [bI,c6,hw,BE,sl,wT,ea,wU,wV,ez,bI,go_sem,reduceIte,zA,zB,zC,zD,zE,zF,reduceCtorEq]
   exact hK _ _ ⟨hR, rfl⟩
 ·have cB : s.size ≤ a + i := by have := of_decide_eq_false zb; omega
  rw [HK cB, dN] at jz
  have hR := EN.no jz
  simp only [bI,sl,wT,ea,wU,wV,ez,bI,go_sem,reduceIte,zA,zB,zC,zD,zE,zF,reduceCtorEq]
  exact hK _ _ ⟨hR, rfl⟩
end Go.Proofs.YtnfeacnbgbggfaaGreatDoor
end

section
namespace Go.Proofs.YtnfeacnbgbggfaaGreatDoor
open Go.Eng
open Nat renaming reduceAdd → zA, reduceLT → zB, reduceLeDiff → zC, reduceMul → zD, reduceEqDiff → zE, reduceSub → zF
variable [aG]
set_option maxHeartbeats 4000000
set_option maxRecDepth 100000
theorem QW.of {s : ByteArray} {a n j : Nat} {ok ok2 : Bool} (hn : n < 2 ^ 64) (hj : j ≤ s.size) (bM : ok = (dN (from_ s a) 0 0).isSome) (jz : ∀ n' k, dN (from_ s a) 0 0 = some (n', k) → n = n' ∧ j = a + k) (h2 : ok2 = (ok && decide (n < 9223372036854775808))) : QW s a (.bT [num (IntKind.i64.wrap (n : Int)), num j, bl ok2]) := by
 refine ⟨_, _, _, rfl, hj, ?_, fun n' k h => ?_⟩
 ·unfold oZ
  cases hs : dN (from_ s a) 0 0 with
  | none => rw [hs] at bM; rw [h2, bM]; rfl
  | some p =>
   obtain ⟨n0, k0⟩ := p
   obtain ⟨rfl, rfl⟩ := jz _ _ hs
   rw [hs] at bM
   rw [h2, bM]
   dsimp only
   by_cases h9 : n < 9223372036854775808 <;> simp [h9]
 ·unfold oZ at h
  cases hs : dN (from_ s a) 0 0 with
  | none => rw [hs] at h; cases h
  | some p =>
   obtain ⟨n0, k0⟩ := p
   obtain ⟨rfl, rfl⟩ := jz _ _ hs
   rw [hs] at h
   dsimp only at h
   split at h
   ·simp only [Option.some.injEq,Prod.mk.injEq] at h
    obtain ⟨rfl, rfl⟩ := h
    exact ⟨IntWalk.i64_in _ (by omega), rfl⟩
   ·cases h
theorem Tg (x y : Operand) (k' : IntKind) (n : Nat) : aT Tryz.prog (fO .shr 136 x y) (.sc (.int .u64 (n : Int))) (.sc (.int k' 63)) = some (bI (n / 9223372036854775808)) := by
 rw [GQ Tryz.prog 136 x y .u64 k' n 63 (by omega)]
 have : ((n : Int)).fdiv (2 ^ min (63 : Int).toNat IntKind.u64.bits) = ((n / 9223372036854775808 : Nat) : Int) := by
  show ((n : Int)).fdiv ((9223372036854775808 : Nat) : Int) = _
  rw [Int.fdiv_eq_ediv_of_nonneg _ (by omega)]; omega
 rw [this]; rfl
theorem BG {s : ByteArray} {a n j : Nat} (h : oZ s a = some (n, j)) : n < 9223372036854775808 ∧ j ≤ s.size := ⟨(Bd h).2.1, (Bd h).2.2.2.1⟩
theorem wW (s : ByteArray) (hs : s.size ≤ 1073741824) (a a0 : Nat) (e : Int) (ha : a ≤ s.size) : ∃ r_, QW s a r_ ∧ aU Tryz.prog 105 [.ptr 0 0, num a] ([.box [str s, num a0, num e]]) r_ ([.box [str s, num a0, num e]]) := by
 refine FG tt_ok [] 26 [.tmp 4, .tmp 5, .tmp 6] (fn := Tryz.f105) Tryz.func105 rfl Tryz.call105 ⟨rfl, rfl, by simp⟩ fun K hK => ?_
 have C1 : Tryz.prog.underlying 5 = some (.int .u8) := by kernel_rfl
 have gZ : Tryz.prog.underlying 136 = some (.int .u64) := by kernel_rfl
 have C2 : Tryz.prog.underlying 3 = some (.int .i64) := by kernel_rfl
 have KU := fun (k : IntKind) (n : Int) => ey (P := Tryz.prog) (src := 136) (dst := 5) gZ C1 k n
 have KV := fun (k : IntKind) (n : Int) => ey (P := Tryz.prog) (src := 3) (dst := 136) C2 gZ k n
 have UB := fun (k : IntKind) (n : Int) => ey (P := Tryz.prog) (src := 136) (dst := 3) gZ C2 k n
 simp only [UB,bI,go_sem,reduceIte,zA,zB,zC,zD,zE,zF,reduceCtorEq]
 refine cS (KZ s hs a a0 e ha) ?_
 rintro _ ⟨n, j, ok, rfl, Th, Tj, bM, jz⟩
 have Cl := fun x y k => Tg x y k n
 simp only [Cl,UB,bI,go_sem,reduceIte,zA,zB,zC,zD,zE,zF,reduceCtorEq]
 refine aL (fun HN => ?_) (fun HN => ?_)
 ·have hR := QW.of (ok2 := decide (((n / 9223372036854775808 : Nat) : Int) = 0)) Th Tj bM jz (by rw [HN, Bool.true_and, decide_eq_decide]; omega)
  simp only [Cl,UB,bI,go_sem,reduceIte,zA,zB,zC,zD,zE,zF,reduceCtorEq]
  exact hK _ _ ⟨hR, rfl⟩
 ·have hR := QW.of (ok2 := false) Th Tj bM jz (by rw [HN]; rfl)
  simp only [Cl,UB,bI,go_sem,reduceIte,zA,zB,zC,zD,zE,zF,reduceCtorEq]
  exact hK _ _ ⟨hR, rfl⟩
theorem BH (s : ByteArray) (hs : s.size ≤ 1073741824) (a a0 : Nat) (e : Int) (ha : a ≤ s.size) : ∃ r_, (fun w => w = MT s a) r_ ∧ aU Tryz.prog 100 [.ptr 0 0, num a] ([.box [str s, num a0, num e]]) r_ ([.box [str s, num a0, num e]]) := by
 refine FG tt_ok [] 42 [.tmp 4, .tmp 5, .tmp 6] (fn := Tryz.f100) Tryz.func100 rfl Tryz.call100 ⟨rfl, rfl, by simp⟩ fun K hK => ?_
 have fR : Tryz.prog.underlying 9 = some .string := by kernel_rfl
 have sl : ∀ (a : ByteArray) (ty : TypeId), cN Tryz.prog (Builtin.len_ #[9] ty) [.sc (.string a)] = some (num a.size) := fun a ty => cx (P := Tryz.prog) (tt := tt) (T := 9) a fR ty
 simp only [sl,go_sem,reduceIte,zA,zB,zC,zD,zE,zF,reduceCtorEq]
 refine cS (wW s hs a a0 e ha) ?_
 rintro _ ⟨n, j, ok, rfl, Tj, bM, jz⟩
 simp only [sl,go_sem,reduceIte,zA,zB,zC,zD,zE,zF,reduceCtorEq]
 refine aL (fun y7 => ?_) (fun y7 => ?_)
 ·have Px : ok = false := by simpa using y7
  have hR : MT s a = .bT [str ⟨#[]⟩, num 0, bl false] := by
   unfold MT Bb
   cases hr : oZ s a with
   | none => rfl
   | some p => rw [Px, hr] at bM; cases bM
  simp only [sl,go_sem,reduceIte,zA,zB,zC,zD,zE,zF,reduceCtorEq]
  exact hK _ _ ⟨hR.symm, rfl⟩
 ·have MU : ok = true := by simpa using y7
  obtain ⟨n0, j0, hr⟩ : ∃ n0 j0, oZ s a = some (n0, j0) := by
   cases hr : oZ s a with
   | none => rw [MU, hr] at bM; cases bM
   | some p => exact ⟨p.1, p.2, rfl⟩
  obtain ⟨rfl, rfl⟩ := jz _ _ hr
  have dE := BG hr
  have Bq : IntKind.i64.wrap ((s.size : Int) - (j : Int)) = (s.size : Int) - (j : Int) := IntWalk.i64_in _ (by omega)
  simp only [Bq,sl,go_sem,reduceIte,zA,zB,zC,zD,zE,zF,reduceCtorEq]
  refine aL (fun uw => ?_) (fun uw => ?_)
  ·have hR : MT s a = .bT [str ⟨#[]⟩, num 0, bl false] := by
    first
    | exact hR
    | (unfold MT Bb; rw [hr]; dsimp only; rw [if_neg (by have := of_decide_eq_true uw; omega)])
   simp only [Bq,sl,go_sem,reduceIte,zA,zB,zC,zD,zE,zF,reduceCtorEq]
   exact hK _ _ ⟨hR.symm, rfl⟩
  ·have hle : n0 ≤ s.size - j := by have := of_decide_eq_false uw; omega
   have hR : MT s a = .bT [str (s.extract j (j + n0)), num ((j + n0 : Nat) : Int), bl true] := by unfold MT Bb; rw [hr]; dsimp only; rw [if_pos hle]
   have ZK : IntKind.i64.wrap ((j : Int) + (n0 : Int)) = ((j + n0 : Nat) : Int) := by rw [IntWalk.i64_in _ (by omega)]; omega
   have O2 : aT Tryz.prog (fun a l => Instr.sliceAt 9 a (some l) (some (.int .i64 (((j + n0 : Nat) : Int)))) none) (.sc (.string s)) (.sc (.int .i64 ((j : Int)))) = some (.sc (.string (s.extract ((j : Int) : Int).toNat (((j + n0 : Nat) : Int) : Int).toNat))) := D3 (P := Tryz.prog) (tt := tt) (mem := []) (T := 9) s fR .i64 .i64 ((j : Int)) (((j + n0 : Nat) : Int)) (by omega) (by omega) (by omega)
   rw [Int.toNat_natCast, Int.toNat_natCast] at O2
   simp only [Bq,ZK,O2,bC,sl,go_sem,reduceIte,zA,zB,zC,zD,zE,zF,reduceCtorEq]
   exact hK _ _ ⟨hR.symm, rfl⟩
theorem K0 (s : ByteArray) (hs : s.size ≤ 1073741824) (a a0 : Nat) (e : Int) (ha : a ≤ s.size) (M : List ay) (k : Nat) (hk : M[k]? = some (.box [str s, num a0, num e])) : ∃ r_, QW s a r_ ∧ aU Tryz.prog 105 [.ptr k 0, num a] M r_ M := by
 obtain ⟨r, hr, h⟩ := wW s hs a a0 e ha
 have tX := hr
 obtain ⟨n, j, ok, rfl, -⟩ := tX
 have h3 := ig h M k (by simp [ai]) (by simp [aA, ai]) (by simp [ai, dp]) (by simp [aA, ai]) (fun σ => by simp [cu, cg, bw]) (fun σ => by simp [cu, cg, bw]) hk
 rw [eU hk] at h3
 exact ⟨_, hr, by simpa [cg, bw] using h3⟩
def k8 (s : ByteArray) (a : Nat) (e : Int) : Nat × Nat × Int := if e ≠ 0 then (0, a, e) else match oZ s a with | some (n, j) => (n, j, 0) | none => (0, a, 9)
def lT (s : ByteArray) (a : Nat) (e : Int) : ByteArray × Nat × Int := if e ≠ 0 then (⟨#[]⟩, a, e) else match Bb s a with | some (t, j) => (t, j, 0) | none => (⟨#[]⟩, a, 9)
def qV (fy : Int) (s : ByteArray) (a : Nat) (e : Int) : Nat × Nat × Int := if e ≠ 0 then (0, a, e) else match oZ s a with | some (n, j) => if (n : Int) ≤ fy then (n, j, 0) else (0, a, 9) | none => (0, a, 9)
def WO (fy : Int) (s : ByteArray) (a : Nat) (r : V) : Prop := ∃ (n : Int) (j : Nat) (ok : Bool), r = .bT [num n, num j, bl ok] ∧ (ok = match oZ s a with | some (n', _) => decide ((n' : Int) ≤ fy) | none => false) ∧ ∀ n' k, oZ s a = some (n', k) → n = n' ∧ j = k
theorem EO (s : ByteArray) (hs : s.size ≤ 1073741824) (fy : Int) (a a0 : Nat) (e : Int) (ha : a ≤ s.size) : ∃ r_, WO fy s a r_ ∧ aU Tryz.prog 106 [num a, .ptr 1 0, .ptr 2 0] ([.box [str s, num a0, num e], .box [.ptr 0 0], .box [num fy]]) r_ ([.box [str s, num a0, num e], .box [.ptr 0 0], .box [num fy]]) := by
 refine FG tt_ok [] 25 [.tmp 4, .tmp 5, .tmp 6] (fn := Tryz.f106) Tryz.func106 rfl Tryz.call106 ⟨rfl, rfl, by simp⟩ fun K hK => ?_
 simp only [go_sem,reduceIte,zA,zB,zC,zD,zE,zF,reduceCtorEq]
 refine cS (K0 s hs a a0 e ha _ 0 rfl) ?_
 rintro _ ⟨n, j, ok, rfl, Tj, bM, jz⟩
 simp only [go_sem,reduceIte,zA,zB,zC,zD,zE,zF,reduceCtorEq]
 refine bu tt_ok aD [⟨.n, 0, [], [], []⟩, ⟨.n, 0, [], [], []⟩, ⟨.n, 0, [], [], []⟩, ⟨.n, 0, [], [], []⟩, ⟨.n, 0, [], [], []⟩, ⟨.r, 0, [], [], []⟩, ⟨.n, 0, [], [], []⟩, ⟨.n, 0, [], [], []⟩, ⟨.n, 0, [], [], []⟩, ⟨.n, 0, [], [], []⟩, ⟨.n, 0, [], [], []⟩] 0 (by kernel_rfl) ?_
 simp only [go_sem,reduceIte,zA,zB,zC,zD,zE,zF,reduceCtorEq]
 refine aL (fun tc => ?_) (fun tc => ?_)
 ·have hR : WO fy s a (.bT [num n, num j, bl (decide (n ≤ fy))]) := by
   refine ⟨_, _, _, rfl, ?_, jz⟩
   cases hr : oZ s a with
   | none => rw [hr] at bM; rw [bM] at tc; cases tc
   | some p => obtain ⟨n0, j0⟩ := p; obtain ⟨rfl, rfl⟩ := jz _ _ hr; rfl
  simp only [go_sem,reduceIte,zA,zB,zC,zD,zE,zF,reduceCtorEq]
  exact hK _ _ ⟨hR, rfl⟩
 ·have hR : WO fy s a (.bT [num n, num j, bl false]) := by
   refine ⟨_, _, _, rfl, ?_, jz⟩
   cases hr : oZ s a with
   | none => rfl
   | some p => rw [hr] at bM; rw [bM] at tc; cases tc
  simp only [go_sem,reduceIte,zA,zB,zC,zD,zE,zF,reduceCtorEq]
  exact hK _ _ ⟨hR, rfl⟩
theorem HO (s : ByteArray) (hs : s.size ≤ 1073741824) (a : Nat) (e : Int) (ha : a ≤ s.size) : ∃ r_ m_, (fun r m => r = num (k8 s a e).1 ∧ m = [.box [str s, num (k8 s a e).2.1, num (k8 s a e).2.2]]) r_ m_ ∧ aU Tryz.prog 104 [.ptr 0 0, .fS (.func 105) [.ptr 0 0] []] ([.box [str s, num a, num e]]) r_ m_ := by
 refine FF tt_ok [] 36 [.tmp 4] (1) (by simp) (fn := Tryz.f104) Tryz.func104 rfl Tryz.call104 ⟨rfl, rfl, by simp⟩ fun K hK => ?_
 obtain ⟨σ, hσ⟩ : ∃ x, x = k8 s a e := ⟨_, rfl⟩
 rw [← hσ] at hK
 simp only [go_sem,reduceIte,zA,zB,zC,zD,zE,zF,reduceCtorEq]
 refine aL (fun lQ => ?_) (fun lQ => ?_)
 ·have he : e ≠ 0 := by simpa using lQ
  have gQ : σ = (0, a, e) := by rw [hσ]; unfold k8; rw [if_pos he]
  subst gQ
  simp only [go_sem,reduceIte,zA,zB,zC,zD,zE,zF,reduceCtorEq]
  exact hK _ _ ⟨rfl, rfl⟩
 ·have he : e = 0 := by simpa using lQ
  subst he
  simp only [go_sem,reduceIte,zA,zB,zC,zD,zE,zF,reduceCtorEq]
  refine cS (wW s hs a a 0 ha) ?_
  rintro _ ⟨n, j, ok, rfl, Tj, bM, jz⟩
  simp only [go_sem,reduceIte,zA,zB,zC,zD,zE,zF,reduceCtorEq]
  refine aL (fun gq => ?_) (fun gq => ?_)
  ·have Px : ok = false := by simpa using gq
   have hr : oZ s a = none := by
    cases hr : oZ s a with
    | none => rfl
    | some p => rw [Px, hr] at bM; cases bM
   have gQ : σ = (0, a, 9) := by rw [hσ]; unfold k8; rw [if_neg (by simp), hr]
   subst gQ
   simp only [go_sem,reduceIte,zA,zB,zC,zD,zE,zF,reduceCtorEq]
   exact hK _ _ ⟨rfl, rfl⟩
  ·have MU : ok = true := by simpa using gq
   obtain ⟨n0, j0, hr⟩ : ∃ n0 j0, oZ s a = some (n0, j0) := by
    cases hr : oZ s a with
    | none => rw [MU, hr] at bM; cases bM
    | some p => exact ⟨p.1, p.2, rfl⟩
   obtain ⟨rfl, rfl⟩ := jz _ _ hr
   have gQ : σ = (n0, j, 0) := by rw [hσ]; unfold k8; rw [if_neg (by simp), hr]
   subst gQ
   simp only [go_sem,reduceIte,zA,zB,zC,zD,zE,zF,reduceCtorEq]
   exact hK _ _ ⟨rfl, rfl⟩
theorem HP (s : ByteArray) (hs : s.size ≤ 1073741824) (fy : Int) (a : Nat) (e : Int) (ha : a ≤ s.size) : ∃ r_ m_, (fun r m => r = num (qV fy s a e).1 ∧ m = [.box [str s, num (qV fy s a e).2.1, num (qV fy s a e).2.2], .box [.ptr 0 0], .box [num fy]]) r_ m_ ∧ aU Tryz.prog 104 [.ptr 0 0, .fS (.func 106) [] [.ptr 1 0, .ptr 2 0]] ([.box [str s, num a, num e], .box [.ptr 0 0], .box [num fy]]) r_ m_ := by
 refine FF tt_ok [] 36 [.tmp 4] (3) (by simp) (fn := Tryz.f104) Tryz.func104 rfl Tryz.call104 ⟨rfl, rfl, by simp⟩ fun K hK => ?_
 obtain ⟨σ, hσ⟩ : ∃ x, x = qV fy s a e := ⟨_, rfl⟩
 rw [← hσ] at hK
 simp only [go_sem,reduceIte,zA,zB,zC,zD,zE,zF,reduceCtorEq]
 refine aL (fun lQ => ?_) (fun lQ => ?_)
 ·have he : e ≠ 0 := by simpa using lQ
  have gQ : σ = (0, a, e) := by rw [hσ]; unfold qV; rw [if_pos he]
  subst gQ
  simp only [go_sem,reduceIte,zA,zB,zC,zD,zE,zF,reduceCtorEq]
  exact hK _ _ ⟨rfl, rfl⟩
 ·have he : e = 0 := by simpa using lQ
  subst he
  simp only [go_sem,reduceIte,zA,zB,zC,zD,zE,zF,reduceCtorEq]
  refine cS (EO s hs fy a a 0 ha) ?_
  rintro _ ⟨n, j, ok, rfl, bM, jz⟩
  simp only [go_sem,reduceIte,zA,zB,zC,zD,zE,zF,reduceCtorEq]
  refine aL (fun gq => ?_) (fun gq => ?_)
  ·have Px : ok = false := by simpa using gq
   have gQ : σ = (0, a, 9) := by
    rw [hσ]; unfold qV; rw [if_neg (by simp)]
    cases hr : oZ s a with
    | none => rfl
    | some p =>
     obtain ⟨n0, j0⟩ := p
     rw [Px, hr] at bM
     exact if_neg (of_decide_eq_false bM.symm)
   subst gQ
   simp only [go_sem,reduceIte,zA,zB,zC,zD,zE,zF,reduceCtorEq]
   exact hK _ _ ⟨rfl, rfl⟩
  ·have MU : ok = true := by simpa using gq
   obtain ⟨n0, j0, hr⟩ : ∃ n0 j0, oZ s a = some (n0, j0) := by
    cases hr : oZ s a with
    | none => rw [MU, hr] at bM; cases bM
    | some p => exact ⟨p.1, p.2, rfl⟩
   obtain ⟨rfl, rfl⟩ := jz _ _ hr
   rw [MU, hr] at bM
   have gQ : σ = (n0, j, 0) := by rw [hσ]; unfold qV; rw [if_neg (by simp), hr]; exact if_pos (of_decide_eq_true bM.symm)
   subst gQ
   simp only [go_sem,reduceIte,zA,zB,zC,zD,zE,zF,reduceCtorEq]
   exact hK _ _ ⟨rfl, rfl⟩
theorem Tl (s : ByteArray) (hs : s.size ≤ 1073741824) (a a0 : Nat) (e : Int) (ha : a ≤ s.size) : ∃ r_, (∃ (t : ByteArray) (j : Nat) (ok : Bool), r_ = .bT [str t, num j, bl ok] ∧ (ok = true → Bb s a = some (t, j)) ∧ (ok = false → Bb s a = none)) ∧ aU Tryz.prog 100 [.ptr 0 0, num a] [.box [str s, num a0, num e]] r_ [.box [str s, num a0, num e]] := by
 obtain ⟨r, rfl, h⟩ := BH s hs a a0 e ha
 refine ⟨_, ?_, h⟩
 unfold MT
 cases hr : Bb s a with
 | none => exact ⟨_, 0, _, rfl, (fun h => by cases h), fun _ => rfl⟩
 | some p => obtain ⟨t, j⟩ := p; exact ⟨_, _, _, rfl, (fun _ => rfl), fun h => by cases h⟩
theorem HQ (s : ByteArray) (hs : s.size ≤ 1073741824) (a : Nat) (e : Int) (ha : a ≤ s.size) : ∃ r_ m_, (fun r m => r = str (lT s a e).1 ∧ m = [.box [str s, num (lT s a e).2.1, num (lT s a e).2.2]]) r_ m_ ∧ aU Tryz.prog 99 [.ptr 0 0, .fS (.func 100) [.ptr 0 0] []] ([.box [str s, num a, num e]]) r_ m_ := by
 refine FF tt_ok [] 36 [.tmp 4] (1) (by simp) (fn := Tryz.f99) Tryz.func99 rfl Tryz.call99 ⟨rfl, rfl, by simp⟩ fun K hK => ?_
 obtain ⟨σ, hσ⟩ : ∃ x, x = lT s a e := ⟨_, rfl⟩
 rw [← hσ] at hK
 simp only [go_sem,reduceIte,zA,zB,zC,zD,zE,zF,reduceCtorEq]
 refine aL (fun lQ => ?_) (fun lQ => ?_)
 ·have he : e ≠ 0 := by simpa using lQ
  have gQ : σ = (⟨#[]⟩, a, e) := by rw [hσ]; unfold lT; rw [if_pos he]
  subst gQ
  simp only [go_sem,reduceIte,zA,zB,zC,zD,zE,zF,reduceCtorEq]
  exact hK _ _ ⟨rfl, rfl⟩
 ·have he : e = 0 := by simpa using lQ
  subst he
  simp only [go_sem,reduceIte,zA,zB,zC,zD,zE,zF,reduceCtorEq]
  refine cS (Tl s hs a a 0 ha) ?_
  rintro _ ⟨t, j, ok, rfl, bM, ec⟩
  simp only [go_sem,reduceIte,zA,zB,zC,zD,zE,zF,reduceCtorEq]
  refine aL (fun gq => ?_) (fun gq => ?_)
  ·have Px : ok = false := by simpa using gq
   have hr := ec Px
   have gQ : σ = (⟨#[]⟩, a, 9) := by rw [hσ]; unfold lT; rw [if_neg (by simp), hr]
   subst gQ
   simp only [go_sem,reduceIte,zA,zB,zC,zD,zE,zF,reduceCtorEq]
   exact hK _ _ ⟨rfl, rfl⟩
  ·have MU : ok = true := by simpa using gq
   have hr := bM MU
   have gQ : σ = (t, j, 0) := by rw [hσ]; unfold lT; rw [if_neg (by simp), hr]
   subst gQ
   simp only [go_sem,reduceIte,zA,zB,zC,zD,zE,zF,reduceCtorEq]
   exact hK _ _ ⟨rfl, rfl⟩
end Go.Proofs.YtnfeacnbgbggfaaGreatDoor
end

section
namespace Go.Proofs.YtnfeacnbgbggfaaGreatDoor
open Go.Eng
open Nat renaming reduceAdd → zA, reduceLT → zB, reduceLeDiff → zC, reduceMul → zD, reduceEqDiff → zE, reduceSub → zF
variable [aG]
set_option maxHeartbeats 4000000
set_option maxRecDepth 100000
def pY (s : ByteArray) (a : Nat) (e : Int) : Int := if e = 0 ∧ a < s.size then 9 else e
theorem HR (s : ByteArray) (hs : s.size ≤ 1073741824) (a : Nat) (e : Int) (ha : a ≤ s.size) : ∃ r_ m_, (fun r m => r = str (lT s a e).1 ∧ m = [.box [str s, num (lT s a e).2.1, num (lT s a e).2.2]]) r_ m_ ∧ aU Tryz.prog 64 [.ptr 0 0] ([.box [str s, num a, num e]]) r_ m_ := by
 refine FF tt_ok [] 7 [.tmp 2] (1) (by simp) (fn := Tryz.f64) Tryz.func64 rfl Tryz.call64 ⟨rfl, rfl, by simp⟩ fun K hK => ?_
 simp only [go_sem,reduceIte,zA,zB,zC,zD,zE,zF,reduceCtorEq]
 refine cW (HQ s hs a e ha) ?_
 rintro _ _ ⟨rfl, rfl⟩
 simp only [go_sem,reduceIte,zA,zB,zC,zD,zE,zF,reduceCtorEq]
 exact hK _ _ ⟨rfl, rfl⟩
theorem HS (s : ByteArray) (hs : s.size ≤ 1073741824) (a : Nat) (e : Int) (ha : a ≤ s.size) : ∃ r_ m_, (fun r m => r = num (k8 s a e).1 ∧ m = [.box [str s, num (k8 s a e).2.1, num (k8 s a e).2.2]]) r_ m_ ∧ aU Tryz.prog 66 [.ptr 0 0] ([.box [str s, num a, num e]]) r_ m_ := by
 refine FF tt_ok [] 7 [.tmp 2] (1) (by simp) (fn := Tryz.f66) Tryz.func66 rfl Tryz.call66 ⟨rfl, rfl, by simp⟩ fun K hK => ?_
 simp only [go_sem,reduceIte,zA,zB,zC,zD,zE,zF,reduceCtorEq]
 refine cW (HO s hs a e ha) ?_
 rintro _ _ ⟨rfl, rfl⟩
 simp only [go_sem,reduceIte,zA,zB,zC,zD,zE,zF,reduceCtorEq]
 exact hK _ _ ⟨rfl, rfl⟩
theorem EP (s : ByteArray) (hs : s.size ≤ 1073741824) (fy : Int) (a : Nat) (e : Int) (ha : a ≤ s.size) : ∃ r_ m_, (fun r m => r = num (qV fy s a e).1 ∧ m = [.box [str s, num (qV fy s a e).2.1, num (qV fy s a e).2.2]]) r_ m_ ∧ aU Tryz.prog 67 [.ptr 0 0, num fy] ([.box [str s, num a, num e]]) r_ m_ := by
 refine FF tt_ok [] 8 [.tmp 4] (1) (by simp) (fn := Tryz.f67) Tryz.func67 rfl Tryz.call67 ⟨rfl, rfl, by simp⟩ fun K hK => ?_
 simp only [go_sem,reduceIte,zA,zB,zC,zD,zE,zF,reduceCtorEq]
 refine cW (HP s hs fy a e ha) ?_
 rintro _ _ ⟨rfl, rfl⟩
 simp only [go_sem,reduceIte,zA,zB,zC,zD,zE,zF,reduceCtorEq]
 exact hK _ _ ⟨rfl, rfl⟩
theorem lU (s : ByteArray) (hs : s.size ≤ 1073741824) (a : Nat) (e : Int) (ha : a ≤ s.size) (M : List ay) (k : Nat) (hk : M[k]? = some (.box [str s, num a, num e])) :
  ∃ r_ m_, (fun r m => r = str (lT s a e).1 ∧ m = M.set k (.box [str s, num (lT s a e).2.1, num (lT s a e).2.2])) r_ m_ ∧ aU Tryz.prog 64 [.ptr k 0] M r_ m_ := by
 obtain ⟨r, m, ⟨rfl, rfl⟩, h⟩ := HR s hs a e ha
 have h3 := ig h M k (by simp [ai]) (by simp [aA, ai]) (by simp [ai]) (by simp [aA, ai]) (fun σ => by simp [cu, cg, bw]) (fun σ => by simp [cu, cg, bw]) hk
 exact ⟨_, _, ⟨rfl, rfl⟩, by simpa [cg, bw] using h3⟩
theorem tn (s : ByteArray) (hs : s.size ≤ 1073741824) (a : Nat) (e : Int) (ha : a ≤ s.size) (M : List ay) (k : Nat) (hk : M[k]? = some (.box [str s, num a, num e])) :
  ∃ r_ m_, (fun r m => r = num (k8 s a e).1 ∧ m = M.set k (.box [str s, num (k8 s a e).2.1, num (k8 s a e).2.2])) r_ m_ ∧ aU Tryz.prog 66 [.ptr k 0] M r_ m_ := by
 obtain ⟨r, m, ⟨rfl, rfl⟩, h⟩ := HS s hs a e ha
 have h3 := ig h M k (by simp [ai]) (by simp [aA, ai]) (by simp [ai]) (by simp [aA, ai]) (fun σ => by simp [cu, cg, bw]) (fun σ => by simp [cu, cg, bw]) hk
 exact ⟨_, _, ⟨rfl, rfl⟩, by simpa [cg, bw] using h3⟩
theorem tp (s : ByteArray) (hs : s.size ≤ 1073741824) (a : Nat) (e : Int) (ha : a ≤ s.size) (k : Nat) :
  ∃ r_ B, (fun r B => r = num (k8 s a e).1 ∧ B = .box [str s, num (k8 s a e).2.1, num (k8 s a e).2.2]) r_ B ∧ B.aC = 0 ∧ ∀ M : List ay, M[k]? = some (.box [str s, num a, num e]) → aU Tryz.prog 66 [.ptr k 0] M r_ (M.set k B) :=
 ⟨_, _, ⟨rfl, rfl⟩, rfl, fun M hk => by obtain ⟨r, m, ⟨rfl, rfl⟩, h⟩ := tn s hs a e ha M k hk; exact h⟩
theorem pZ (s : ByteArray) (hs : s.size ≤ 1073741824) (fy : Int) (a : Nat) (e : Int) (ha : a ≤ s.size) (M : List ay) (k : Nat) (hk : M[k]? = some (.box [str s, num a, num e])) :
  ∃ r_ m_, (fun r m => r = num (qV fy s a e).1 ∧ m = M.set k (.box [str s, num (qV fy s a e).2.1, num (qV fy s a e).2.2])) r_ m_ ∧ aU Tryz.prog 67 [.ptr k 0, num fy] M r_ m_ := by
 obtain ⟨r, m, ⟨rfl, rfl⟩, h⟩ := EP s hs fy a e ha
 have h3 := ig h M k (by simp [ai]) (by simp [aA, ai]) (by simp [ai]) (by simp [aA, ai]) (fun σ => by simp [cu, cg, bw]) (fun σ => by simp [cu, cg, bw]) hk
 exact ⟨_, _, ⟨rfl, rfl⟩, by simpa [cg, bw] using h3⟩
theorem ER (s : ByteArray) (hs : s.size ≤ 1073741824) (a : Nat) (e : Int) : ∃ r_, (fun w => w = num e) r_ ∧ aU Tryz.prog 68 [.ptr 0 0] ([.box [str s, num a, num e]]) r_ ([.box [str s, num a, num e]]) := by
 refine FG tt_ok [] 7 [.tmp 2] (fn := Tryz.f68) Tryz.func68 rfl Tryz.call68 ⟨rfl, rfl, by simp⟩ fun K hK => ?_
 simp only [go_sem,reduceIte,zA,zB,zC,zD,zE,zF,reduceCtorEq]
 exact hK _ _ ⟨rfl, rfl⟩
theorem K1 (s : ByteArray) (hs : s.size ≤ 1073741824) (a : Nat) (e : Int) : ∃ r_, (fun w => w = num (pY s a e)) r_ ∧ aU Tryz.prog 69 [.ptr 0 0] ([.box [str s, num a, num e]]) r_ ([.box [str s, num a, num e]]) := by
 refine FG tt_ok [] 24 [.tmp 2] (fn := Tryz.f69) Tryz.func69 rfl Tryz.call69 ⟨rfl, rfl, by simp⟩ fun K hK => ?_
 have fR : Tryz.prog.underlying 9 = some .string := by kernel_rfl
 have sl : ∀ (a : ByteArray) (ty : TypeId), cN Tryz.prog (Builtin.len_ #[9] ty) [.sc (.string a)] = some (num a.size) := fun a ty => cx (P := Tryz.prog) (tt := tt) (T := 9) a fR ty
 simp only [sl,go_sem,reduceIte,zA,zB,zC,zD,zE,zF,reduceCtorEq]
 refine bu tt_ok aD [⟨.n, 0, [], [], []⟩, ⟨.n, 0, [], [], []⟩, ⟨.n, 0, [], [], []⟩, ⟨.r, 0, [], [], []⟩, ⟨.n, 0, [], [], []⟩, ⟨.n, 0, [], [], []⟩, ⟨.n, 0, [], [], []⟩, ⟨.n, 0, [], [], []⟩, ⟨.n, 0, [], [], []⟩, ⟨.r, 0, [], [], []⟩, ⟨.n, 0, [], [], []⟩, ⟨.n, 0, [], [], []⟩, ⟨.n, 0, [], [], []⟩, ⟨.r, 0, [], [], []⟩, ⟨.n, 0, [], [], []⟩, ⟨.n, 0, [], [], []⟩, ⟨.n, 0, [], [], []⟩] 0 (by kernel_rfl) ?_
 simp only [sl,go_sem,reduceIte,zA,zB,zC,zD,zE,zF,reduceCtorEq]
 refine aL (fun tq => ?_) (fun tq => ?_)
 ·have he : e = 0 := by simpa using tq
  simp only [sl,go_sem,reduceIte,zA,zB,zC,zD,zE,zF,reduceCtorEq]
  refine aL (fun nI => ?_) (fun nI => ?_)
  ·have hR : (9 : Int) = pY s a e := by unfold pY; rw [if_pos ⟨he, by have := of_decide_eq_true nI; omega⟩]
   simp only [sl,go_sem,reduceIte,zA,zB,zC,zD,zE,zF,reduceCtorEq]
   exact hK _ _ ⟨congrArg num hR, rfl⟩
  ·have hR : e = pY s a e := by first | exact hR | (unfold pY; rw [if_neg (fun h => by have := of_decide_eq_false nI; omega)])
   simp only [sl,go_sem,reduceIte,zA,zB,zC,zD,zE,zF,reduceCtorEq]
   exact hK _ _ ⟨congrArg num hR, rfl⟩
 ·have he : ¬ e = 0 := by simpa using tq
  have hR : e = pY s a e := by unfold pY; rw [if_neg (by simp [he])]
  simp only [sl,go_sem,reduceIte,zA,zB,zC,zD,zE,zF,reduceCtorEq]
  exact hK _ _ ⟨congrArg num hR, rfl⟩
theorem wX (s : ByteArray) : ∃ r_ m_, (fun r m => r = .ptr 0 0 ∧ m = [.box [str s, num (0 : Nat), num 0]]) r_ m_ ∧ aU Tryz.prog 63 [str s] ([]) r_ m_ := by
 refine FF tt_ok [] 6 [.tmp 2] (1) (by decide) (fn := Tryz.f63) Tryz.func63 rfl Tryz.call63 ⟨rfl, rfl, by simp⟩ fun K hK => ?_
 simp only [go_sem,reduceIte,zA,zB,zC,zD,zE,zF,reduceCtorEq]
 exact hK _ _ ⟨rfl, rfl⟩
theorem ES (s : ByteArray) (hs : s.size ≤ 1073741824) (a : Nat) (e : Int) (M : List ay) (k : Nat) (hk : M[k]? = some (.box [str s, num a, num e])) : ∃ r_, (fun w => w = num e) r_ ∧ aU Tryz.prog 68 [.ptr k 0] M r_ M := by
 obtain ⟨r, rfl, h⟩ := ER s hs a e
 have h3 := ig h M k (by simp [ai]) (by simp [aA, ai]) (by simp [ai]) (by simp [aA, ai]) (fun σ => by simp [cu, cg, bw]) (fun σ => by simp [cu, cg, bw]) hk
 rw [eU hk] at h3
 exact ⟨_, rfl, by simpa [cg, bw] using h3⟩
theorem K2 (s : ByteArray) (hs : s.size ≤ 1073741824) (a : Nat) (e : Int) (M : List ay) (k : Nat) (hk : M[k]? = some (.box [str s, num a, num e])) : ∃ r_, (fun w => w = num (pY s a e)) r_ ∧ aU Tryz.prog 69 [.ptr k 0] M r_ M := by
 obtain ⟨r, rfl, h⟩ := K1 s hs a e
 have h3 := ig h M k (by simp [ai]) (by simp [aA, ai]) (by simp [ai]) (by simp [aA, ai]) (fun σ => by simp [cu, cg, bw]) (fun σ => by simp [cu, cg, bw]) hk
 rw [eU hk] at h3
 exact ⟨_, rfl, by simpa [cg, bw] using h3⟩
theorem wY (s : ByteArray) (M : List ay) : ∃ r_ m_, (fun r m => r = .ptr M.length 0 ∧ m = M ++ [.box [str s, num (0 : Nat), num 0]]) r_ m_ ∧ aU Tryz.prog 63 [str s] M r_ m_ := by
 obtain ⟨r, m, ⟨rfl, rfl⟩, h⟩ := wX s
 have h2 := h.yI M (fun j => M.length + j) 0 rfl (by simp [ai]) rfl (by simp [ai]) (by simp [aA, ai]) (Nat.zero_le _) (fun i B hi => by simp at hi) (fun i j hi => by omega) (fun j _ => by omega)
 refine ⟨_, _, ⟨rfl, rfl⟩, ?_⟩
 simpa [cg, bw, cu, mM, gf] using h2
end Go.Proofs.YtnfeacnbgbggfaaGreatDoor
end

section
namespace Go.Proofs.YtnfeacnbgbggfaaGreatDoor
open Go.Eng
open Nat renaming reduceAdd → zA, reduceLT → zB, reduceLeDiff → zC, reduceMul → zD, reduceEqDiff → zE, reduceSub → zF
variable [aG]
set_option maxHeartbeats 4000000
set_option maxRecDepth 100000
theorem vi (hG : aG.g = some 0) (l : List Rl) (hb : tY l) (rows : List V) : ∃ r_, (fun w => w = num (dK l)) r_ ∧ aP Tryz.prog 22 [.agg [aY l, .slice rows]] r_ := ti hG l rows hb
theorem BI (r : Rl) : dK [r] = gr r := by
 unfold dK
 rw [if_neg (by simp)]
 unfold c8
 split
 ·rfl
 ·rename_i h; have h0 : gr r = 0 := by simpa using h
  simp [c8, h0]
theorem ET {P : bG → Prop} (hP : ∀ y z : bG, P y → P z → P ⟨y.lo, max y.hi z.hi⟩) {o : List bG} {x : bG} (ho : ∀ y ∈ o, P y) (hx : P x) : ∀ y ∈ dn o x, P y := by
 intro y hy
 unfold dn at hy
 split at hy
 ·rename_i z hz
  have ZL := List.mem_of_getLast? hz
  split at hy
  ·rcases List.mem_append.1 hy with h | h
   ·exact ho y (List.dropLast_subset _ h)
   ·rw [List.mem_singleton] at h; subst h; exact hP z x (ho z ZL) hx
  ·rcases List.mem_append.1 hy with h | h
   ·exact ho y h
   ·rw [List.mem_singleton] at h; subst h; exact hx
 ·rw [List.mem_singleton] at hy; subst hy; exact hx
def nN (x : bG) : Prop := 0 ≤ x.lo ∧ x.lo < x.hi ∧ x.hi ≤ 1000000
theorem EU (s : List bG) : ∀ x ∈ canon s, nN x := by
 have h1 : ∀ (l o : List bG), (∀ y ∈ l, nN y) → (∀ y ∈ o, nN y) → ∀ y ∈ l.foldl dn o, nN y := by
  intro l
  induction l with
  | nil => intro o _ ho; exact ho
  | cons a t ih =>
   intro o hl ho
   rw [List.foldl_cons]
   exact ih _ (fun y hy => hl y (by simp [hy])) (ET (fun y z hy hz => by unfold nN at *; dsimp only; omega) ho (hl a (by simp)))
 unfold canon merge
 refine h1 _ _ (fun y hy => ?_) (fun y hy => by simp at hy)
 have h2 := (nF (clip s) [] List.Pairwise.nil).2.subset hy
 exact wK y (by simpa using h2)
def QX (q : Rq) : Prop := bF q.path = 0 ∧ q.set = canon q.set ∧ q.set ≠ []
structure UC (r : Rl) : Prop where
 path : bF r.path = 0
 mj : r.aC.mj = bQ r.path
 aC : r.aC.ok = true
 len : r.reqs.length ≤ 16
 ar : jB r.ar = true
 gg : jB r.gg = true
 ce : jB r.ce = true
 reqs : ∀ q ∈ r.reqs, QX q
theorem Tm {c : Prop} [Decidable c] (h : (if c then (1 : Int) else 0) = 0) : ¬ c := fun hc => by rw [if_pos hc] at h; cases h
theorem vj : ∀ (l : List Rq) (b : Option Rq), eO b l = 0 → ∀ q ∈ l, QX q
 | [], b, _, q, hq => by simp at hq
 | a :: t, b, h, q, hq => by
  rw [eO] at h
  split at h
  ·rename_i h1; exact absurd h h1
  ·rename_i h1
   rcases List.mem_cons.1 hq with rfl | hq
   ·have h2 : mA q b = 0 := by simpa using h1
    unfold mA at h2
    split at h2
    ·omega
    ·rename_i h3
     have h4 := Tm h2
     simp only [Bool.or_eq_true,not_or,decide_eq_true_eq,Bool.not_eq_true',decide_eq_false_iff_not,Classical.not_not] at h4
     exact ⟨by simpa using h3, h4.1.2, fun e => h4.1.1 (by rw [e]; rfl)⟩
   ·exact vj t _ h q hq
theorem HT {r : Rl} (h : gr r = 0) : UC r := by
 unfold gr at h
 split at h
 ·omega
 ·rename_i h1
  split at h
  ·omega
  ·rename_i h2
   split at h
   ·rename_i h3; exact absurd h h3
   ·rename_i h3
    split at h
    ·rename_i h4
     have QE : fw r.reqs = 0 := by simpa using h3
     unfold fw at QE
     split at QE
     ·omega
     ·rename_i h5
      simp only [Bool.or_eq_true,not_or,Bool.not_eq_true',Bool.not_eq_false,decide_eq_true_eq] at h2
      simp only [Bool.and_eq_true] at h4
      exact ⟨by simpa using h1, by simpa using h2.2, h2.1, by omega, h4.1, h4.2.1, h4.2.2, vj _ _ QE⟩
    ·omega
theorem fN {s : ByteArray} (h : jB s = true) : s.size ≤ 32 := by
 unfold jB at h
 simp only [Bool.or_eq_true,decide_eq_true_eq] at h
 omega
theorem rM {v : dr} (h : v.ok = true) : (0 ≤ v.mj ∧ v.mj ≤ 999) ∧ (0 ≤ v.mn ∧ v.mn ≤ 999) ∧ 0 ≤ v.pt ∧ v.pt ≤ 999 := by
 unfold dr.ok gj at h
 simp only [Bool.and_eq_true,decide_eq_true_eq] at h
 omega
def EV (x : bG) : List UInt8 := mQ x.lo ++ mQ x.hi
def vk (q : Rq) : List UInt8 := (eT q.path ++ mQ (q.set.length : Int)) ++ q.set.flatMap EV
def xw (r : Rl) : Int := if r.yk = true then 1 else 0
def FJ (r : Rl) : List UInt8 := ((eT r.path ++ (mQ r.aC.mn ++ (mQ r.aC.pt ++ mQ (xw r)))) ++ (eT r.ar ++ (eT r.gg ++ eT r.ce))) ++ mQ (r.reqs.length : Int)
def qa (r : Rl) : List UInt8 := FJ r ++ r.reqs.flatMap vk
def EW (r : Rl) : V := if dK [r] = 0 then .bT [str (bs (qa r)), num 0] else .bT [str (bs []), num (dK [r])]
theorem nO (r : Rl) : 0 ≤ xw r ∧ xw r ≤ 1 := by unfold xw; split <;> omega
theorem K3 {x : bG} (h : nN x) : (EV x).length ≤ 20 := by
 have h1 := dx (n := x.lo) (by unfold nN at h; omega) (by unfold nN at h; omega)
 have h2 := dx (n := x.hi) (by unfold nN at h; omega) (by unfold nN at h; omega)
 unfold EV
 simp only [List.length_append]; omega
theorem kL {q : Rq} (h : QX q) : ∀ x ∈ q.set, nN x := by
 rw [h.2.1]; exact EU _
theorem wZ {l : List bG} (h : ∀ x ∈ l, nN x) : (l.flatMap EV).length ≤ 20 * l.length := fM fun x hx => K3 (h x hx)
theorem K4 {q : Rq} (h : QX q) (hb : qS q) : (vk q).length ≤ 22020190 := by
 have h1 := wZ (kL h)
 have h2 := dx (n := (q.set.length : Int)) (by omega) (by have := hb.2; omega)
 have h3 := kK q.path hb.1
 have h4 := hb.2
 unfold vk
 simp only [List.length_append]
 omega
theorem K5 {r : Rl} (h : UC r) (hb : Jm r) : (FJ r).length ≤ 8388608 := by
 have h1 := kK r.path hb.1
 have h2 := kK r.ar (by have := fN h.ar; omega)
 have h3 := kK r.gg (by have := fN h.gg; omega)
 have h4 := kK r.ce (by have := fN h.ce; omega)
 have hv := rM h.aC
 have h5 := dx (n := r.aC.mn) (by omega) (by omega)
 have h6 := dx (n := r.aC.pt) (by omega) (by omega)
 have h7 := dx (n := xw r) (by have := nO r; omega) (by have := nO r; omega)
 have h8 := dx (n := (r.reqs.length : Int)) (by omega) (by have := h.len; omega)
 unfold FJ
 simp only [List.length_append]
 omega
theorem HU {r : Rl} (h : UC r) (hb : Jm r) (i : Nat) : ((r.reqs.take i).flatMap vk).length ≤ 352323040 := by
 have h1 := fM (g := vk) (l := r.reqs.take i) (k := 22020190) fun q hq => K4 (h.reqs q (List.mem_of_mem_take hq)) (hb.2.2 q (List.mem_of_mem_take hq))
 have h2 := h.len
 rw [List.length_take] at h1
 have : min i r.reqs.length ≤ 16 := by omega
 have := Nat.mul_le_mul_left 22020190 this
 omega
theorem zi (hG : aG.g = some 0) (r : Rl) (hb : Jm r) : ∃ r_, (fun w => w = EW r) r_ ∧ aP Tryz.prog 17 [ag r] r_ := by
 refine dI tt_ok [30000] 89 [.tmp 2, .tmp 3] (fn := Tryz.f17) Tryz.func17 rfl Tryz.call17 ⟨rfl, rfl, by simp⟩ fun K hK => ?_
 simp only [ag,ab,ah]
 have Py := BI r
 have Pz : tY [r] := ⟨by simp, fun x hx => by rw [List.mem_singleton] at hx; exact hx ▸ hb⟩
 have bB : ∀ (mem : List ay) (ks : List (Nat × Nat)) (n : Int), cP mem ks (num n) = mem := fun _ _ _ => rfl
 simp only [List.length_map,bB,List.flatMap_nil,List.append_nil,go_sem,reduceIte,zA,zB,zC,zD,zE,zF,reduceCtorEq]
 refine sq tt_ok [30000] ?_
 simp only [List.length_map,bB,List.flatMap_nil,List.append_nil,go_sem,reduceIte,zA,zB,zC,zD,zE,zF,reduceCtorEq]
 refine cF (by have h := vi hG [r] Pz []; simp only [aY,List.map_cons,List.map_nil,ag,ab,ah] at h; exact h) ?_
 rintro _ rfl
 simp only [List.length_map,bB,List.flatMap_nil,List.append_nil,go_sem,reduceIte,zA,zB,zC,zD,zE,zF,reduceCtorEq]
 refine aL (fun o5 => ?_) (fun o5 => ?_)
 ·have bO : dK [r] ≠ 0 := by simpa using o5
  have aw : V.bT [str ⟨#[]⟩, num (dK [r])] = EW r := by unfold EW; rw [if_neg bO]; rfl
  simp only [List.length_map,bB,List.flatMap_nil,List.append_nil,go_sem,reduceIte,zA,zB,zC,zD,zE,zF,reduceCtorEq]
  exact hK _ aw
 ·have c6 : dK [r] = 0 := by simpa using o5
  have MV := HT (Py ▸ c6)
  have hv := rM MV.aC
  have WQ := nO r
  have ZM := K5 MV hb
  have Vp := HU MV hb
  have Mc : (eT r.path).length ≤ 8388608 ∧ (mQ r.aC.mn).length + ((mQ r.aC.pt).length + (mQ (xw r)).length) ≤ 8388608 ∧ (eT r.ar).length + ((eT r.gg).length + (eT r.ce).length) ≤ 8388608 := by
   have h := ZM
   unfold FJ at h
   simp only [List.length_append] at h
   omega
  have ZN : ∀ x ∈ [r.aC.mn, r.aC.pt, xw r], 0 ≤ x ∧ x < 9223372036854775808 := by intro x hx; simp at hx; rcases hx with rfl | rfl | rfl <;> omega
  have ZO : ∀ x ∈ [r.ar, r.gg, r.ce], x.size ≤ 1048576 := by
   have h1 := fN MV.ar
   have h2 := fN MV.gg
   have h3 := fN MV.ce
   intro x hx; simp at hx; rcases hx with rfl | rfl | rfl <;> omega
  have jq := MV.len
  have aw : V.bT [str (bs (FJ r ++ r.reqs.flatMap vk)), num 0] = EW r := by unfold EW; rw [if_pos c6]; rfl
  simp only [List.length_map,bB,List.flatMap_nil,List.append_nil,go_sem,reduceIte,zA,zB,zC,zD,zE,zF,reduceCtorEq]
  refine cW (tm [] [r.path] (by simp) (by simp) (by simpa using hb.1) _ 2 3 rfl rfl (by decide)) ?_
  rintro _ _ ⟨rfl, rfl⟩
  try simp only [List.set_cons_zero,List.set_cons_succ]
  simp only [List.length_map,bB,List.flatMap_nil,List.append_nil,go_sem,reduceIte,zA,zB,zC,zD,zE,zF,reduceCtorEq]
  refine SK tt_ok [30000] [8] 4 [0,1,2,3,4,5,6,7,13,14,15,16,17,18,19,20,21,22,23,24,25] (fun vs => vs = [num (xw r)]) (fun Z1 bP => ?_) ?_
  ·simp only [List.length_map,bB,List.flatMap_nil,List.append_nil,go_sem,reduceIte,zA,zB,zC,zD,zE,zF,reduceCtorEq]
   refine aL (fun Pf => ?_) (fun Pf => ?_)
   ·simp only [List.length_map,bB,List.flatMap_nil,List.append_nil,go_sem,reduceIte,zA,zB,zC,zD,zE,zF,reduceCtorEq]
    refine bP _ (SJ (by omega) (by simp only [List.length_map,bB,List.flatMap_nil,List.append_nil,go_sem,reduceIte,zA,zB,zC,zD,zE,zF,reduceCtorEq]) ?_)
    simp only [fa,lk,reduceIte,zE]
    simp_all [xw]
   ·simp only [List.length_map,bB,List.flatMap_nil,List.append_nil,go_sem,reduceIte,zA,zB,zC,zD,zE,zF,reduceCtorEq]
    refine bP _ (SJ (by omega) (by simp only [List.length_map,bB,List.flatMap_nil,List.append_nil,go_sem,reduceIte,zA,zB,zC,zD,zE,zF,reduceCtorEq]) ?_)
    simp only [fa,lk,reduceIte,zE]
    simp_all [xw]
  ·intro vs hJ
   obtain rfl := hJ
   simp only [List.length_map,bB,List.flatMap_nil,List.append_nil,go_sem,reduceIte,zA,zB,zC,zD,zE,zF,reduceCtorEq]
   refine cW (rL (eT r.path) [r.aC.mn, r.aC.pt, xw r] (by simp) (by (try simp only [List.length_append]); omega) ZN _ 2 4 rfl rfl (by decide)) ?_
   rintro _ _ ⟨rfl, rfl⟩
   try simp only [List.set_cons_zero,List.set_cons_succ]
   simp only [List.length_map,bB,List.flatMap_nil,List.append_nil,go_sem,reduceIte,zA,zB,zC,zD,zE,zF,reduceCtorEq]
   refine cW (tm (eT r.path ++ (mQ r.aC.mn ++ (mQ r.aC.pt ++ mQ (xw r)))) [r.ar, r.gg, r.ce] (by simp) (by (try simp only [List.length_append]); omega) ZO _ 2 5 rfl rfl (by decide)) ?_
   rintro _ _ ⟨rfl, rfl⟩
   try simp only [List.set_cons_zero,List.set_cons_succ]
   simp only [List.length_map,bB,List.flatMap_nil,List.append_nil,go_sem,reduceIte,zA,zB,zC,zD,zE,zF,reduceCtorEq]
   refine cW (rL ((eT r.path ++ (mQ r.aC.mn ++ (mQ r.aC.pt ++ mQ (xw r)))) ++ (eT r.ar ++ (eT r.gg ++ eT r.ce))) [(r.reqs.length : Int)] (by simp) (by (try simp only [List.length_append]); omega) (by simp; omega) _ 2 6 rfl rfl (by decide)) ?_
   rintro _ _ ⟨rfl, rfl⟩
   try simp only [List.set_cons_zero,List.set_cons_succ]
   simp only [List.length_map,bB,List.flatMap_nil,List.append_nil,go_sem,reduceIte,zA,zB,zC,zD,zE,zF,reduceCtorEq]
   refine sq tt_ok [30000] ?_
   simp only [List.length_map,bB,List.flatMap_nil,List.append_nil,go_sem,reduceIte,zA,zB,zC,zD,zE,zF,reduceCtorEq]
   refine ct tt_ok [30000] (fun i : Nat => [(5, .ptr 2 0), (6, .fS (.func 55) [] [.ptr 2 0]), (7, .fS (.func 57) [] [.ptr 2 0]), (55, .slice (r.reqs.map al)), (56, num r.reqs.length), (57, num i)]) (fun i : Nat => [.box [str r.path, num r.aC.mj, num r.aC.mn, num r.aC.pt, .slice (r.reqs.map al), str r.ar, str r.gg, str r.ce, bl r.yk], .rows 0 9 [.agg [str r.path, num r.aC.mj, num r.aC.mn, num r.aC.pt, .slice (r.reqs.map al), str r.ar, str r.gg, str r.ce, bl r.yk]], .box [str (bs (FJ r ++ (r.reqs.take i).flatMap vk))], .rows 0 1 [str r.path], .rows 0 1 [num r.aC.mn, num r.aC.pt, num (xw r)], .rows 0 1 [str r.ar, str r.gg, str r.ce], .rows 0 1 [num r.reqs.length]]) (fun i => r.reqs.length - i) (fun i => i ≤ r.reqs.length) (0) 7 (ba (by omega) (by simp only [List.length_map,bB,List.flatMap_nil,List.append_nil,List.take_zero,List.flatMap_nil,List.append_nil,Int.cast_ofNat_Int,go_sem,reduceIte,zA,zB,zC,zD,zE,zF,reduceCtorEq] <;> rfl)) (Nat.zero_le _) ?_
   intro i hi
   intro Z2 mP
   simp only [List.length_map,bB,List.flatMap_nil,List.append_nil,go_sem,reduceIte,zA,zB,zC,zD,zE,zF,reduceCtorEq]
   refine aL (fun K6 => ?_) (fun K6 => ?_)
   ·have aB : i < r.reqs.length := by simpa using K6
    rw [K6]
    have cX : (i : Int) < (r.reqs.length : Int) := by omega
    have hw := ax i (by omega)
    obtain ⟨q, hx⟩ : ∃ q, r.reqs[i]? = some q := ⟨_, List.getElem?_eq_getElem aB⟩
    have K7 := List.mem_of_getElem? hx
    have FR := hb.2.2 q K7
    have ZP := MV.reqs q K7
    have tW := kL ZP
    have Tf := mC vk hx
    have ZQ := Vp i
    have hlp := kK q.path FR.1
    have Rr := FR.2
    have hls := dx (n := (q.set.length : Int)) (by omega) (by omega)
    simp only [hw,List.getElem?_map,hx,Option.map_some,al,ak,cX,Int.natCast_nonneg,List.length_map,bB,List.flatMap_nil,List.append_nil,go_sem,reduceIte,zA,zB,zC,zD,zE,zF,reduceCtorEq]
    refine cW (tm (FJ r ++ (r.reqs.take i).flatMap vk) [q.path] (by simp) (by rw [List.length_append]; omega) (by simpa using FR.1) _ 2 8 rfl rfl (by decide)) ?_
    rintro _ _ ⟨rfl, rfl⟩
    try simp only [List.set_cons_zero,List.set_cons_succ]
    simp only [hw,List.getElem?_map,hx,Option.map_some,al,ak,cX,Int.natCast_nonneg,List.length_map,bB,List.flatMap_nil,List.append_nil,go_sem,reduceIte,zA,zB,zC,zD,zE,zF,reduceCtorEq]
    refine cW (rL ((FJ r ++ (r.reqs.take i).flatMap vk) ++ eT q.path) [(q.set.length : Int)] (by simp) (by (try simp only [List.length_append]); omega) (by simp; omega) _ 2 9 rfl rfl (by decide)) ?_
    rintro _ _ ⟨rfl, rfl⟩
    try simp only [List.set_cons_zero,List.set_cons_succ]
    simp only [hw,List.getElem?_map,hx,Option.map_some,al,ak,cX,Int.natCast_nonneg,List.length_map,bB,List.flatMap_nil,List.append_nil,go_sem,reduceIte,zA,zB,zC,zD,zE,zF,reduceCtorEq]
    refine ct tt_ok [30000] (fun j : Nat => [(5, .ptr 2 0), (6, .fS (.func 55) [] [.ptr 2 0]), (7, .fS (.func 57) [] [.ptr 2 0]), (55, .slice (r.reqs.map al)), (56, num r.reqs.length), (57, num i), (73, .slice (q.set.map aj)), (74, num q.set.length), (75, num j)]) (fun j : Nat => [.box [str r.path, num r.aC.mj, num r.aC.mn, num r.aC.pt, .slice (r.reqs.map al), str r.ar, str r.gg, str r.ce, bl r.yk], .rows 0 9 [.agg [str r.path, num r.aC.mj, num r.aC.mn, num r.aC.pt, .slice (r.reqs.map al), str r.ar, str r.gg, str r.ce, bl r.yk]], .box [str (bs ((((FJ r ++ (r.reqs.take i).flatMap vk) ++ eT q.path) ++ mQ (q.set.length : Int)) ++ (q.set.take j).flatMap EV))], .rows 0 1 [str r.path], .rows 0 1 [num r.aC.mn, num r.aC.pt, num (xw r)], .rows 0 1 [str r.ar, str r.gg, str r.ce], .rows 0 1 [num r.reqs.length], .box [str q.path, .slice (q.set.map aj)], .rows 0 1 [str q.path], .rows 0 1 [num q.set.length]]) (fun j => q.set.length - j) (fun j => j ≤ q.set.length) (0) 10 (ba (by omega) (by simp only [hw,List.getElem?_map,hx,Option.map_some,al,ak,cX,Int.natCast_nonneg,List.length_map,bB,List.flatMap_nil,List.append_nil,List.take_zero,List.flatMap_nil,List.append_nil,Int.cast_ofNat_Int,go_sem,reduceIte,zA,zB,zC,zD,zE,zF,reduceCtorEq] <;> rfl)) (Nat.zero_le _) ?_
    intro j hj
    intro Z3 w4
    simp only [hw,List.getElem?_map,hx,Option.map_some,al,ak,cX,Int.natCast_nonneg,List.length_map,bB,List.flatMap_nil,List.append_nil,go_sem,reduceIte,zA,zB,zC,zD,zE,zF,reduceCtorEq]
    refine aL (fun K8 => ?_) (fun K8 => ?_)
    ·have EL : j < q.set.length := by simpa using K8
     rw [K8]
     have Tn : (j : Int) < (q.set.length : Int) := by omega
     have D4 := ax j (by omega)
     obtain ⟨x, UD⟩ : ∃ x, q.set[j]? = some x := ⟨_, List.getElem?_eq_getElem EL⟩
     have Jp := tW x (List.mem_of_getElem? UD)
     have WR := mC EV UD
     have xt : ∀ y ∈ [x.lo, x.hi], 0 ≤ y ∧ y < 9223372036854775808 := by unfold nN at Jp; intro y hy; simp at hy; rcases hy with rfl | rfl <;> omega
     have ZR := wZ (l := q.set.take j) fun y hy => tW y (List.mem_of_mem_take hy)
     rw [List.length_take] at ZR
     simp only [hw,List.getElem?_map,hx,Option.map_some,al,ak,cX,Int.natCast_nonneg,D4,List.getElem?_map,UD,Option.map_some,aj,Tn,Int.natCast_nonneg,List.length_map,bB,List.flatMap_nil,List.append_nil,go_sem,reduceIte,zA,zB,zC,zD,zE,zF,reduceCtorEq]
     refine cW (rL ((((FJ r ++ (r.reqs.take i).flatMap vk) ++ eT q.path) ++ mQ (q.set.length : Int)) ++ (q.set.take j).flatMap EV) [x.lo, x.hi] (by simp) (by (try simp only [List.length_append]); omega) xt _ 2 11 rfl rfl (by decide)) ?_
     rintro _ _ ⟨rfl, rfl⟩
     try simp only [List.set_cons_zero,List.set_cons_succ]
     simp only [hw,List.getElem?_map,hx,Option.map_some,al,ak,cX,Int.natCast_nonneg,D4,List.getElem?_map,UD,Option.map_some,aj,Tn,Int.natCast_nonneg,List.length_map,bB,List.flatMap_nil,List.append_nil,go_sem,reduceIte,zA,zB,zC,zD,zE,zF,reduceCtorEq]
     refine w4 _ ⟨j + 1, ?_, ?_, ba (by omega) (by (simp only [WR,D4,EV,List.append_assoc,go_sem,reduceIte,zA,zB,zC,zD,zE,zF,reduceCtorEq]))⟩
     ·exact EL
     ·omega
    ·have K9 : ¬ j < q.set.length := by simpa using K8
     have qq : j = q.set.length := by omega
     subst qq
     rw [List.take_length]
     simp only [hw,List.getElem?_map,hx,Option.map_some,al,ak,cX,Int.natCast_nonneg,List.length_map,bB,List.flatMap_nil,List.append_nil,go_sem,reduceIte,zA,zB,zC,zD,zE,zF,reduceCtorEq]
     refine mP _ ⟨i + 1, ?_, ?_, ba (by omega) (by (simp only [Tf,hw,vk,List.append_assoc,go_sem,reduceIte,zA,zB,zC,zD,zE,zF,reduceCtorEq]))⟩
     ·exact aB
     ·omega
   ·have cB : ¬ i < r.reqs.length := by simpa using K6
    have rZ : i = r.reqs.length := by omega
    subst rZ
    rw [List.take_length]
    simp only [List.length_map,bB,List.flatMap_nil,List.append_nil,go_sem,reduceIte,zA,zB,zC,zD,zE,zF,reduceCtorEq]
    exact hK _ aw
end Go.Proofs.YtnfeacnbgbggfaaGreatDoor
end
