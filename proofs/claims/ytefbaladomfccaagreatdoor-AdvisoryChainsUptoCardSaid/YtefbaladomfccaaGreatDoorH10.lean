/-
  CONTRACTS: slices.SortFunc at clipped spans.
  CONTRACTS: Canonical.
  CONTRACTS: names, versions of paths.
  CONTRACTS: paths.
  CONTRACTS: advisories: Check, Concerns.
  READINGS of programs.
  CLOSING: what is common to the laws.
-/
import Derived.Test.YtefbaladomfccaaGreatDoorH9
import Derived.WalkKit
import Derived.ProofKit
import Derived.OpenShut
import Derived.WideKeyArgs
import Derived.Deep.DeepHandedRow
set_option linter.all false
section
namespace Go.Proofs.YtefbaladomfccaaGreatDoor
open Go.Eng
open Go.Sort (SWO grow flatK HoldsK PermIn SortedIn)
variable [Glob]
theorem flatC_get (d : Array SpC) (i j : Nat) (hi : i < d.size) (hj : j < 2) : (flatK encC 2 d)[i * 2 + j]! = (encC d[i]!)[j]! := by
 rw [Go.Sort.get_flatK _ _ _ _ (by omega)]
 rw [show (i * 2 + j) / 2 = i by omega, show (i * 2 + j) % 2 = j by omega]
theorem toC : ∀ l : List Spn, (∀ x ∈ l, 0 ≤ x.lo ∧ x.lo ≤ 1000000) → ∃ d : List SpC, d.map Subtype.val = l
 | [], _ => ⟨[], rfl⟩
 | x :: r, h => by
  obtain ⟨d, hd⟩ := toC r fun y hy => h y (by simp [hy])
  exact ⟨⟨x, h x (by simp)⟩ :: d, by simp [hd]⟩
theorem sortSpn_ok (m : List Blk) (b v : Nat) (l : List Spn) (hb : m[b]? = some (.rows v 2 (l.map encSpn))) (h0 : 0 < l.length) (hl : l.length ≤ 1048576) (hC : ∀ x ∈ l, 0 ≤ x.lo ∧ x.lo ≤ 1000000) :
  FnOkR Tryz.prog 122 [.ms b v 0 l.length, .sc (.func (.func 123) #[] #[])] m fun r m' => r = .sc (.tuple #[]) ∧ ∃ l' : List Spn, l'.Perm l ∧ AscLo l' ∧ m' = m.set b (.rows v 2 (l'.map encSpn)) := by
 refine ⟨Tryz.call122, fun E w xs hs hx => ?_⟩
 obtain ⟨x, ys, hxs, hr, hrest⟩ := hx.of_cons
 obtain ⟨f, zs, hys, hrf, hz⟩ := hrest.of_cons
 have hzs := hz.of_nil
 subst hzs
 have hf := rep_sc hrf
 subst hf
 obtain rfl : xs = #[x, .func (.func 123) #[] #[]] := by rw [← Array.toArray_toList (xs := xs), hxs, hys]
 rcases hs.mem b _ hb with ⟨hnil, -⟩ | ⟨gb, T, cs, c, hblk, hh, hcs, hlc, hrows, hF⟩
 ·rw [List.map_eq_nil_iff] at hnil; subst hnil; simp at h0
 rw [List.length_map] at hlc
 obtain ⟨cap, rfl⟩ : ∃ cap, x = .slice (some ⟨gb, 0, none⟩) l.length cap := by
  clear hrest hx hxs hrows hl
  generalize l.length = nl at hr h0 hlc ⊢
  cases hr with
  | ms _ _ _ _ _ g' e' c' a cap hb' hl' h0' hc' =>
   rw [hblk] at hb'; cases hb'
   obtain ⟨rfl, -⟩ := h0' rfl
   exact ⟨cap, rfl⟩
  | msnil => exact absurd h0 (Nat.lt_irrefl _)
 obtain ⟨dl, hdl⟩ := toC l hC
 have hcell : ∀ (i : Nat) (u : Spn), l[i]? = some u → cs[i * 2]? = some (.int .i64 u.lo) ∧ cs[i * 2 + 1]? = some (.int .i64 u.hi) := fun i u hu => by
  obtain ⟨-, h2⟩ := hrows i (encSpn u) (by rw [List.getElem?_map, hu]; rfl)
  constructor
  ·obtain ⟨y, hy, -, hyr⟩ := h2 0 (num u.lo) rfl
   rw [rep_sc hyr] at hy; exact hy
  ·obtain ⟨y, hy, -, hyr⟩ := h2 1 (num u.hi) rfl
   rw [rep_sc hyr] at hy; exact hy
 have hgw : gb < w.heap.size := (Array.getElem?_eq_some_iff.1 hh).1
 have hdlen : dl.length = l.length := by rw [← hdl, List.length_map]
 have hget : ∀ i, i < l.length → l[i]? = some (dl.toArray[i]!).1 := fun i hi => by
  have hi' : i < dl.length := by omega
  have e : l[i]? = some (dl[i]).1 := by
   have := congrArg (fun q : List Spn => q[i]?) hdl
   simp only [List.getElem?_map,List.getElem?_eq_getElem hi',Option.map_some] at this
   exact this.symm
  rw [e, getElem!_pos dl.toArray i (by simpa using hi')]
  simp
 have hH : HoldsK encC 2 w gb 0 dl.toArray := fun t ht => by
  have ht' : t < l.length * 2 := by simpa [hdlen] using ht
  obtain ⟨i, j, hi, hj, rfl⟩ : ∃ i j, i < l.length ∧ j < 2 ∧ t = i * 2 + j := ⟨t / 2, t % 2, by omega, by omega, by omega⟩
  have hc := hcell i _ (hget i hi)
  refine ⟨?_, by simp [World.frozen?, hh]⟩
  rw [cell_at hh, Nat.zero_add, flatC_get _ _ _ (by simpa [hdlen] using hi) hj]
  obtain rfl | rfl : j = 0 ∨ j = 1 := by omega
  ·exact hc.1
  ·exact hc.2
 have call := sort118 gb 0 cap dl.toArray w hH hgw (by simp; omega)
 have e1 : dl.toArray.size = l.length := by rw [List.size_toArray, hdlen]
 rw [e1] at call
 refine call.mono ?_
 rintro e w' ⟨rfl, d', n, os, hp, hsrt, rfl⟩
 have hsize : d'.size = l.length := by rw [hp.1]; simp [hdlen]
 have hheap : (sortWorldK encC 2 w gb 0 n d' os).heap[gb]? = some (.cells (Go.Sort.putCells id 0 (flatK encC 2 d') cs) T (0, 0)) := by
  show (_ ++ os)[gb]? = _
  rw [Array.getElem?_append_left (by simpa [Go.Sort.putRowK] using hgw)]
  show ((w.heap.modify gb _))[gb]? = _
  rw [Array.getElem?_modify, if_pos rfl, hh]; rfl
 obtain ⟨h1, h2⟩ := hs.repl (w' := sortWorldK encC 2 w gb 0 n d' os) (rs' := (d'.toList.map Subtype.val).map encSpn) hb hblk hF rfl rfl rfl (by
   show _ ≤ (_ ++ os).size
   rw [Array.size_append]
   show _ ≤ (w.heap.modify gb _).size + _
   rw [Array.size_modify]; omega) hheap (fun k hk hne => by
   show (_ ++ os)[k]? = _
   rw [Array.getElem?_append_left (by simpa [Go.Sort.putRowK] using hk)]
   show ((w.heap.modify gb _))[k]? = _
   rw [Array.getElem?_modify, if_neg (fun e => hne e.symm)]) (by simp [Go.Sort.putCells, hcs]) (by simp [hsize]; exact hlc) (fun i row hi => by
   rw [List.map_map, List.getElem?_map, Option.map_eq_some_iff] at hi
   obtain ⟨u, hu, rfl⟩ := hi
   have hid : i < d'.size := by simpa using (List.getElem?_eq_some_iff.1 hu).1
   have hu' : d'[i]! = u := by
    rw [getElem!_pos d' i hid]
    have := (List.getElem?_eq_some_iff.1 hu).2
    simpa using this
   have key : ∀ j, j < 2 → (Go.Sort.putCells id 0 (flatK encC 2 d') cs)[i * 2 + j]? = some ((encC u)[j]!) := fun j hj => by
    have hlt : i * 2 + j < cs.size := by rw [hcs]; omega
    unfold Go.Sort.putCells
    rw [Array.getElem?_mapIdx, Array.getElem?_eq_getElem hlt, Option.map_some, if_pos ⟨Nat.zero_le _, by simp; omega⟩]
    simp only [id,Nat.sub_zero]
    rw [flatC_get _ _ _ hid hj, hu']
   refine ⟨rfl, fun j cc hj => ?_⟩
   match j, hj with
   | 0, hj => cases hj; exact ⟨.int .i64 u.1.lo, by simpa [encC] using key 0 (by omega), rfl, .sc _ _⟩
   | 1, hj => cases hj; exact ⟨.int .i64 u.1.hi, by simpa [encC] using key 1 (by omega), rfl, .sc _ _⟩
   | j + 2, hj => simp [encSpn, V.cells] at hj)
 refine ⟨E, _, _, _, rfl, ⟨rfl, d'.toList.map Subtype.val, ?_, ?_, rfl⟩, h2, h1, .sc _ _⟩
 ·have := hp.2.2
  rw [← hdl]
  refine List.Perm.map _ ?_
  simpa [hsize, hdlen, Array.extract_eq_self_of_le] using this
 ·refine List.pairwise_iff_getElem.2 fun i j hi hj hij => ?_
  have hj' : j < d'.size := by simpa using hj
  have := hsrt i j (Nat.zero_le _) hij (by simpa [hsize] using hj')
  rw [getElem!_pos d' j hj', getElem!_pos d' i (by omega)] at this
  have := of_decide_eq_false this
  unfold cfC at this
  simp only [List.getElem_map,Array.getElem_toList]
  omega
def noOrc : FuncId → List V → Option V := fun _ _ => none
theorem noOrc_ok : OrcOk Tryz.prog noOrc := fun f vs r h => by cases h
theorem noNat_ok : NatFOk Tryz.prog (fun _ _ => none) := fun f vs r h => by cases h
theorem sortNilS_ok : FnOk Tryz.prog 122 [.slice [], .sc (.func (.func 123) #[] #[])] (.tup []) := ev_call noOrc_ok noNat_ok 3000 (by kernel_rfl)
theorem sortAll_ok (m : List Blk) (b v : Nat) (l : List Spn) (hb : m[b]? = some (.rows v 2 (l.map encSpn))) (hl : l.length ≤ 1048576) (hC : ∀ x ∈ l, 0 ≤ x.lo ∧ x.lo ≤ 1000000) :
  FnOkR Tryz.prog 122 [.ms b v 0 l.length, .sc (.func (.func 123) #[] #[])] m fun r m' => r = .sc (.tuple #[]) ∧ ∃ l' : List Spn, l'.Perm l ∧ AscLo l' ∧ m' = m.set b (.rows v 2 (l'.map encSpn)) := by
 rcases Nat.eq_zero_or_pos l.length with h0 | h0
 ·obtain rfl : l = [] := List.length_eq_zero_iff.1 h0
  refine (FnOk.none_rows (m := m) (b := b) (v := v) sortNilS_ok fun E xs h => ?_).rel.mono fun r m' ⟨h1, h2⟩ => ⟨h1, [], List.Perm.refl _, List.Pairwise.nil, by
   rw [h2]
   apply List.ext_getElem?
   intro i
   rw [List.getElem?_set]
   split
   ·rename_i hi; subst hi
    rw [if_pos (List.getElem?_eq_some_iff.1 hb).1, hb]
   ·rfl⟩
  obtain ⟨y, ys, rfl, hr, hy⟩ := h.of_cons
  rw [hy.of_nil]
  have := rep_sc hr
  subst this
  exact RepL.cons (.sc _ _) (.nil _)
 ·exact sortSpn_ok m b v l hb h0 hl hC
end Go.Proofs.YtefbaladomfccaaGreatDoor
end

section
namespace Go.Proofs.YtefbaladomfccaaGreatDoor
open Go.Eng
open Nat renaming reduceAdd → zA, reduceLT → zB, reduceLeDiff → zC, reduceMul → zD, reduceEqDiff → zE, reduceSub → zF
variable [Glob]
set_option maxHeartbeats 4000000
set_option maxRecDepth 100000
theorem clip_take {s : List Spn} {i : Nat} {x : Spn} (h : s[i]? = some x) : clip (s.take (i + 1)) = clip (s.take i) ++ (clipOne x).toList := by
 rw [List.take_add_one, h]
 unfold clip
 rw [List.filterMap_append]
 cases hx : clipOne x <;> simp [hx]
theorem clip_length (s : List Spn) : (clip s).length ≤ s.length := List.length_filterMap_le _ _
theorem clip_lt {x : Spn} (h : max x.lo 0 < min x.hi 1000000) : clipOne x = some ⟨max x.lo 0, min x.hi 1000000⟩ := if_pos h
theorem clip_ge {x : Spn} (h : ¬ max x.lo 0 < min x.hi 1000000) : clipOne x = none := if_neg h
structure Mg (l R : List Spn) (i n : Nat) : Prop where
 hi : i ≤ l.length
 hn : n ≤ i
 hl : R.length = l.length
 ht : R.take n = merge (l.take i)
 hd : R.drop i = l.drop i
 h0 : 0 < i → 0 < n
theorem merge_take {l : List Spn} {i : Nat} {x : Spn} (h : l[i]? = some x) : merge (l.take (i + 1)) = mstep (merge (l.take i)) x := by
 rw [List.take_add_one, h]
 unfold merge
 rw [List.foldl_append]; rfl
theorem Mg.start (l : List Spn) : Mg l l 0 0 := ⟨Nat.zero_le _, Nat.le_refl _, rfl, rfl, rfl, fun h => absurd h (Nat.lt_irrefl _)⟩
theorem Mg.at {l R : List Spn} {i n : Nat} (h : Mg l R i n) (hlt : i < l.length) : ∃ x, l[i]? = some x ∧ R[i]? = some x := by
 refine ⟨l[i], List.getElem?_eq_getElem hlt, ?_⟩
 have h1 : (R.drop i)[0]? = (l.drop i)[0]? := by rw [h.hd]
 rw [List.getElem?_drop, List.getElem?_drop, Nat.add_zero] at h1
 rw [h1, List.getElem?_eq_getElem hlt]
theorem Mg.last {l R : List Spn} {i n : Nat} (h : Mg l R i n) (hpos : 0 < i) (hlt : i < l.length) : ∃ y, R[n - 1]? = some y ∧ (merge (l.take i)).getLast? = some y := by
 have hn := h.h0 hpos
 have hnl : n - 1 < R.length := by rw [h.hl]; have := h.hn; omega
 refine ⟨R[n - 1], List.getElem?_eq_getElem hnl, ?_⟩
 rw [← h.ht, List.getLast?_eq_getElem?, List.length_take, Nat.min_eq_left (by have := h.hn; rw [h.hl]; omega), List.getElem?_take_of_lt (by omega), List.getElem?_eq_getElem hnl]
theorem Mg.push {l R : List Spn} {i n : Nat} {x : Spn} (h : Mg l R i n) (hx : l[i]? = some x) (hm : mstep (merge (l.take i)) x = merge (l.take i) ++ [x]) : Mg l (R.set n x) (i + 1) (n + 1) := by
 have hlt := (List.getElem?_eq_some_iff.1 hx).1
 have hn := h.hn
 refine ⟨hlt, by omega, by rw [List.length_set]; exact h.hl, ?_, ?_, fun _ => Nat.succ_pos _⟩
 ·rw [merge_take hx, hm, ← h.ht]
  apply List.ext_getElem?
  intro j
  have hRn : n < R.length := by rw [h.hl]; omega
  rcases Nat.lt_trichotomy j n with hj | hj | hj
  ·rw [List.getElem?_take_of_lt (by omega), List.getElem?_set_ne (by omega), List.getElem?_append_left (by rw [List.length_take]; omega), List.getElem?_take_of_lt hj]
  ·subst hj
   rw [List.getElem?_take_of_lt (by omega), List.getElem?_append_right (by rw [List.length_take]; omega), List.length_take, Nat.min_eq_left (by omega), Nat.sub_self]
   simp [hRn]
  ·rw [List.getElem?_eq_none (by rw [List.length_take]; omega), List.getElem?_eq_none (by rw [List.length_append, List.length_take]; simp; omega)]
 ·apply List.ext_getElem?
  intro j
  rw [List.getElem?_drop, List.getElem?_drop, List.getElem?_set_ne (by omega)]
  have h1 : (R.drop i)[1 + j]? = (l.drop i)[1 + j]? := by rw [h.hd]
  rw [List.getElem?_drop, List.getElem?_drop] at h1
  rw [show i + 1 + j = i + (1 + j) by omega]; exact h1
theorem Mg.join {l R : List Spn} {i n : Nat} {x y : Spn} (h : Mg l R i n) (hx : l[i]? = some x) (hpos : 0 < i) (hy : R[n - 1]? = some y) (hle : x.lo ≤ y.hi) : Mg l (R.set (n - 1) ⟨y.lo, max y.hi x.hi⟩) (i + 1) n := by
 have hlt := (List.getElem?_eq_some_iff.1 hx).1
 have hn := h.hn
 have hn0 := h.h0 hpos
 obtain ⟨y', hy', hlast⟩ := h.last hpos hlt
 rw [hy] at hy'; cases hy'
 have hRn : n ≤ R.length := by rw [h.hl]; omega
 refine ⟨hlt, by omega, by rw [List.length_set]; exact h.hl, ?_, ?_, fun _ => hn0⟩
 ·rw [merge_take hx]
  unfold mstep
  rw [hlast]
  dsimp only
  rw [if_pos hle, ← h.ht]
  apply List.ext_getElem?
  intro j
  have hdl : ((R.take n).dropLast).length = n - 1 := by rw [List.length_dropLast, List.length_take]; omega
  rcases Nat.lt_trichotomy j (n - 1) with hj | hj | hj
  ·rw [List.getElem?_take_of_lt (by omega), List.getElem?_set_ne (by omega), List.getElem?_append_left (by omega), List.getElem?_dropLast, if_pos (by rw [List.length_take]; omega), List.getElem?_take_of_lt (by omega)]
  ·subst hj
   rw [List.getElem?_take_of_lt (by omega), List.getElem?_append_right (by omega), hdl, Nat.sub_self, List.getElem?_set]
   simp; omega
  ·rw [List.getElem?_eq_none (by rw [List.length_take, List.length_set]; omega), List.getElem?_eq_none (by rw [List.length_append, hdl]; simp; omega)]
 ·apply List.ext_getElem?
  intro j
  rw [List.getElem?_drop, List.getElem?_drop, List.getElem?_set_ne (by omega)]
  have h1 : (R.drop i)[1 + j]? = (l.drop i)[1 + j]? := by rw [h.hd]
  rw [List.getElem?_drop, List.getElem?_drop] at h1
  rw [show i + 1 + j = i + (1 + j) by omega]; exact h1
theorem mstep_new {o : List Spn} {x : Spn} (h : ∀ y, o.getLast? = some y → ¬ x.lo ≤ y.hi) : mstep o x = o ++ [x] := by
 unfold mstep
 cases hl : o.getLast? with
 | none => rw [List.getLast?_eq_none_iff.1 hl]; rfl
 | some y => dsimp only; rw [if_neg (h y hl)]
theorem canon_ok (s : List Spn) (hl : s.length ≤ 1048576) : FnOk Tryz.prog 76 [encSet s] (encSet (canon s)) := by
 refine vft tt_ok [19] 79 [.tmp 2] (fn := Tryz.f76) Tryz.func76 rfl Tryz.call76 ⟨rfl, rfl, by simp⟩ fun K hK => ?_
 simp only [encSet]
 simp only [List.length_map,go_sem,reduceIte,zA,zB,zC,zD,zE,zF,reduceCtorEq]
 refine xnil 3 0 2 (by decide) rfl ?_
 refine xloop tt_ok [19] (fun a : Nat × List Spn => [(3, .ms 0 a.2.length 0 a.2.length), (9, .slice (s.map encSpn)), (10, num s.length), (11, num a.1)]) (fun a : Nat × List Spn => [.rows a.2.length 2 (a.2.map encSpn)]) (fun a => s.length - a.1) (fun a => a.1 ≤ s.length ∧ a.2 = clip (s.take a.1)) ((0, [])) 1 (lies (by omega) (by simp only [List.length_map,List.map_nil,List.length_nil,Int.cast_ofNat_Int,go_sem,reduceIte,zA,zB,zC,zD,zE,zF,reduceCtorEq] <;> rfl)) (⟨Nat.zero_le _, rfl⟩) ?_
 rintro ⟨i, l⟩ ⟨hi, hcl⟩
 try dsimp only at hi hcl
 try dsimp only
 intro Z1 hZ1
 simp only [List.length_map,go_sem,reduceIte,zA,zB,zC,zD,zE,zF,reduceCtorEq]
 refine gif (fun hc12 => ?_) (fun hc12 => ?_)
 ·have hlt : i < s.length := by simpa using hc12
  have hw := i64_succ i (by omega)
  obtain ⟨x, hx⟩ : ∃ x, s[i]? = some x := ⟨_, List.getElem?_eq_getElem hlt⟩
  have hmx : (if x.lo < 0 then 0 else x.lo) = max x.lo 0 := by split <;> omega
  have hmn : (if (1000000 : Int) < x.hi then 1000000 else x.hi) = min x.hi 1000000 := by split <;> omega
  have hlc : l.length ≤ 1048576 := by rw [hcl]; have := clip_length (s.take i); rw [List.length_take] at this; omega
  have hbd : l.length + 1 ≤ 34359738368 := by omega
  simp only [hw,List.getElem?_map,hx,encSpn,hmx,hmn,hbd,List.length_append,List.length_cons,List.length_nil,Nat.zero_add,List.length_map,go_sem,reduceIte,zA,zB,zC,zD,zE,zF,reduceCtorEq]
  refine gif (fun hc26 => ?_) (fun hc26 => ?_)
  ·let nv : Nat × List Spn := (i + 1, l ++ [⟨max x.lo 0, min x.hi 1000000⟩])
   have hcl2 : l ++ [⟨max x.lo 0, min x.hi 1000000⟩] = clip (s.take (i + 1)) := by rw [clip_take hx, clip_lt (by simpa using hc26), hcl]; rfl
   simp only [hw,List.getElem?_map,hx,encSpn,hmx,hmn,hbd,List.length_append,List.length_cons,List.length_nil,Nat.zero_add,List.length_map,go_sem,reduceIte,zA,zB,zC,zD,zE,zF,reduceCtorEq]
   refine hZ1 _ ⟨nv, ?_, ?_, lies (by omega) (by (simp [nv, agr, lk, bel_cons, bel_nil, belowV, belowB, List.map_append, encSpn]))⟩
   ·exact ⟨hlt, by dsimp only [nv]; exact hcl2⟩
   ·dsimp only [nv]; omega
  ·let nv : Nat × List Spn := (i + 1, l)
   have hcl2 : l = clip (s.take (i + 1)) := by rw [clip_take hx, clip_ge (by simpa using hc26), hcl]; simp
   simp only [hw,List.getElem?_map,hx,encSpn,hmx,hmn,hbd,List.length_append,List.length_cons,List.length_nil,Nat.zero_add,List.length_map,go_sem,reduceIte,zA,zB,zC,zD,zE,zF,reduceCtorEq]
   refine hZ1 _ ⟨nv, ?_, ?_, lies (by omega) (by (simp [nv, agr, lk, bel_cons, bel_nil, belowV, belowB, List.map_append, encSpn]))⟩
   ·exact ⟨hlt, by dsimp only [nv]; exact hcl2⟩
   ·dsimp only [nv]; omega
 ·have hge : ¬ i < s.length := by simpa using hc12
  have hcl3 : l = clip s := by rw [hcl, show i = s.length by omega, List.take_length]
  have hl2 : l.length ≤ 1048576 := by rw [hcl3]; have := clip_length s; omega
  have hC : ∀ x ∈ l, 0 ≤ x.lo ∧ x.lo ≤ 1000000 := fun x hx => by have := clip_ok x (hcl3 ▸ hx); omega
  simp only [List.length_map,go_sem,reduceIte,zA,zB,zC,zD,zE,zF,reduceCtorEq]
  refine cR (sortAll_ok _ 0 _ _ rfl hl2 hC) ?_
  rintro _ _ ⟨rfl, l2, hp, ha, rfl⟩
  simp only [List.length_map,go_sem,reduceIte,zA,zB,zC,zD,zE,zF,reduceCtorEq]
  obtain ⟨L, hL⟩ : ∃ L, L = l2 := ⟨_, rfl⟩
  rw [← hL] at hp ha
  have hLl : L.length = l.length := hp.length_eq
  rw [← hLl, ← hL]
  refine xloop tt_ok [19] (fun a : Nat × Nat × List Spn => [(3, .ms 0 L.length 0 L.length), (6, num a.2.1), (34, .ms 0 L.length 0 L.length), (35, num L.length), (36, num a.1)]) (fun a : Nat × Nat × List Spn => [.rows L.length 2 (a.2.2.map encSpn)]) (fun a => L.length - a.1) (fun a => Mg L a.2.2 a.1 a.2.1) ((0, 0, L)) 1 (lies (by omega) (by simp only [List.length_map,Int.cast_ofNat_Int,go_sem,reduceIte,zA,zB,zC,zD,zE,zF,reduceCtorEq] <;> rfl)) (Mg.start L) ?_
  rintro ⟨i, n, R⟩ hM
  try dsimp only at hM
  try dsimp only
  have hMi := hM.hi
  have hMn := hM.hn
  have hMl := hM.hl
  intro Z2 hZ2
  simp only [List.length_map,go_sem,reduceIte,zA,zB,zC,zD,zE,zF,reduceCtorEq]
  refine gif (fun hc37 => ?_) (fun hc37 => ?_)
  ·have hlt : i < L.length := by simpa using hc37
   rw [hc37]
   have hltI : (i : Int) < (L.length : Int) := by omega
   have hw := i64_succ i (by omega)
   have hw2 := i64_succ n (by omega)
   obtain ⟨x, hx, hRx⟩ := hM.at hlt
   have hnltI : (n : Int) < (L.length : Int) := by omega
   simp only [hw,hw2,List.getElem?_map,hRx,encSpn,hMl,hltI,Int.natCast_nonneg,hnltI,List.length_map,go_sem,reduceIte,zA,zB,zC,zD,zE,zF,reduceCtorEq]
   refine xmixL tt_ok mixed_ok [⟨.n, 0, [], [], []⟩, ⟨.n, 0, [], [], []⟩, ⟨.n, 0, [], [], []⟩, ⟨.n, 0, [], [], []⟩, ⟨.r, 0, [], [], []⟩, ⟨.n, 0, [], [], []⟩, ⟨.n, 0, [], [], []⟩, ⟨.n, 0, [], [], []⟩, ⟨.r, 0, [], [], []⟩, ⟨.n, 0, [], [], []⟩, ⟨.r, 0, [], [], []⟩, ⟨.n, 0, [], [], []⟩, ⟨.n, 0, [], [], []⟩] 0 (by kernel_rfl) ?_
   simp only [hw,hw2,List.getElem?_map,hRx,encSpn,hMl,hltI,Int.natCast_nonneg,hnltI,List.length_map,go_sem,reduceIte,zA,zB,zC,zD,zE,zF,reduceCtorEq]
   refine gif (fun hb14_2 => ?_) (fun hb14_2 => ?_)
   ·have hpos : 0 < i := by have := of_decide_eq_true hb14_2; omega
    have hn0 := hM.h0 hpos
    obtain ⟨y, hy, hlast⟩ := hM.last hpos hlt
    have hwn : IntKind.i64.wrap ((n : Int) - 1) = ((n - 1 : Nat) : Int) := i64_c _ _ (by omega) (by omega)
    have hnl : ((n - 1 : Nat) : Int) < (L.length : Int) := by omega
    simp only [hw,hw2,List.getElem?_map,hRx,encSpn,hMl,hltI,Int.natCast_nonneg,hnltI,hwn,hy,hnl,List.length_map,go_sem,reduceIte,zA,zB,zC,zD,zE,zF,reduceCtorEq]
    refine gif (fun hc53 => ?_) (fun hc53 => ?_)
    ·have hle : x.lo ≤ y.hi := by simpa using hc53
     have hmx : (if y.hi < x.hi then x.hi else y.hi) = max y.hi x.hi := by split <;> omega
     let nv : Nat × Nat × List Spn := (i + 1, n, R.set (n - 1) ⟨y.lo, max y.hi x.hi⟩)
     have hM2 := hM.join hx hpos hy hle
     simp only [hw,hw2,List.getElem?_map,hRx,encSpn,hMl,hltI,Int.natCast_nonneg,hnltI,hwn,hy,hnl,hmx,List.length_map,go_sem,reduceIte,zA,zB,zC,zD,zE,zF,reduceCtorEq]
     refine xmixL tt_ok mixed_ok [⟨.n, 0, [], [], []⟩, ⟨.n, 0, [], [], []⟩, ⟨.n, 0, [], [1], []⟩, ⟨.n, 0, [], [], []⟩, ⟨.n, 0, [], [], []⟩, ⟨.n, 0, [], [4], []⟩, ⟨.r, 0, [], [3,4,5], []⟩, ⟨.n, 0, [], [3,4,5,6], []⟩, ⟨.r, 0, [], [3,4,5,6,7], []⟩, ⟨.n, 0, [], [], []⟩, ⟨.r, 0, [], [9], []⟩, ⟨.n, 0, [], [3,4,5,6,7,8,9,10], []⟩, ⟨.r, 0, [], [0,1,2,3,4,5,6,7,8,9,10,11], []⟩, ⟨.n, 0, [], [0,1,2,3,4,5,6,7,8,9,10,11,12], []⟩, ⟨.w, 0, [], [0,1,2,3,4,5,6,7,8,9,10,11,12,13], []⟩] 1 (by kernel_rfl) ?_
     simp only [hw,hw2,List.getElem?_map,hRx,encSpn,hMl,hltI,Int.natCast_nonneg,hnltI,hwn,hy,hnl,hmx,List.length_map,go_sem,reduceIte,zA,zB,zC,zD,zE,zF,reduceCtorEq]
     refine hZ2 _ ⟨nv, ?_, ?_, lies (by omega) (by (simp [nv, agr, lk, bel_cons, bel_nil, belowV, belowB, List.map_set, encSpn, setRow, spliceL, V.cells]))⟩
     ·dsimp only [nv]; exact hM2
     ·dsimp only [nv]; omega
    ·have hms : mstep (merge (L.take i)) x = merge (L.take i) ++ [x] := mstep_new fun z hz => by
      rw [hlast] at hz; cases hz; simpa using hc53
     let nv : Nat × Nat × List Spn := (i + 1, n + 1, R.set n x)
     have hM2 := hM.push hx hms
     obtain ⟨z, hz⟩ : ∃ z, R[n]? = some z := ⟨_, List.getElem?_eq_getElem (by omega)⟩
     simp only [hw,hw2,List.getElem?_map,hRx,encSpn,hMl,hltI,Int.natCast_nonneg,hnltI,hwn,hy,hnl,hz,List.length_map,go_sem,reduceIte,zA,zB,zC,zD,zE,zF,reduceCtorEq]
     refine hZ2 _ ⟨nv, ?_, ?_, lies (by omega) (by (simp [nv, agr, lk, bel_cons, bel_nil, belowV, belowB, List.map_set, encSpn, setRow, spliceL, V.cells]))⟩
     ·dsimp only [nv]; exact hM2
     ·dsimp only [nv]; omega
   ·have hi0 : i = 0 := by have := of_decide_eq_false hb14_2; omega
    have hms : mstep (merge (L.take i)) x = merge (L.take i) ++ [x] := mstep_new fun y hy => by simp [hi0, merge] at hy
    let nv : Nat × Nat × List Spn := (i + 1, n + 1, R.set n x)
    have hM2 := hM.push hx hms
    obtain ⟨z, hz⟩ : ∃ z, R[n]? = some z := ⟨_, List.getElem?_eq_getElem (by omega)⟩
    simp only [hw,hw2,List.getElem?_map,hRx,encSpn,hMl,hltI,Int.natCast_nonneg,hnltI,hz,List.length_map,go_sem,reduceIte,zA,zB,zC,zD,zE,zF,reduceCtorEq]
    refine hZ2 _ ⟨nv, ?_, ?_, lies (by omega) (by (simp [nv, agr, lk, bel_cons, bel_nil, belowV, belowB, List.map_set, encSpn, setRow, spliceL, V.cells]))⟩
    ·dsimp only [nv]; exact hM2
    ·dsimp only [nv]; omega
  ·have hge : ¬ i < L.length := by simpa using hc37
   have hiL : i = L.length := by omega
   simp only [List.length_map,go_sem,reduceIte,zA,zB,zC,zD,zE,zF,reduceCtorEq]
   refine xfrz (v' := .slice (R.map encSpn)) 3 (by decide) rfl (by rw [← hMl]; simp [lk, pur1, purCell, List.take_of_length_le]) ?_
   have hnR : (n : Int) ≤ (R.length : Int) := by omega
   refine xgo tt_ok [19] ?_
   simp only [hnR,Int.le_refl,Int.natCast_nonneg,List.length_map,go_sem,reduceIte,zA,zB,zC,zD,zE,zF,reduceCtorEq]
   refine hK _ ?_
   have hfin : (R.take n).map encSpn = (canon s).map encSpn := by rw [hM.ht, hiL, List.take_length, canon_of (hp.trans (List.Perm.of_eq hcl3)) ha]
   simp [retV, resL, resV, pur, pur1, purCell, encSet, ← List.map_take, hfin]
end Go.Proofs.YtefbaladomfccaaGreatDoor
end

section
namespace Go.Proofs.YtefbaladomfccaaGreatDoor
open Go.Eng
open Nat renaming reduceAdd → zA, reduceLT → zB, reduceLeDiff → zC, reduceMul → zD, reduceEqDiff → zE, reduceSub → zF
variable [Glob]
set_option maxHeartbeats 4000000
set_option maxRecDepth 100000
def kwTab : ByteArray := ⟨#[32,97,110,100,32,97,110,121,32,97,115,32,98,111,111,108,32,100,101,112,114,101,99,97,116,101,100,32,101,108,115,101,32,101,120,112,111,114,116,32,102,97,108,115,101,32,102,110,32,102,111,108,100,32,102,114,111,109,32,105,102,32,105,109,112,111,114,116,32,105,110,32,105,110,116,32,108,101,110,103,116,104,32,108,101,116,32,108,105,115,116,32,109,97,116,99,104,32,109,111,100,117,108,101,32,110,111,110,101,32,110,111,116,32,111,114,32,116,101,120,116,32,116,104,101,110,32,116,114,117,101,32,116,121,112,101,32,117,115,101,32]⟩
def kwB (s : ByteArray) : Bool := Lib.contains kwTab.data.toList (⟨#[32]⟩ ++ s ++ ⟨#[32]⟩ : ByteArray).data.toList
def nameB (s : ByteArray) : Bool := decide (1 ≤ s.size) && decide (s.size ≤ 32) && isSm (byteAt s 0) && allP isWd s && !kwB s
def segB (s : ByteArray) : Bool := nameB s && allP isSd s
def cutVee (s : ByteArray) : ByteArray := ⟨(Lib.trimPrefix s.data.toList [118]).toArray⟩
def hasVee (s : ByteArray) : Bool := Lib.hasPrefix s.data.toList [118]
def decL (t : ByteArray) : Nat → Int
 | 0 => 0
 | k + 1 => 10 * decL t k + (byteAt t k - 48)
def verT (t : ByteArray) : Bool := decide (1 ≤ t.size) && decide (t.size ≤ 3) && !(decide (1 < t.size) && decide (byteAt t 0 = 48)) && allP isDg t
def verOk (s : ByteArray) : Bool := hasVee s && verT (cutVee s)
def verN (s : ByteArray) : Int := decL (cutVee s) (cutVee s).size
theorem allP_get {p : Int → Bool} {s : ByteArray} (h : allP p s = true) {i : Nat} {c : UInt8} (hc : s[i]? = some c) : p c.toNat = true := List.all_eq_true.1 h c (List.mem_of_getElem? (byte_get hc))
theorem decL_bound {t : ByteArray} (h : allP isDg t = true) : ∀ k, k ≤ t.size → 0 ≤ decL t k ∧ decL t k < 10 ^ k
 | 0, _ => ⟨Int.le_refl _, by simp [decL]⟩
 | k + 1, hk => by
  obtain ⟨h1, h2⟩ := decL_bound h k (by omega)
  obtain ⟨c, hc⟩ := get_byte (s := t) (i := k) (by omega)
  have h3 := allP_get h hc
  unfold isDg at h3
  simp only [Bool.and_eq_true,decide_eq_true_eq] at h3
  rw [decL, byteAt_of hc, Int.pow_succ]
  omega
theorem decL_3 {t : ByteArray} (h : allP isDg t = true) (h3 : t.size ≤ 3) {k : Nat} (hk : k ≤ t.size) : 0 ≤ decL t k ∧ decL t k < 1000 := by
 obtain ⟨h1, h2⟩ := decL_bound h k hk
 refine ⟨h1, Int.lt_of_lt_of_le h2 ?_⟩
 have : k = 0 ∨ k = 1 ∨ k = 2 ∨ k = 3 := by omega
 rcases this with rfl | rfl | rfl | rfl <;> decide
theorem keyword_ok (hG : Glob.g = some 0) (s : ByteArray) (hs : s.size ≤ 1000000) : ∃ r_, (fun w => w = bl (kwB s)) r_ ∧ FnOk Tryz.prog 222 [str s] r_ := by
 refine vfn tt_ok [] 7 [.tmp 2] (fn := Tryz.f222) Tryz.func222 rfl Tryz.call222 ⟨rfl, rfl, by simp⟩ fun K hK => ?_
 have sa1 := fun x y => ev_sadd Tryz.prog 9 x y ⟨#[32]⟩ s (by rw [show (⟨#[32]⟩ : ByteArray).size = 1 from rfl, show IntKind.i64.max = 9223372036854775807 from rfl]; omega)
 have sa2 := fun x y => ev_sadd Tryz.prog 9 x y (⟨#[32]⟩ ++ s) ⟨#[32]⟩ (by rw [ByteArray.size_append, show (⟨#[32]⟩ : ByteArray).size = 1 from rfl, show IntKind.i64.max = 9223372036854775807 from rfl]; omega)
 simp only [sa1,sa2,go_sem,reduceIte,zA,zB,zC,zD,zE,zF,reduceCtorEq]
 refine cF (⟨_, rfl, contains_ok hG _ _ (by decide)⟩) ?_
 rintro _ rfl
 simp only [sa1,sa2,go_sem,reduceIte,zA,zB,zC,zD,zE,zF,reduceCtorEq]
 exact hK _ rfl
theorem isName_ok (hG : Glob.g = some 0) (s : ByteArray) : ∃ r_, (fun w => w = bl (nameB s)) r_ ∧ FnOk Tryz.prog 169 [str s] r_ := by
 refine vfn tt_ok [] 24 [.tmp 2] (fn := Tryz.f169) Tryz.func169 rfl Tryz.call169 ⟨rfl, rfl, by simp⟩ fun K hK => ?_
 have hT9 : Tryz.prog.underlying 9 = some .string := by kernel_rfl
 have sl : ∀ (a : ByteArray) (ty : TypeId), liftL Tryz.prog (Builtin.len_ #[9] ty) [.sc (.string a)] = some (num a.size) := fun a ty => ev_slen (P := Tryz.prog) (tt := tt) (T := 9) a hT9 ty
 simp only [sl,go_sem,reduceIte,zA,zB,zC,zD,zE,zF,reduceCtorEq]
 refine gif (fun hb1_2 => ?_) (fun hb1_2 => ?_)
 ·have h1 := size_ne rfl hb1_2
  obtain ⟨cv0, hcbv0⟩ := get_byte (s := s) (i := (0 : Int).toNat) (by omega)
  have hixv0 := ev_index (P := Tryz.prog) s hT9 .i64 (0) (by omega) (c := cv0) hcbv0
  have hb0 : byteAt s 0 = cv0.toNat := byteAt_of hcbv0
  simp only [hixv0,sl,go_sem,reduceIte,zA,zB,zC,zD,zE,zF,reduceCtorEq]
  refine gif (fun hb1_7 => ?_) (fun hb1_7 => ?_)
  ·simp only [hixv0,sl,go_sem,reduceIte,zA,zB,zC,zD,zE,zF,reduceCtorEq]
   refine cF (small_ex _) ?_
   rintro _ rfl
   simp only [hixv0,sl,go_sem,reduceIte,zA,zB,zC,zD,zE,zF,reduceCtorEq]
   refine gif (fun hb1_12 => ?_) (fun hb1_12 => ?_)
   ·simp only [hixv0,sl,go_sem,reduceIte,zA,zB,zC,zD,zE,zF,reduceCtorEq]
    refine cF (all_ex 221 isWd word_ex s (by have := of_decide_eq_true hb1_7; omega)) ?_
    rintro _ rfl
    simp only [hixv0,sl,go_sem,reduceIte,zA,zB,zC,zD,zE,zF,reduceCtorEq]
    refine gif (fun hb1_16 => ?_) (fun hb1_16 => ?_)
    ·simp only [hixv0,sl,go_sem,reduceIte,zA,zB,zC,zD,zE,zF,reduceCtorEq]
     refine cF (keyword_ok hG s (by have := of_decide_eq_true hb1_7; omega)) ?_
     rintro _ rfl
     simp only [hixv0,sl,go_sem,reduceIte,zA,zB,zC,zD,zE,zF,reduceCtorEq]
     exact hK _ (congrArg bl (by simp_all [nameB] <;> (intros; omega)))
    ·simp only [hixv0,sl,go_sem,reduceIte,zA,zB,zC,zD,zE,zF,reduceCtorEq]
     exact hK _ (congrArg bl (by simp_all [nameB] <;> (intros; omega)))
   ·simp only [hixv0,sl,go_sem,reduceIte,zA,zB,zC,zD,zE,zF,reduceCtorEq]
    exact hK _ (congrArg bl (by simp_all [nameB] <;> (intros; omega)))
  ·simp only [hixv0,sl,go_sem,reduceIte,zA,zB,zC,zD,zE,zF,reduceCtorEq]
   exact hK _ (congrArg bl (by simp_all [nameB] <;> (intros; omega)))
 ·have h1 := size_eq0 rfl hb1_2
  simp only [sl,go_sem,reduceIte,zA,zB,zC,zD,zE,zF,reduceCtorEq]
  exact hK _ (congrArg bl (by simp_all [nameB] <;> (intros; omega)))
theorem version_ok (hG : Glob.g = some 0) (s : ByteArray) : ∃ r_, (fun w => w = .tup [num (if verOk s = true then verN s else 0), bl (verOk s)]) r_ ∧ FnOk Tryz.prog 168 [str s] r_ := by
 refine vfn tt_ok [] 53 [.tmp 2, .tmp 3] (fn := Tryz.f168) Tryz.func168 rfl Tryz.call168 ⟨rfl, rfl, by simp⟩ fun K hK => ?_
 have hT9 : Tryz.prog.underlying 9 = some .string := by kernel_rfl
 have sl : ∀ (a : ByteArray) (ty : TypeId), liftL Tryz.prog (Builtin.len_ #[9] ty) [.sc (.string a)] = some (num a.size) := fun a ty => ev_slen (P := Tryz.prog) (tt := tt) (T := 9) a hT9 ty
 have hT5 : Tryz.prog.underlying 5 = some (.int .u8) := by kernel_rfl
 have hT3 : Tryz.prog.underlying 3 = some (.int .i64) := by kernel_rfl
 have cv := fun (k : IntKind) (n : Int) => ev_conv (P := Tryz.prog) (src := 5) (dst := 3) hT5 hT3 k n
 simp only [sl,cv,go_sem,reduceIte,zA,zB,zC,zD,zE,zF,reduceCtorEq]
 refine cF (⟨_, rfl, cutPre_ok hG s ⟨#[118]⟩⟩) ?_
 rintro _ rfl
 obtain ⟨t, ht⟩ : ∃ t, t = cutVee s := ⟨_, rfl⟩
 obtain ⟨hv, hhv⟩ : ∃ b, b = hasVee s := ⟨_, rfl⟩
 have e1 : (⟨(Lib.trimPrefix s.data.toList [118]).toArray⟩ : ByteArray) = t := ht.symm
 have e2 : Lib.hasPrefix s.data.toList [118] = hv := hhv.symm
 have hvo : verOk s = (hv && verT t) := by rw [hhv, ht]; rfl
 simp only [e1,e2]
 simp only [sl,cv,go_sem,reduceIte,zA,zB,zC,zD,zE,zF,reduceCtorEq]
 refine gif (fun hb2_2 => ?_) (fun hb2_2 => ?_)
 ·have hno : verOk s = false := by rw [hvo]; simp_all [verT] <;> (intros; omega)
  simp only [sl,cv,go_sem,reduceIte,zA,zB,zC,zD,zE,zF,reduceCtorEq]
  refine hK _ ?_
  first
   | (rw [hno]; rfl)
   | (rw [hok]; subst hge; unfold verN; rw [← ht]; rfl)
 ·simp only [sl,cv,go_sem,reduceIte,zA,zB,zC,zD,zE,zF,reduceCtorEq]
  refine gif (fun hb2_6 => ?_) (fun hb2_6 => ?_)
  ·have h1 : t.size = 0 := size_eq0 (e := ⟨#[]⟩) rfl (by rw [hb2_6]; rfl)
   have hno : verOk s = false := by rw [hvo]; simp_all [verT] <;> (intros; omega)
   simp only [sl,cv,go_sem,reduceIte,zA,zB,zC,zD,zE,zF,reduceCtorEq]
   refine hK _ ?_
   first
    | (rw [hno]; rfl)
    | (rw [hok]; subst hge; unfold verN; rw [← ht]; rfl)
  ·have h1 : 1 ≤ t.size := size_ne (e := ⟨#[]⟩) rfl (by rw [hb2_6]; rfl)
   obtain ⟨cv0, hcbv0⟩ := get_byte (s := t) (i := (0 : Int).toNat) (by omega)
   have hixv0 := ev_index (P := Tryz.prog) t hT9 .i64 (0) (by omega) (c := cv0) hcbv0
   have hb0 : byteAt t 0 = cv0.toNat := byteAt_of hcbv0
   simp only [hixv0,sl,cv,go_sem,reduceIte,zA,zB,zC,zD,zE,zF,reduceCtorEq]
   refine gif (fun hb2_11 => ?_) (fun hb2_11 => ?_)
   ·have hno : verOk s = false := by rw [hvo]; simp_all [verT] <;> (intros; omega)
    simp only [hixv0,sl,cv,go_sem,reduceIte,zA,zB,zC,zD,zE,zF,reduceCtorEq]
    refine hK _ ?_
    first
     | (rw [hno]; rfl)
     | (rw [hok]; subst hge; unfold verN; rw [← ht]; rfl)
   ·simp only [hixv0,sl,cv,go_sem,reduceIte,zA,zB,zC,zD,zE,zF,reduceCtorEq]
    refine gif (fun hb2_15 => ?_) (fun hb2_15 => ?_)
    ·simp only [hixv0,sl,cv,go_sem,reduceIte,zA,zB,zC,zD,zE,zF,reduceCtorEq]
     refine gif (fun hb2_21 => ?_) (fun hb2_21 => ?_)
     ·have hno : verOk s = false := by rw [hvo]; simp_all [verT] <;> (intros; omega)
      simp only [hixv0,sl,cv,go_sem,reduceIte,zA,zB,zC,zD,zE,zF,reduceCtorEq]
      refine hK _ ?_
      first
       | (rw [hno]; rfl)
       | (rw [hok]; subst hge; unfold verN; rw [← ht]; rfl)
     ·simp only [hixv0,sl,cv,go_sem,reduceIte,zA,zB,zC,zD,zE,zF,reduceCtorEq]
      refine cF (all_ex 173 isDg digit_ex t (by have := of_decide_eq_false hb2_11; omega)) ?_
      rintro _ rfl
      simp only [hixv0,sl,cv,go_sem,reduceIte,zA,zB,zC,zD,zE,zF,reduceCtorEq]
      refine gif (fun hc37 => ?_) (fun hc37 => ?_)
      ·have hno : verOk s = false := by rw [hvo]; simp_all [verT] <;> (intros; omega)
       simp only [hixv0,sl,cv,go_sem,reduceIte,zA,zB,zC,zD,zE,zF,reduceCtorEq]
       refine hK _ ?_
       first
        | (rw [hno]; rfl)
        | (rw [hok]; subst hge; unfold verN; rw [← ht]; rfl)
      ·have hok : verOk s = true := by rw [hvo]; simp_all [verT] <;> (intros; omega)
       have hvt : verT t = true := by rw [hvo] at hok; simp at hok; exact hok.2
       have hdg : allP isDg t = true := by unfold verT at hvt; simp only [Bool.and_eq_true] at hvt; exact hvt.2
       have h3 : t.size ≤ 3 := by unfold verT at hvt; simp only [Bool.and_eq_true,decide_eq_true_eq] at hvt; exact hvt.1.1.2
       simp only [hixv0,sl,cv,go_sem,reduceIte,zA,zB,zC,zD,zE,zF,reduceCtorEq]
       refine xloopL tt_ok [] [40,5] 0 [0,2,3,37,39] (fun vs => ((t.size : Int) - Go.Eng.intOf (vs.headD .undef)).toNat) (fun vs => ∃ i : Nat, vs = [num i, num (decL t i)] ∧ i ≤ t.size) (by omega) (by simp only [hixv0,sl,cv,go_sem,reduceIte,zA,zB,zC,zD,zE,zF,reduceCtorEq]) (⟨0, rfl, Nat.zero_le _⟩) fun vs hI Z1 hZ1 => ?_
       obtain ⟨i, rfl, hi⟩ := hI
       simp only [hixv0,sl,cv,go_sem,reduceIte,zA,zB,zC,zD,zE,zF,reduceCtorEq]
       refine gif (fun hc41 => ?_) (fun hc41 => ?_)
       ·have hlt : i < t.size := by simpa using hc41
        have hw := i64_succ i (by omega)
        obtain ⟨c, hcb⟩ := get_byte (s := t) (i := i) hlt
        have hix := ev_index (P := Tryz.prog) t hT9 .i64 (i : Int) (by omega) (c := c) (show t[((i : Nat) : Int).toNat]? = some c from hcb)
        have hcd := allP_get hdg hcb
        unfold isDg at hcd
        simp only [Bool.and_eq_true,decide_eq_true_eq] at hcd
        obtain ⟨hd0, hd1⟩ := decL_3 hdg h3 hi
        have hu : IntKind.u8.wrap ((c.toNat : Int) - 48) = (c.toNat : Int) - 48 := by have h := c.toNat_lt; simp only [IntKind.wrap,IntKind.bits,IntKind.signed]; simp; omega
        have hw48 : IntKind.i64.wrap ((c.toNat : Int) - 48) = (c.toNat : Int) - 48 := IntWalk.i64_in _ (by omega)
        have hw10 : IntKind.i64.wrap (10 * decL t i) = 10 * decL t i := IntWalk.i64_in _ (by omega)
        have hws : IntKind.i64.wrap (10 * decL t i + ((c.toNat : Int) - 48)) = decL t (i + 1) := by rw [decL, byteAt_of hcb]; exact IntWalk.i64_in _ (by omega)
        simp only [hixv0,hw,hix,hu,hw48,hw10,hws,sl,cv,go_sem,reduceIte,zA,zB,zC,zD,zE,zF,reduceCtorEq]
        refine hZ1 _ (endK (by omega) (by simp only [hixv0,hw,hix,hu,hw48,hw10,hws,sl,cv,go_sem,reduceIte,zA,zB,zC,zD,zE,zF,reduceCtorEq]) ?_ ?_) <;> simp only [lks,lk,reduceIte,zE]
        ·exact ⟨i + 1, rfl, hlt⟩
        ·simp only [Go.Eng.intOf,List.headD_cons]; omega
       ·have hge : i = t.size := Nat.le_antisymm hi (Nat.le_of_not_lt (by simpa using hc41))
        simp only [hixv0,sl,cv,go_sem,reduceIte,zA,zB,zC,zD,zE,zF,reduceCtorEq]
        refine hK _ ?_
        first
         | (rw [hno]; rfl)
         | (rw [hok]; subst hge; unfold verN; rw [← ht]; rfl)
    ·simp only [hixv0,sl,cv,go_sem,reduceIte,zA,zB,zC,zD,zE,zF,reduceCtorEq]
     refine cF (all_ex 173 isDg digit_ex t (by have := of_decide_eq_false hb2_11; omega)) ?_
     rintro _ rfl
     simp only [hixv0,sl,cv,go_sem,reduceIte,zA,zB,zC,zD,zE,zF,reduceCtorEq]
     refine gif (fun hc37 => ?_) (fun hc37 => ?_)
     ·have hno : verOk s = false := by rw [hvo]; simp_all [verT] <;> (intros; omega)
      simp only [hixv0,sl,cv,go_sem,reduceIte,zA,zB,zC,zD,zE,zF,reduceCtorEq]
      refine hK _ ?_
      first
       | (rw [hno]; rfl)
       | (rw [hok]; subst hge; unfold verN; rw [← ht]; rfl)
     ·have hok : verOk s = true := by rw [hvo]; simp_all [verT] <;> (intros; omega)
      have hvt : verT t = true := by rw [hvo] at hok; simp at hok; exact hok.2
      have hdg : allP isDg t = true := by unfold verT at hvt; simp only [Bool.and_eq_true] at hvt; exact hvt.2
      have h3 : t.size ≤ 3 := by unfold verT at hvt; simp only [Bool.and_eq_true,decide_eq_true_eq] at hvt; exact hvt.1.1.2
      simp only [hixv0,sl,cv,go_sem,reduceIte,zA,zB,zC,zD,zE,zF,reduceCtorEq]
      refine xloopL tt_ok [] [40,5] 0 [0,2,3,37,39] (fun vs => ((t.size : Int) - Go.Eng.intOf (vs.headD .undef)).toNat) (fun vs => ∃ i : Nat, vs = [num i, num (decL t i)] ∧ i ≤ t.size) (by omega) (by simp only [hixv0,sl,cv,go_sem,reduceIte,zA,zB,zC,zD,zE,zF,reduceCtorEq]) (⟨0, rfl, Nat.zero_le _⟩) fun vs hI Z2 hZ2 => ?_
      obtain ⟨i, rfl, hi⟩ := hI
      simp only [hixv0,sl,cv,go_sem,reduceIte,zA,zB,zC,zD,zE,zF,reduceCtorEq]
      refine gif (fun hc41 => ?_) (fun hc41 => ?_)
      ·have hlt : i < t.size := by simpa using hc41
       have hw := i64_succ i (by omega)
       obtain ⟨c, hcb⟩ := get_byte (s := t) (i := i) hlt
       have hix := ev_index (P := Tryz.prog) t hT9 .i64 (i : Int) (by omega) (c := c) (show t[((i : Nat) : Int).toNat]? = some c from hcb)
       have hcd := allP_get hdg hcb
       unfold isDg at hcd
       simp only [Bool.and_eq_true,decide_eq_true_eq] at hcd
       obtain ⟨hd0, hd1⟩ := decL_3 hdg h3 hi
       have hu : IntKind.u8.wrap ((c.toNat : Int) - 48) = (c.toNat : Int) - 48 := by have h := c.toNat_lt; simp only [IntKind.wrap,IntKind.bits,IntKind.signed]; simp; omega
       have hw48 : IntKind.i64.wrap ((c.toNat : Int) - 48) = (c.toNat : Int) - 48 := IntWalk.i64_in _ (by omega)
       have hw10 : IntKind.i64.wrap (10 * decL t i) = 10 * decL t i := IntWalk.i64_in _ (by omega)
       have hws : IntKind.i64.wrap (10 * decL t i + ((c.toNat : Int) - 48)) = decL t (i + 1) := by rw [decL, byteAt_of hcb]; exact IntWalk.i64_in _ (by omega)
       simp only [hixv0,hw,hix,hu,hw48,hw10,hws,sl,cv,go_sem,reduceIte,zA,zB,zC,zD,zE,zF,reduceCtorEq]
       refine hZ2 _ (endK (by omega) (by simp only [hixv0,hw,hix,hu,hw48,hw10,hws,sl,cv,go_sem,reduceIte,zA,zB,zC,zD,zE,zF,reduceCtorEq]) ?_ ?_) <;> simp only [lks,lk,reduceIte,zE]
       ·exact ⟨i + 1, rfl, hlt⟩
       ·simp only [Go.Eng.intOf,List.headD_cons]; omega
      ·have hge : i = t.size := Nat.le_antisymm hi (Nat.le_of_not_lt (by simpa using hc41))
       simp only [hixv0,sl,cv,go_sem,reduceIte,zA,zB,zC,zD,zE,zF,reduceCtorEq]
       refine hK _ ?_
       first
        | (rw [hno]; rfl)
        | (rw [hok]; subst hge; unfold verN; rw [← ht]; rfl)
end Go.Proofs.YtefbaladomfccaaGreatDoor
end

section
namespace Go.Proofs.YtefbaladomfccaaGreatDoor
open Go.Eng
open Nat renaming reduceAdd → zA, reduceLT → zB, reduceLeDiff → zC, reduceMul → zD, reduceEqDiff → zE, reduceSub → zF
variable [Glob]
set_option maxHeartbeats 4000000
set_option maxRecDepth 100000
def lastP (s : ByteArray) : ByteArray := (pieces s).getLast?.getD ⟨#[]⟩
def majOk (s : ByteArray) : Bool := verOk (lastP s) && decide (s.size ≤ 64) && decide (2 ≤ (pieces s).length) && (pieces s).all segB
def majN (s : ByteArray) : Int := if majOk s = true then verN (lastP s) else 0
def majE (s : ByteArray) : Int := if majOk s = true then 0 else 4
theorem pieces_le (s : ByteArray) : (pieces s).length ≤ s.size + 1 := by
 rw [pieces_length]
 have := Lib.countB_le ⟨#[47]⟩ (by decide) s.size s (Nat.le_refl _)
 omega
theorem lastP_at {s z : ByteArray} (h : (pieces s)[(pieces s).length - 1]? = some z) : lastP s = z := by
 unfold lastP
 rw [List.getLast?_eq_getElem?, h]; rfl
theorem all_of {α : Type} {q : α → Bool} {l : List α} (h : ∀ j < l.length, ∀ x, l[j]? = some x → q x = true) : l.all q = true := by
 rw [List.all_eq_true]
 intro x hx
 obtain ⟨j, hj⟩ := List.mem_iff_getElem?.1 hx
 exact h j (List.getElem?_eq_some_iff.1 hj).1 x hj
theorem all_no {α : Type} {q : α → Bool} {l : List α} {i : Nat} {x : α} (h : l[i]? = some x) (hq : q x = false) : l.all q = false := by
 cases ha : l.all q with
 | false => rfl
 | true => have := List.all_eq_true.1 ha x (List.mem_of_getElem? h); rw [hq] at this; cases this
theorem slash_of {s : ByteArray} (h : majOk s = true) : 0 ≤ Lib.lastIndexByte s 47 ∧ Lib.lastIndexByte s 47 ≤ s.size := by
 unfold majOk at h
 simp only [Bool.and_eq_true,decide_eq_true_eq] at h
 obtain ⟨⟨-, h2⟩, -⟩ := h
 rw [pieces_length] at h2
 have hc : Lib.countB s ⟨#[47]⟩ = s.data.toList.count 47 := by
  unfold Lib.countB
  exact Lib.count_one 47 s.data.toList
 have hm : (47 : UInt8) ∈ s.data.toList := List.count_pos_iff.1 (by omega)
 rcases Lib.lastIndexByte_spec s 47 with ⟨-, hno⟩ | ⟨i, hi, he, -⟩
 ·exfalso
  obtain ⟨j, hj⟩ := List.mem_iff_getElem?.1 hm
  have hjl : j < s.size := by have := (List.getElem?_eq_some_iff.1 hj).1; simpa using this
  refine hno j hjl ?_
  have h3 : s.data[j]? = some 47 := by simpa using hj
  rw [getElem!_pos s.data j (by simpa using hjl)]
  have := (Array.getElem?_eq_some_iff.1 h3).2
  rw [this]; rfl
 ·rw [he]; omega
theorem major_ok (hG : Glob.g = some 0) (s : ByteArray) (hs : s.size ≤ 1048576) : ∃ r_, (fun w => w = .tup [num (majN s), num (majE s)]) r_ ∧ FnOk Tryz.prog 118 [str s] r_ := by
 refine vfn tt_ok [] 49 [.tmp 2, .tmp 3] (fn := Tryz.f118) Tryz.func118 rfl Tryz.call118 ⟨rfl, rfl, by simp⟩ fun K hK => ?_
 have hT9 : Tryz.prog.underlying 9 = some .string := by kernel_rfl
 have sl : ∀ (a : ByteArray) (ty : TypeId), liftL Tryz.prog (Builtin.len_ #[9] ty) [.sc (.string a)] = some (num a.size) := fun a ty => ev_slen (P := Tryz.prog) (tt := tt) (T := 9) a hT9 ty
 simp only [sl,List.length_map,go_sem,reduceIte,zA,zB,zC,zD,zE,zF,reduceCtorEq]
 refine cF (⟨_, rfl, split_ok hG s (by omega)⟩) ?_
 rintro _ rfl
 obtain ⟨P, hP⟩ : ∃ P, P = pieces s := ⟨_, rfl⟩
 have hPl := pieces_le s
 have hP1 := pieces_length s
 rw [← hP]
 rw [← hP] at hPl hP1
 obtain ⟨z, hz⟩ : ∃ z, P[P.length - 1]? = some z := ⟨_, List.getElem?_eq_getElem (by omega)⟩
 have hlz : lastP s = z := lastP_at (by rw [← hP]; exact hz)
 have hwm : IntKind.i64.wrap ((P.length : Int) - 1) = ((P.length - 1 : Nat) : Int) := i64_c _ _ (by omega) (by omega)
 simp only [List.getElem?_map,hz,hwm,sl,List.length_map,go_sem,reduceIte,zA,zB,zC,zD,zE,zF,reduceCtorEq]
 refine cF (version_ok hG z) ?_
 rintro _ rfl
 simp only [List.getElem?_map,hz,hwm,sl,List.length_map,go_sem,reduceIte,zA,zB,zC,zD,zE,zF,reduceCtorEq]
 refine gif (fun hb3_2 => ?_) (fun hb3_2 => ?_)
 ·have hno : majOk s = false := by unfold majOk; rw [hlz, ← hP]; simp_all <;> (intros; omega)
  simp only [List.getElem?_map,hz,hwm,sl,List.length_map,go_sem,reduceIte,zA,zB,zC,zD,zE,zF,reduceCtorEq]
  refine hK _ ?_
  first
   | (unfold majN majE; rw [hno]; rfl)
   | (unfold majN majE; rw [hok, hlz]; simp_all; done)
   | (unfold majN majE; rw [hok, hlz]; simp_all; rfl)
 ·simp only [List.getElem?_map,hz,hwm,sl,List.length_map,go_sem,reduceIte,zA,zB,zC,zD,zE,zF,reduceCtorEq]
  refine gif (fun hb3_7 => ?_) (fun hb3_7 => ?_)
  ·have hno : majOk s = false := by unfold majOk; rw [hlz, ← hP]; simp_all <;> (intros; omega)
   simp only [List.getElem?_map,hz,hwm,sl,List.length_map,go_sem,reduceIte,zA,zB,zC,zD,zE,zF,reduceCtorEq]
   refine hK _ ?_
   first
    | (unfold majN majE; rw [hno]; rfl)
    | (unfold majN majE; rw [hok, hlz]; simp_all; done)
    | (unfold majN majE; rw [hok, hlz]; simp_all; rfl)
  ·simp only [List.getElem?_map,hz,hwm,sl,List.length_map,go_sem,reduceIte,zA,zB,zC,zD,zE,zF,reduceCtorEq]
   refine gif (fun hc32 => ?_) (fun hc32 => ?_)
   ·have hno : majOk s = false := by unfold majOk; rw [hlz, ← hP]; simp_all <;> (intros; omega)
    simp only [List.getElem?_map,hz,hwm,sl,List.length_map,go_sem,reduceIte,zA,zB,zC,zD,zE,zF,reduceCtorEq]
    refine hK _ ?_
    first
     | (unfold majN majE; rw [hno]; rfl)
     | (unfold majN majE; rw [hok, hlz]; simp_all; done)
     | (unfold majN majE; rw [hok, hlz]; simp_all; rfl)
   ·simp only [List.getElem?_map,hz,hwm,sl,List.length_map,go_sem,reduceIte,zA,zB,zC,zD,zE,zF,reduceCtorEq]
    refine xloopL tt_ok [] [35] 0 [5,32,33,34] (fun vs => ((P.length : Int) - Go.Eng.intOf (vs.headD .undef)).toNat) (fun vs => ∃ i : Nat, vs = [num i] ∧ i ≤ P.length ∧ ∀ j < i, ∀ x, P[j]? = some x → segB x = true) (by omega) (by simp only [List.getElem?_map,hz,hwm,sl,List.length_map,go_sem,reduceIte,zA,zB,zC,zD,zE,zF,reduceCtorEq]) (⟨0, rfl, Nat.zero_le _, fun j hj => absurd hj (Nat.not_lt_zero j)⟩) fun vs hI Z1 hZ1 => ?_
    obtain ⟨i, rfl, hi, hall⟩ := hI
    simp only [List.getElem?_map,hz,hwm,sl,List.length_map,go_sem,reduceIte,zA,zB,zC,zD,zE,zF,reduceCtorEq]
    refine gif (fun hc36 => ?_) (fun hc36 => ?_)
    ·have hlt : i < P.length := by simpa using hc36
     have hw := i64_succ i (by omega)
     obtain ⟨x, hx⟩ : ∃ x, P[i]? = some x := ⟨_, List.getElem?_eq_getElem hlt⟩
     simp only [List.getElem?_map,hz,hwm,hw,hx,sl,List.length_map,go_sem,reduceIte,zA,zB,zC,zD,zE,zF,reduceCtorEq]
     refine cF (isName_ok hG x) ?_
     rintro _ rfl
     simp only [List.getElem?_map,hz,hwm,hw,hx,sl,List.length_map,go_sem,reduceIte,zA,zB,zC,zD,zE,zF,reduceCtorEq]
     refine gif (fun hb8_3 => ?_) (fun hb8_3 => ?_)
     ·have hno : majOk s = false := by
       have ha : P.all segB = false := all_no hx (by unfold segB; simp_all)
       unfold majOk; rw [← hP, ha]; simp
      simp only [List.getElem?_map,hz,hwm,hw,hx,sl,List.length_map,go_sem,reduceIte,zA,zB,zC,zD,zE,zF,reduceCtorEq]
      refine hK _ ?_
      first
       | (unfold majN majE; rw [hno]; rfl)
       | (unfold majN majE; rw [hok, hlz]; simp_all; done)
       | (unfold majN majE; rw [hok, hlz]; simp_all; rfl)
     ·have hnm : nameB x = true := by simpa using hb8_3
      simp only [List.getElem?_map,hz,hwm,hw,hx,sl,List.length_map,go_sem,reduceIte,zA,zB,zC,zD,zE,zF,reduceCtorEq]
      refine cF (all_ex 171 isSd sd_ex x (by have h := hnm; unfold nameB at h; simp only [Bool.and_eq_true,decide_eq_true_eq] at h; omega)) ?_
      rintro _ rfl
      simp only [List.getElem?_map,hz,hwm,hw,hx,sl,List.length_map,go_sem,reduceIte,zA,zB,zC,zD,zE,zF,reduceCtorEq]
      refine gif (fun hc46 => ?_) (fun hc46 => ?_)
      ·have hno : majOk s = false := by
        have ha : P.all segB = false := all_no hx (by unfold segB; simp_all)
        unfold majOk; rw [← hP, ha]; simp
       simp only [List.getElem?_map,hz,hwm,hw,hx,sl,List.length_map,go_sem,reduceIte,zA,zB,zC,zD,zE,zF,reduceCtorEq]
       refine hK _ ?_
       first
        | (unfold majN majE; rw [hno]; rfl)
        | (unfold majN majE; rw [hok, hlz]; simp_all; done)
        | (unfold majN majE; rw [hok, hlz]; simp_all; rfl)
      ·simp only [List.getElem?_map,hz,hwm,hw,hx,sl,List.length_map,go_sem,reduceIte,zA,zB,zC,zD,zE,zF,reduceCtorEq]
       refine hZ1 _ (endK (by omega) (by simp only [List.getElem?_map,hz,hwm,hw,hx,sl,List.length_map,go_sem,reduceIte,zA,zB,zC,zD,zE,zF,reduceCtorEq]) ?_ ?_) <;> simp only [lks,lk,reduceIte,zE]
       ·refine ⟨i + 1, rfl, hlt, fun j hj => ?_⟩
        rcases Nat.lt_or_ge j i with h | h
        ·exact hall j h
        ·obtain rfl : j = i := by omega
         intro y hy
         rw [hx] at hy; cases hy; unfold segB; simp_all
       ·simp only [Go.Eng.intOf,List.headD_cons]; omega
    ·have hge : ¬ i < P.length := by simpa using hc36
     have hok : majOk s = true := by
      have ha : P.all segB = true := all_of fun j hj => hall j (by omega)
      unfold majOk; rw [hlz, ← hP, ha]; simp_all <;> omega
     simp only [List.getElem?_map,hz,hwm,sl,List.length_map,go_sem,reduceIte,zA,zB,zC,zD,zE,zF,reduceCtorEq]
     refine hK _ ?_
     first
      | (unfold majN majE; rw [hno]; rfl)
      | (unfold majN majE; rw [hok, hlz]; simp_all; done)
      | (unfold majN majE; rw [hok, hlz]; simp_all; rfl)
theorem isPath_ok (hG : Glob.g = some 0) (s : ByteArray) (hs : s.size ≤ 1048576) : ∃ r_, (fun w => w = bl (majOk s)) r_ ∧ FnOk Tryz.prog 119 [str s] r_ := by
 refine vfn tt_ok [] 12 [.tmp 2] (fn := Tryz.f119) Tryz.func119 rfl Tryz.call119 ⟨rfl, rfl, by simp⟩ fun K hK => ?_
 simp only [go_sem,reduceIte,zA,zB,zC,zD,zE,zF,reduceCtorEq]
 refine cF (major_ok hG s hs) ?_
 rintro _ rfl
 simp only [go_sem,reduceIte,zA,zB,zC,zD,zE,zF,reduceCtorEq]
 exact hK _ (congrArg bl (by unfold majE; by_cases h : majOk s = true <;> simp [h]))
theorem line_ok (hG : Glob.g = some 0) (s : ByteArray) (hs : s.size ≤ 1048576) : ∃ r_, (fun w => ∃ nm : ByteArray, w = .tup [str nm, num (majN s), num (majE s)]) r_ ∧ FnOk Tryz.prog 71 [str s] r_ := by
 refine vfn tt_ok [] 24 [.tmp 2, .tmp 3, .tmp 4] (fn := Tryz.f71) Tryz.func71 rfl Tryz.call71 ⟨rfl, rfl, by simp⟩ fun K hK => ?_
 have hT9 : Tryz.prog.underlying 9 = some .string := by kernel_rfl
 have sl : ∀ (a : ByteArray) (ty : TypeId), liftL Tryz.prog (Builtin.len_ #[9] ty) [.sc (.string a)] = some (num a.size) := fun a ty => ev_slen (P := Tryz.prog) (tt := tt) (T := 9) a hT9 ty
 simp only [sl,go_sem,reduceIte,zA,zB,zC,zD,zE,zF,reduceCtorEq]
 refine cF (major_ok hG s hs) ?_
 rintro _ rfl
 simp only [sl,go_sem,reduceIte,zA,zB,zC,zD,zE,zF,reduceCtorEq]
 refine cF (isPath_ok hG s hs) ?_
 rintro _ rfl
 simp only [sl,go_sem,reduceIte,zA,zB,zC,zD,zE,zF,reduceCtorEq]
 refine gif (fun hb2_3 => ?_) (fun hb2_3 => ?_)
 ·have hno : majOk s = false := by simp_all [majE]
  have e1 : majN s = 0 := by unfold majN; rw [hno]; rfl
  have e2 : majE s = 4 := by unfold majE; rw [hno]; rfl
  simp only [sl,go_sem,reduceIte,zA,zB,zC,zD,zE,zF,reduceCtorEq]
  first
   | exact hK _ ⟨⟨#[]⟩, by rw [e1, e2] <;> rfl⟩
   | exact hK _ ⟨_, by rw [e2] <;> rfl⟩
 ·simp only [sl,go_sem,reduceIte,zA,zB,zC,zD,zE,zF,reduceCtorEq]
  refine gif (fun hc18 => ?_) (fun hc18 => ?_)
  ·have hno : majOk s = false := by simp_all [majE]
   have e1 : majN s = 0 := by unfold majN; rw [hno]; rfl
   have e2 : majE s = 4 := by unfold majE; rw [hno]; rfl
   simp only [sl,go_sem,reduceIte,zA,zB,zC,zD,zE,zF,reduceCtorEq]
   first
    | exact hK _ ⟨⟨#[]⟩, by rw [e1, e2] <;> rfl⟩
    | exact hK _ ⟨_, by rw [e2] <;> rfl⟩
  ·have hok : majOk s = true := by cases h : majOk s <;> simp_all [majE]
   obtain ⟨hx0, hx1⟩ := slash_of hok
   have hcm : lift2 Tryz.prog (fun a h => Instr.sliceAt 9 a none (some h) none) (.sc (.string s)) (.sc (.int .i64 (Lib.lastIndexByte s 47))) = some (.sc (.string (s.extract 0 (Lib.lastIndexByte s 47).toNat))) := ev_cutto (P := Tryz.prog) (tt := tt) (mem := []) (T := 9) s hT9 .i64 (Lib.lastIndexByte s 47) hx0 hx1
   have e2 : majE s = 0 := by unfold majE; rw [hok]; rfl
   simp only [hcm,sl,go_sem,reduceIte,zA,zB,zC,zD,zE,zF,reduceCtorEq]
   refine cF (⟨_, rfl, lastIx_ok hG s (by omega)⟩) ?_
   rintro _ rfl
   simp only [hcm,sl,go_sem,reduceIte,zA,zB,zC,zD,zE,zF,reduceCtorEq]
   first
    | exact hK _ ⟨⟨#[]⟩, by rw [e1, e2] <;> rfl⟩
    | exact hK _ ⟨_, by rw [e2] <;> rfl⟩
end Go.Proofs.YtefbaladomfccaaGreatDoor
end

section
namespace Go.Proofs.YtefbaladomfccaaGreatDoor
open Go.Eng
open Nat renaming reduceAdd → zA, reduceLT → zB, reduceLeDiff → zC, reduceMul → zD, reduceEqDiff → zE, reduceSub → zF
variable [Glob]
set_option maxHeartbeats 4000000
set_option maxRecDepth 100000
structure Adv where
 id : ByteArray
 path : ByteArray
 set : List Spn
 syms : List ByteArray
 note : ByteArray
def advCells (a : Adv) : List V := [str a.id, str a.path, .slice (a.set.map encSpn), .slice (a.syms.map str), str a.note]
def encAdv (a : Adv) : V := .agg (advCells a)
def AdB (a : Adv) : Prop := a.path.size ≤ 1048576 ∧ a.set.length ≤ 1048576 ∧ a.syms.length ≤ 1048576
def conc (a : Adv) (s : Sel) : Bool := s.ver.ok && decide (s.path = a.path) && has a.set s.ver.pl
theorem named_ok (s : ByteArray) : ∃ r_, isB r_ ∧ FnOk Tryz.prog 72 [str s] r_ := by
 refine vfn tt_ok [] 11 [.tmp 2] (fn := Tryz.f72) Tryz.func72 rfl Tryz.call72 ⟨rfl, rfl, by simp⟩ fun K hK => ?_
 have hT9 : Tryz.prog.underlying 9 = some .string := by kernel_rfl
 have sl : ∀ (a : ByteArray) (ty : TypeId), liftL Tryz.prog (Builtin.len_ #[9] ty) [.sc (.string a)] = some (num a.size) := fun a ty => ev_slen (P := Tryz.prog) (tt := tt) (T := 9) a hT9 ty
 simp only [sl,go_sem,reduceIte,zA,zB,zC,zD,zE,zF,reduceCtorEq]
 refine gif (fun hb1_3 => ?_) (fun hb1_3 => ?_)
 ·simp only [sl,go_sem,reduceIte,zA,zB,zC,zD,zE,zF,reduceCtorEq]
  exact hK _ ⟨_, rfl⟩
 ·simp only [sl,go_sem,reduceIte,zA,zB,zC,zD,zE,zF,reduceCtorEq]
  exact hK _ ⟨_, rfl⟩
theorem clo74_ok (s : ByteArray) : ∃ r_, isB r_ ∧ FnOk Tryz.prog 74 [str s] r_ := by
 refine vfn tt_ok [] 6 [.tmp 2] (fn := Tryz.f74) Tryz.func74 rfl Tryz.call74 ⟨rfl, rfl, by simp⟩ fun K hK => ?_
 simp only [go_sem,reduceIte,zA,zB,zC,zD,zE,zF,reduceCtorEq]
 refine cF (named_ok s) ?_
 rintro _ ⟨b, rfl⟩
 simp only [go_sem,reduceIte,zA,zB,zC,zD,zE,zF,reduceCtorEq]
 exact hK _ ⟨_, rfl⟩
theorem idxNm_ok (l : List ByteArray) (hl : l.length ≤ 1048576) : ∃ r_, (fun w => ∃ n : Int, w = num n) r_ ∧ FnOk Tryz.prog 121 [.slice (l.map str), .sc (.func (.func 74) #[] #[])] r_ := by
 refine vfn tt_ok [] 19 [.tmp 4] (fn := Tryz.f121) Tryz.func121 rfl Tryz.call121 ⟨rfl, rfl, by simp⟩ fun K hK => ?_
 simp only [List.length_map,go_sem,reduceIte,zA,zB,zC,zD,zE,zF,reduceCtorEq]
 refine xloopL tt_ok [] [8] 0 [0,1,7] (fun vs => ((l.length : Int) - Go.Eng.intOf (vs.headD .undef)).toNat) (fun vs => ∃ i : Nat, vs = [num i] ∧ i ≤ l.length) (by omega) (by simp only [List.length_map,go_sem,reduceIte,zA,zB,zC,zD,zE,zF,reduceCtorEq]) (⟨0, rfl, Nat.zero_le _⟩) fun vs hI Z1 hZ1 => ?_
 obtain ⟨i, rfl, hi⟩ := hI
 simp only [List.length_map,go_sem,reduceIte,zA,zB,zC,zD,zE,zF,reduceCtorEq]
 refine gif (fun hc9 => ?_) (fun hc9 => ?_)
 ·have hlti : i < l.length := by simpa using hc9
  have hwi := i64_succ i (by omega)
  obtain ⟨x, hx⟩ : ∃ x, l[i]? = some x := ⟨_, List.getElem?_eq_getElem hlti⟩
  simp only [hwi,hx,List.getElem?_map,List.length_map,go_sem,reduceIte,zA,zB,zC,zD,zE,zF,reduceCtorEq]
  refine cF (clo74_ok x) ?_
  rintro _ ⟨b, rfl⟩
  simp only [hwi,hx,List.getElem?_map,List.length_map,go_sem,reduceIte,zA,zB,zC,zD,zE,zF,reduceCtorEq]
  refine gif (fun hc16 => ?_) (fun hc16 => ?_)
  ·simp only [hwi,hx,List.getElem?_map,List.length_map,go_sem,reduceIte,zA,zB,zC,zD,zE,zF,reduceCtorEq]
   exact hK _ ⟨_, rfl⟩
  ·simp only [hwi,hx,List.getElem?_map,List.length_map,go_sem,reduceIte,zA,zB,zC,zD,zE,zF,reduceCtorEq]
   refine hZ1 _ (endK (by omega) (by simp only [hwi,hx,List.getElem?_map,List.length_map,go_sem,reduceIte,zA,zB,zC,zD,zE,zF,reduceCtorEq]) ?_ ?_) <;> simp only [lks,lk,reduceIte,zE]
   ·exact ⟨i + 1, rfl, hlti⟩
   ·simp only [Go.Eng.intOf,List.headD_cons]; omega
 ·have hgei : i = l.length := by have := of_decide_eq_false hc9; omega
  simp only [List.length_map,go_sem,reduceIte,zA,zB,zC,zD,zE,zF,reduceCtorEq]
  exact hK _ ⟨_, rfl⟩
theorem anyNm_ok (l : List ByteArray) (hl : l.length ≤ 1048576) : ∃ r_, isB r_ ∧ FnOk Tryz.prog 73 [.slice (l.map str), .sc (.func (.func 74) #[] #[])] r_ := by
 refine vfn tt_ok [] 9 [.tmp 4] (fn := Tryz.f73) Tryz.func73 rfl Tryz.call73 ⟨rfl, rfl, by simp⟩ fun K hK => ?_
 simp only [go_sem,reduceIte,zA,zB,zC,zD,zE,zF,reduceCtorEq]
 refine cF (idxNm_ok l hl) ?_
 rintro _ ⟨n, rfl⟩
 simp only [go_sem,reduceIte,zA,zB,zC,zD,zE,zF,reduceCtorEq]
 exact hK _ ⟨_, rfl⟩
theorem acheck_ok (hG : Glob.g = some 0) (a : Adv) (hb : AdB a) : ∃ r_, (fun w => ∃ n : Int, w = num n) r_ ∧ FnOk Tryz.prog 30 [encAdv a] r_ := by
 refine vfn tt_ok [] 77 [.tmp 2] (fn := Tryz.f30) Tryz.func30 rfl Tryz.call30 ⟨rfl, rfl, by simp⟩ fun K hK => ?_
 simp only [encAdv,advCells]
 obtain ⟨hb1, hb2, hb3⟩ := hb
 have hT9 : Tryz.prog.underlying 9 = some .string := by kernel_rfl
 have sl : ∀ (a : ByteArray) (ty : TypeId), liftL Tryz.prog (Builtin.len_ #[9] ty) [.sc (.string a)] = some (num a.size) := fun a ty => ev_slen (P := Tryz.prog) (tt := tt) (T := 9) a hT9 ty
 simp only [List.length_map,sl,go_sem,reduceIte,zA,zB,zC,zD,zE,zF,reduceCtorEq]
 refine cF (line_ok hG a.path hb1) ?_
 rintro _ ⟨nm, rfl⟩
 simp only [List.length_map,sl,go_sem,reduceIte,zA,zB,zC,zD,zE,zF,reduceCtorEq]
 refine gif (fun hb2_2 => ?_) (fun hb2_2 => ?_)
 ·simp only [List.length_map,sl,go_sem,reduceIte,zA,zB,zC,zD,zE,zF,reduceCtorEq]
  exact hK _ ⟨_, rfl⟩
 ·simp only [List.length_map,sl,go_sem,reduceIte,zA,zB,zC,zD,zE,zF,reduceCtorEq]
  refine cF (named_ok a.id) ?_
  rintro _ ⟨b, rfl⟩
  simp only [List.length_map,sl,go_sem,reduceIte,zA,zB,zC,zD,zE,zF,reduceCtorEq]
  refine gif (fun hb2_8 => ?_) (fun hb2_8 => ?_)
  ·simp only [List.length_map,sl,go_sem,reduceIte,zA,zB,zC,zD,zE,zF,reduceCtorEq]
   exact hK _ ⟨_, rfl⟩
  ·simp only [List.length_map,sl,go_sem,reduceIte,zA,zB,zC,zD,zE,zF,reduceCtorEq]
   refine cF (anyNm_ok a.syms hb3) ?_
   rintro _ ⟨b2, rfl⟩
   simp only [List.length_map,sl,go_sem,reduceIte,zA,zB,zC,zD,zE,zF,reduceCtorEq]
   refine gif (fun hc26 => ?_) (fun hc26 => ?_)
   ·simp only [List.length_map,sl,go_sem,reduceIte,zA,zB,zC,zD,zE,zF,reduceCtorEq]
    exact hK _ ⟨_, rfl⟩
   ·simp only [List.length_map,sl,go_sem,reduceIte,zA,zB,zC,zD,zE,zF,reduceCtorEq]
    refine xmixL tt_ok mixed_ok [⟨.n, 0, [], [], []⟩, ⟨.r, 0, [], [], []⟩, ⟨.n, 0, [], [], []⟩, ⟨.n, 0, [], [], []⟩, ⟨.n, 0, [], [], []⟩, ⟨.n, 0, [], [], []⟩, ⟨.r, 0, [], [], []⟩, ⟨.n, 0, [], [], []⟩, ⟨.r, 0, [], [], []⟩, ⟨.n, 0, [], [], []⟩, ⟨.n, 0, [], [], []⟩, ⟨.n, 0, [], [], []⟩, ⟨.n, 0, [], [], []⟩, ⟨.n, 0, [], [], []⟩, ⟨.n, 0, [], [], []⟩, ⟨.r, 0, [], [], []⟩, ⟨.n, 0, [], [], []⟩, ⟨.n, 0, [], [], []⟩, ⟨.n, 0, [], [], []⟩, ⟨.n, 0, [], [], []⟩, ⟨.n, 0, [], [], []⟩, ⟨.r, 0, [], [], []⟩, ⟨.n, 0, [], [], []⟩, ⟨.n, 0, [], [], []⟩, ⟨.n, 0, [], [], []⟩, ⟨.n, 0, [], [], []⟩, ⟨.n, 0, [], [], []⟩, ⟨.r, 0, [], [], []⟩, ⟨.n, 0, [], [], []⟩, ⟨.n, 0, [], [], []⟩, ⟨.n, 0, [], [], []⟩] 0 (by kernel_rfl) ?_
    simp only [List.length_map,sl,go_sem,reduceIte,zA,zB,zC,zD,zE,zF,reduceCtorEq]
    refine gif (fun hb4_4 => ?_) (fun hb4_4 => ?_)
    ·simp only [List.length_map,sl,go_sem,reduceIte,zA,zB,zC,zD,zE,zF,reduceCtorEq]
     exact hK _ ⟨_, rfl⟩
    ·simp only [List.length_map,sl,go_sem,reduceIte,zA,zB,zC,zD,zE,zF,reduceCtorEq]
     refine cG (by have h := canon_ok a.set hb2; simp only [encSet] at h; exact ⟨_, rfl, h⟩) ?_
     rintro _ rfl
     simp only [List.length_map,sl,go_sem,reduceIte,zA,zB,zC,zD,zE,zF,reduceCtorEq]
     refine cG (by have h := setEq_ok a.set (canon a.set) hb2; simp only [encSet] at h; exact h) ?_
     rintro _ rfl
     simp only [List.length_map,sl,go_sem,reduceIte,zA,zB,zC,zD,zE,zF,reduceCtorEq]
     refine gif (fun hb4_13 => ?_) (fun hb4_13 => ?_)
     ·simp only [List.length_map,sl,go_sem,reduceIte,zA,zB,zC,zD,zE,zF,reduceCtorEq]
      exact hK _ ⟨_, rfl⟩
     ·simp only [List.length_map,sl,go_sem,reduceIte,zA,zB,zC,zD,zE,zF,reduceCtorEq]
      refine gif (fun hb4_19 => ?_) (fun hb4_19 => ?_)
      ·simp only [List.length_map,sl,go_sem,reduceIte,zA,zB,zC,zD,zE,zF,reduceCtorEq]
       exact hK _ ⟨_, rfl⟩
      ·simp only [List.length_map,sl,go_sem,reduceIte,zA,zB,zC,zD,zE,zF,reduceCtorEq]
       refine gif (fun hb4_25 => ?_) (fun hb4_25 => ?_)
       ·simp only [List.length_map,sl,go_sem,reduceIte,zA,zB,zC,zD,zE,zF,reduceCtorEq]
        exact hK _ ⟨_, rfl⟩
       ·simp only [List.length_map,sl,go_sem,reduceIte,zA,zB,zC,zD,zE,zF,reduceCtorEq]
        refine gif (fun hc57 => ?_) (fun hc57 => ?_)
        ·simp only [List.length_map,sl,go_sem,reduceIte,zA,zB,zC,zD,zE,zF,reduceCtorEq]
         exact hK _ ⟨_, rfl⟩
        ·simp only [List.length_map,sl,go_sem,reduceIte,zA,zB,zC,zD,zE,zF,reduceCtorEq]
         refine xloopL tt_ok [] [6] 1 [1,26,57] (fun vs => ((a.syms.length : Int) - Go.Eng.intOf (vs.headD .undef)).toNat) (fun vs => ∃ i : Nat, vs = [num i] ∧ 1 ≤ i) (by omega) (by simp only [List.length_map,sl,go_sem,reduceIte,zA,zB,zC,zD,zE,zF,reduceCtorEq]) (⟨1, rfl, Nat.le_refl _⟩) fun vs hI Z1 hZ1 => ?_
         obtain ⟨i, rfl, hi⟩ := hI
         simp only [List.length_map,sl,go_sem,reduceIte,zA,zB,zC,zD,zE,zF,reduceCtorEq]
         refine gif (fun hc62 => ?_) (fun hc62 => ?_)
         ·have hlti : i < a.syms.length := by have := of_decide_eq_true hc62; omega
          have hwi := i64_succ i (by omega)
          obtain ⟨x, hx⟩ : ∃ x, a.syms[i]? = some x := ⟨_, List.getElem?_eq_getElem hlti⟩
          obtain ⟨q, hq⟩ : ∃ q, a.syms[i - 1]? = some q := ⟨_, List.getElem?_eq_getElem (by omega)⟩
          have hwm : IntKind.i64.wrap ((i : Int) - 1) = ((i - 1 : Nat) : Int) := i64_c _ _ (by omega) (by omega)
          have hlm : ((i - 1 : Nat) : Int) < (a.syms.length : Int) := by omega
          simp only [hwi,hx,hq,hwm,hlm,List.getElem?_map,List.length_map,sl,go_sem,reduceIte,zA,zB,zC,zD,zE,zF,reduceCtorEq]
          refine xmixL tt_ok mixed_ok [⟨.n, 0, [], [], []⟩, ⟨.r, 0, [], [], []⟩, ⟨.n, 0, [], [], []⟩, ⟨.n, 0, [], [], []⟩, ⟨.r, 0, [], [], []⟩, ⟨.r, 0, [], [], []⟩, ⟨.n, 0, [], [], []⟩, ⟨.r, 0, [], [], []⟩, ⟨.n, 0, [], [], []⟩, ⟨.r, 0, [], [], []⟩, ⟨.r, 0, [], [], []⟩, ⟨.n, 0, [], [], []⟩] 0 (by kernel_rfl) ?_
          simp only [hwi,hx,hq,hwm,hlm,List.getElem?_map,List.length_map,sl,go_sem,reduceIte,zA,zB,zC,zD,zE,zF,reduceCtorEq]
          refine gif (fun hc76 => ?_) (fun hc76 => ?_)
          ·simp only [hwi,hx,hq,hwm,hlm,List.getElem?_map,List.length_map,sl,go_sem,reduceIte,zA,zB,zC,zD,zE,zF,reduceCtorEq]
           exact hK _ ⟨_, rfl⟩
          ·simp only [hwi,hx,hq,hwm,hlm,List.getElem?_map,List.length_map,sl,go_sem,reduceIte,zA,zB,zC,zD,zE,zF,reduceCtorEq]
           refine hZ1 _ (endK (by omega) (by simp only [hwi,hx,hq,hwm,hlm,List.getElem?_map,List.length_map,sl,go_sem,reduceIte,zA,zB,zC,zD,zE,zF,reduceCtorEq]) ?_ ?_) <;> simp only [lks,lk,reduceIte,zE]
           ·exact ⟨i + 1, rfl, by omega⟩
           ·simp only [Go.Eng.intOf,List.headD_cons]; omega
         ·have hgei : True := trivial
          simp only [List.length_map,sl,go_sem,reduceIte,zA,zB,zC,zD,zE,zF,reduceCtorEq]
          exact hK _ ⟨_, rfl⟩
theorem conc_ok (a : Adv) (s : Sel) (hl : a.set.length ≤ 1048576) : ∃ r_, (fun w => w = bl (conc a s)) r_ ∧ FnOk Tryz.prog 56 [encAdv a, encSel s] r_ := by
 refine vfn tt_ok [] 28 [.tmp 4] (fn := Tryz.f56) Tryz.func56 rfl Tryz.call56 ⟨rfl, rfl, by simp⟩ fun K hK => ?_
 simp only [encAdv,advCells,encSel]
 simp only [go_sem,reduceIte,zA,zB,zC,zD,zE,zF,reduceCtorEq]
 refine cF (by have h := cplace_ok s.ver; simp only [encVer] at h; exact h) ?_
 rintro _ rfl
 simp only [go_sem,reduceIte,zA,zB,zC,zD,zE,zF,reduceCtorEq]
 refine gif (fun hb2_2 => ?_) (fun hb2_2 => ?_)
 ·simp only [go_sem,reduceIte,zA,zB,zC,zD,zE,zF,reduceCtorEq]
  refine gif (fun hb2_9 => ?_) (fun hb2_9 => ?_)
  ·simp only [go_sem,reduceIte,zA,zB,zC,zD,zE,zF,reduceCtorEq]
   refine cF (by have h := has_ok a.set s.ver.pl hl; simp only [encSet] at h; exact h) ?_
   rintro _ rfl
   simp only [go_sem,reduceIte,zA,zB,zC,zD,zE,zF,reduceCtorEq]
   refine hK _ (congrArg bl ?_)
   unfold conc
   simp_all [str_beq]
  ·simp only [go_sem,reduceIte,zA,zB,zC,zD,zE,zF,reduceCtorEq]
   refine hK _ (congrArg bl ?_)
   unfold conc
   simp_all [str_beq]
 ·simp only [go_sem,reduceIte,zA,zB,zC,zD,zE,zF,reduceCtorEq]
  refine hK _ (congrArg bl ?_)
  unfold conc
  simp_all [str_beq]
theorem clo69_ok (a : Adv) (s : Sel) (hl : a.set.length ≤ 1048576) : ∃ r_, (fun w => w = bl (conc a s)) r_ ∧ FnOkS Tryz.prog 69 [encSel s, .ptr 0 0] ([.box [str a.id, str a.path, .slice (a.set.map encSpn), .slice (a.syms.map str), str a.note]]) r_ ([.box [str a.id, str a.path, .slice (a.set.map encSpn), .slice (a.syms.map str), str a.note]]) := by
 refine vfs tt_ok [] 7 [.tmp 3] (fn := Tryz.f69) Tryz.func69 rfl Tryz.call69 ⟨rfl, rfl, by simp⟩ fun K hK => ?_
 simp only [encSel]
 simp only [go_sem,reduceIte,zA,zB,zC,zD,zE,zF,reduceCtorEq]
 refine cF (by have h := conc_ok a s hl; simp only [encAdv,advCells,encSel] at h; exact h) ?_
 rintro _ rfl
 simp only [go_sem,reduceIte,zA,zB,zC,zD,zE,zF,reduceCtorEq]
 exact hK _ _ ⟨rfl, rfl⟩
theorem idxC_ok (a : Adv) (ha : a.set.length ≤ 1048576) (l : List Sel) (hl : l.length ≤ 1048576) : ∃ r_, (fun w => ∃ k : Int, w = num k ∧ decide (0 ≤ k) = l.any (conc a)) r_ ∧ FnOkS Tryz.prog 110 [.slice (l.map encSel), .clo (.func 69) [] [.ptr 0 0]] ([.box [str a.id, str a.path, .slice (a.set.map encSpn), .slice (a.syms.map str), str a.note]]) r_ ([.box [str a.id, str a.path, .slice (a.set.map encSpn), .slice (a.syms.map str), str a.note]]) := by
 refine vfs tt_ok [] 19 [.tmp 4] (fn := Tryz.f110) Tryz.func110 rfl Tryz.call110 ⟨rfl, rfl, by simp⟩ fun K hK => ?_
 simp only [List.length_map,go_sem,reduceIte,zA,zB,zC,zD,zE,zF,reduceCtorEq]
 refine xloopL tt_ok [] [8] 1 [0,1,7] (fun vs => ((l.length : Int) - Go.Eng.intOf (vs.headD .undef)).toNat) (fun vs => ∃ i : Nat, vs = [num i] ∧ i ≤ l.length ∧ ∀ j < i, ∀ x, l[j]? = some x → conc a x = false) (by omega) (by simp only [List.length_map,go_sem,reduceIte,zA,zB,zC,zD,zE,zF,reduceCtorEq]) (⟨0, rfl, Nat.zero_le _, fun j hj => absurd hj (Nat.not_lt_zero j)⟩) fun vs hI Z1 hZ1 => ?_
 obtain ⟨i, rfl, hi, hall⟩ := hI
 simp only [List.length_map,go_sem,reduceIte,zA,zB,zC,zD,zE,zF,reduceCtorEq]
 refine gif (fun hc9 => ?_) (fun hc9 => ?_)
 ·have hlt : i < l.length := by simpa using hc9
  have hw := i64_succ i (by omega)
  obtain ⟨x, hx⟩ : ∃ x, l[i]? = some x := ⟨_, List.getElem?_eq_getElem hlt⟩
  simp only [hw,List.getElem?_map,hx,encSel,List.length_map,go_sem,reduceIte,zA,zB,zC,zD,zE,zF,reduceCtorEq]
  refine cS (by have h := clo69_ok a x ha; simp only [encSel] at h; exact h) ?_
  rintro _ rfl
  simp only [hw,List.getElem?_map,hx,encSel,List.length_map,go_sem,reduceIte,zA,zB,zC,zD,zE,zF,reduceCtorEq]
  refine gif (fun hc16 => ?_) (fun hc16 => ?_)
  ·have hres : decide (0 ≤ (i : Int)) = l.any (conc a) := by rw [any_of hx hc16]; exact decide_eq_true (Int.natCast_nonneg i)
   simp only [hw,List.getElem?_map,hx,encSel,List.length_map,go_sem,reduceIte,zA,zB,zC,zD,zE,zF,reduceCtorEq]
   exact hK _ _ ⟨⟨_, rfl, hres⟩, rfl⟩
  ·simp only [hw,List.getElem?_map,hx,encSel,List.length_map,go_sem,reduceIte,zA,zB,zC,zD,zE,zF,reduceCtorEq]
   refine hZ1 _ (endK (by omega) (by simp only [hw,List.getElem?_map,hx,encSel,List.length_map,go_sem,reduceIte,zA,zB,zC,zD,zE,zF,reduceCtorEq]) ?_ ?_) <;> simp only [lks,lk,reduceIte,zE]
   ·refine ⟨i + 1, rfl, hlt, fun j hj => ?_⟩
    rcases Nat.lt_or_ge j i with h | h
    ·exact hall j h
    ·obtain rfl : j = i := by omega
     intro y hy
     rw [hx] at hy; cases hy; exact hc16
   ·simp only [Go.Eng.intOf,List.headD_cons]; omega
 ·have hge : ¬ i < l.length := by simpa using hc9
  have hres : decide (0 ≤ (-1 : Int)) = l.any (conc a) := (any_none fun j hj => hall j (by omega)).symm ▸ rfl
  simp only [List.length_map,go_sem,reduceIte,zA,zB,zC,zD,zE,zF,reduceCtorEq]
  exact hK _ _ ⟨⟨_, rfl, hres⟩, rfl⟩
theorem anyC_ok (a : Adv) (ha : a.set.length ≤ 1048576) (l : List Sel) (hl : l.length ≤ 1048576) : ∃ r_, (fun w => w = bl (l.any (conc a))) r_ ∧ FnOkS Tryz.prog 68 [.slice (l.map encSel), .clo (.func 69) [] [.ptr 0 0]] ([.box [str a.id, str a.path, .slice (a.set.map encSpn), .slice (a.syms.map str), str a.note]]) r_ ([.box [str a.id, str a.path, .slice (a.set.map encSpn), .slice (a.syms.map str), str a.note]]) := by
 refine vfs tt_ok [] 9 [.tmp 4] (fn := Tryz.f68) Tryz.func68 rfl Tryz.call68 ⟨rfl, rfl, by simp⟩ fun K hK => ?_
 simp only [go_sem,reduceIte,zA,zB,zC,zD,zE,zF,reduceCtorEq]
 refine cS (idxC_ok a ha l hl) ?_
 rintro _ ⟨k, rfl, hk⟩
 simp only [go_sem,reduceIte,zA,zB,zC,zD,zE,zF,reduceCtorEq]
 exact hK _ _ ⟨congrArg bl hk, rfl⟩
theorem concs_ok (a : Adv) (ha : a.set.length ≤ 1048576) (l : List Sel) (hl : l.length ≤ 1048576) : ∃ r_, (fun w => w = bl (l.any (conc a))) r_ ∧ FnOk Tryz.prog 27 [encAdv a, .slice (l.map encSel)] r_ := by
 refine vfn tt_ok [] 8 [.tmp 4] (fn := Tryz.f27) Tryz.func27 rfl Tryz.call27 ⟨rfl, rfl, by simp⟩ fun K hK => ?_
 simp only [encAdv,advCells]
 simp only [go_sem,reduceIte,zA,zB,zC,zD,zE,zF,reduceCtorEq]
 refine cS (anyC_ok a ha l hl) ?_
 rintro _ rfl
 simp only [go_sem,reduceIte,zA,zB,zC,zD,zE,zF,reduceCtorEq]
 exact hK _ rfl
theorem few_ok (l : List Adv) (hl : l.length ≤ 1048576) : ∃ r_, isB r_ ∧ FnOk Tryz.prog 10 [.slice (l.map encAdv)] r_ := by
 refine vfn tt_ok [] 58 [.tmp 2] (fn := Tryz.f10) Tryz.func10 rfl Tryz.call10 ⟨rfl, rfl, by simp⟩ fun K hK => ?_
 have hT9 : Tryz.prog.underlying 9 = some .string := by kernel_rfl
 have sl : ∀ (a : ByteArray) (ty : TypeId), liftL Tryz.prog (Builtin.len_ #[9] ty) [.sc (.string a)] = some (num a.size) := fun a ty => ev_slen (P := Tryz.prog) (tt := tt) (T := 9) a hT9 ty
 simp only [List.length_map,sl,go_sem,reduceIte,zA,zB,zC,zD,zE,zF,reduceCtorEq]
 refine xloopL tt_ok [] [3] 0 [0] (fun vs => ((l.length : Int) - Go.Eng.intOf (vs.headD .undef)).toNat) (fun vs => ∃ i : Nat, vs = [num i] ∧ i ≤ l.length) (by omega) (by simp only [List.length_map,sl,go_sem,reduceIte,zA,zB,zC,zD,zE,zF,reduceCtorEq]) (⟨0, rfl, Nat.zero_le _⟩) fun vs hI Z1 hZ1 => ?_
 obtain ⟨i, rfl, hi⟩ := hI
 simp only [List.length_map,sl,go_sem,reduceIte,zA,zB,zC,zD,zE,zF,reduceCtorEq]
 refine gif (fun hc8 => ?_) (fun hc8 => ?_)
 ·have hlti : i < l.length := by simpa using hc8
  have hwi := i64_succ i (by omega)
  obtain ⟨x, hx⟩ : ∃ x, l[i]? = some x := ⟨_, List.getElem?_eq_getElem hlti⟩
  simp only [hwi,hx,List.getElem?_map,encAdv,advCells,List.length_map,sl,go_sem,reduceIte,zA,zB,zC,zD,zE,zF,reduceCtorEq]
  refine gif (fun hb5_4 => ?_) (fun hb5_4 => ?_)
  ·simp only [hwi,hx,List.getElem?_map,encAdv,advCells,List.length_map,sl,go_sem,reduceIte,zA,zB,zC,zD,zE,zF,reduceCtorEq]
   exact hK _ ⟨_, rfl⟩
  ·simp only [hwi,hx,List.getElem?_map,encAdv,advCells,List.length_map,sl,go_sem,reduceIte,zA,zB,zC,zD,zE,zF,reduceCtorEq]
   refine gif (fun hb5_10 => ?_) (fun hb5_10 => ?_)
   ·simp only [hwi,hx,List.getElem?_map,encAdv,advCells,List.length_map,sl,go_sem,reduceIte,zA,zB,zC,zD,zE,zF,reduceCtorEq]
    exact hK _ ⟨_, rfl⟩
   ·simp only [hwi,hx,List.getElem?_map,encAdv,advCells,List.length_map,sl,go_sem,reduceIte,zA,zB,zC,zD,zE,zF,reduceCtorEq]
    refine gif (fun hb5_16 => ?_) (fun hb5_16 => ?_)
    ·simp only [hwi,hx,List.getElem?_map,encAdv,advCells,List.length_map,sl,go_sem,reduceIte,zA,zB,zC,zD,zE,zF,reduceCtorEq]
     exact hK _ ⟨_, rfl⟩
    ·simp only [hwi,hx,List.getElem?_map,encAdv,advCells,List.length_map,sl,go_sem,reduceIte,zA,zB,zC,zD,zE,zF,reduceCtorEq]
     refine gif (fun hb5_21 => ?_) (fun hb5_21 => ?_)
     ·simp only [hwi,hx,List.getElem?_map,encAdv,advCells,List.length_map,sl,go_sem,reduceIte,zA,zB,zC,zD,zE,zF,reduceCtorEq]
      refine gif (fun hb5_28 => ?_) (fun hb5_28 => ?_)
      ·simp only [hwi,hx,List.getElem?_map,encAdv,advCells,List.length_map,sl,go_sem,reduceIte,zA,zB,zC,zD,zE,zF,reduceCtorEq]
       exact hK _ ⟨_, rfl⟩
      ·simp only [hwi,hx,List.getElem?_map,encAdv,advCells,List.length_map,sl,go_sem,reduceIte,zA,zB,zC,zD,zE,zF,reduceCtorEq]
       refine gif (fun hb5_33 => ?_) (fun hb5_33 => ?_)
       ·simp only [hwi,hx,List.getElem?_map,encAdv,advCells,List.length_map,sl,go_sem,reduceIte,zA,zB,zC,zD,zE,zF,reduceCtorEq]
        refine gif (fun hc54 => ?_) (fun hc54 => ?_)
        ·simp only [hwi,hx,List.getElem?_map,encAdv,advCells,List.length_map,sl,go_sem,reduceIte,zA,zB,zC,zD,zE,zF,reduceCtorEq]
         exact hK _ ⟨_, rfl⟩
        ·simp only [hwi,hx,List.getElem?_map,encAdv,advCells,List.length_map,sl,go_sem,reduceIte,zA,zB,zC,zD,zE,zF,reduceCtorEq]
         refine hZ1 _ (endK (by omega) (by simp only [hwi,hx,List.getElem?_map,encAdv,advCells,List.length_map,sl,go_sem,reduceIte,zA,zB,zC,zD,zE,zF,reduceCtorEq]) ?_ ?_) <;> simp only [lks,lk,reduceIte,zE]
         ·exact ⟨i + 1, rfl, hlti⟩
         ·simp only [Go.Eng.intOf,List.headD_cons]; omega
       ·simp only [hwi,hx,List.getElem?_map,encAdv,advCells,List.length_map,sl,go_sem,reduceIte,zA,zB,zC,zD,zE,zF,reduceCtorEq]
        refine hZ1 _ (endK (by omega) (by simp only [hwi,hx,List.getElem?_map,encAdv,advCells,List.length_map,sl,go_sem,reduceIte,zA,zB,zC,zD,zE,zF,reduceCtorEq]) ?_ ?_) <;> simp only [lks,lk,reduceIte,zE]
        ·exact ⟨i + 1, rfl, hlti⟩
        ·simp only [Go.Eng.intOf,List.headD_cons]; omega
     ·simp only [hwi,hx,List.getElem?_map,encAdv,advCells,List.length_map,sl,go_sem,reduceIte,zA,zB,zC,zD,zE,zF,reduceCtorEq]
      refine gif (fun hb5_33 => ?_) (fun hb5_33 => ?_)
      ·simp only [hwi,hx,List.getElem?_map,encAdv,advCells,List.length_map,sl,go_sem,reduceIte,zA,zB,zC,zD,zE,zF,reduceCtorEq]
       refine gif (fun hc54 => ?_) (fun hc54 => ?_)
       ·simp only [hwi,hx,List.getElem?_map,encAdv,advCells,List.length_map,sl,go_sem,reduceIte,zA,zB,zC,zD,zE,zF,reduceCtorEq]
        exact hK _ ⟨_, rfl⟩
       ·simp only [hwi,hx,List.getElem?_map,encAdv,advCells,List.length_map,sl,go_sem,reduceIte,zA,zB,zC,zD,zE,zF,reduceCtorEq]
        refine hZ1 _ (endK (by omega) (by simp only [hwi,hx,List.getElem?_map,encAdv,advCells,List.length_map,sl,go_sem,reduceIte,zA,zB,zC,zD,zE,zF,reduceCtorEq]) ?_ ?_) <;> simp only [lks,lk,reduceIte,zE]
        ·exact ⟨i + 1, rfl, hlti⟩
        ·simp only [Go.Eng.intOf,List.headD_cons]; omega
      ·simp only [hwi,hx,List.getElem?_map,encAdv,advCells,List.length_map,sl,go_sem,reduceIte,zA,zB,zC,zD,zE,zF,reduceCtorEq]
       refine hZ1 _ (endK (by omega) (by simp only [hwi,hx,List.getElem?_map,encAdv,advCells,List.length_map,sl,go_sem,reduceIte,zA,zB,zC,zD,zE,zF,reduceCtorEq]) ?_ ?_) <;> simp only [lks,lk,reduceIte,zE]
       ·exact ⟨i + 1, rfl, hlti⟩
       ·simp only [Go.Eng.intOf,List.headD_cons]; omega
 ·have hgei : i = l.length := by have := of_decide_eq_false hc8; omega
  simp only [List.length_map,sl,go_sem,reduceIte,zA,zB,zC,zD,zE,zF,reduceCtorEq]
  exact hK _ ⟨_, rfl⟩
end Go.Proofs.YtefbaladomfccaaGreatDoor
end

section
namespace Go.Proofs.YtefbaladomfccaaGreatDoor
open Go.Eng
set_option maxHeartbeats 4000000
set_option maxRecDepth 100000
theorem okWide_slice {P : Program} {W : World} {base : Nat} {T e : TypeId} {v : Value} (hT : P.underlying T = some (.slice e)) (h : Value.okWide P W .any base T v) : ∃ a l c, v = .slice a l c := by
 unfold Value.okWide at h
 rw [hT] at h
 unfold Cell.okWide at h
 rw [hT] at h
 cases v with
 | slice a l c => exact ⟨a, l, c, rfl⟩
 | _ => simp [Cell.ok, hT] at h
variable [Glob]
theorem c3 : Tryz.prog.cellsOf 3 = 1 := by kernel_rfl
theorem c4 : Tryz.prog.cellsOf 4 = 1 := by kernel_rfl
theorem c9 : Tryz.prog.cellsOf 9 = 1 := by kernel_rfl
theorem c48 : Tryz.prog.cellsOf 48 = 1 := by kernel_rfl
theorem c49 : Tryz.prog.cellsOf 49 = 1 := by kernel_rfl
theorem c51 : Tryz.prog.cellsOf 51 = 5 := by kernel_rfl
theorem c61 : Tryz.prog.cellsOf 61 = 3 := by kernel_rfl
theorem c63 : Tryz.prog.cellsOf 63 = 4 := by kernel_rfl
theorem c82 : Tryz.prog.cellsOf 82 = 2 := by kernel_rfl
def wVer (x : Ver) : Nat := 1 + 1 + 1
def wSel (x : Sel) : Nat := x.path.size + 1 + wVer x.ver
def wSpn (x : Spn) : Nat := 1 + 1
def wAdv (x : Adv) : Nat := x.id.size + 1 + x.path.size + 1 + (sumBy wSpn x.set + 1) + (sumBy (fun s : ByteArray => s.size + 1) x.syms + 1) + x.note.size + 1
section
variable {F : Addr → Option Value} {hg : Gl F} {H : Type} {enc : TypeId × Value → H} {w : World} {sp : Nat → Bool} {held : Bool} {f : Nat} {cs : List Value} {d : DataW H} {p : List MemPlace}
theorem rd_last {a : List V} {cs : List Value} {off n : Nat} (h1 : Rd F hg a ((cs.drop off).take n)) (h : cs.length = off + n) : Rd F hg a (cs.drop off) := by
 rwa [List.take_of_length_le (by simp; omega)] at h1
theorem rd_num (h : DataW.trod enc Tryz.prog w 0 sp held f 3 cs = some (d, p)) : ∃ n : Int, Rd F hg [num n] cs ∧ 1 ≤ Rows.uptoBulk d := by
 cases f with
 | zero => simp [DataW.trod] at h
 | succ f => obtain ⟨n, rfl, rfl⟩ := trod_int Tryz.underlying3 h; exact ⟨n, rd_one rfl, by simp [Rows.uptoBulk]⟩
theorem rd_str (h : DataW.trod enc Tryz.prog w 0 sp held f 9 cs = some (d, p)) : ∃ s : ByteArray, Rd F hg [str s] cs ∧ s.size + 1 ≤ Rows.uptoBulk d := by
 cases f with
 | zero => simp [DataW.trod] at h
 | succ f =>
  obtain ⟨n, rfl, rfl⟩ := trod_string Tryz.underlying9 h
  exact ⟨n, rd_one rfl, by simp only [Rows.uptoBulk,Array.length_toList]; exact Nat.le_refl _⟩
theorem rd_bl (h : DataW.trod enc Tryz.prog w 0 sp held f 4 cs = some (d, p)) : ∃ b : Bool, Rd F hg [bl b] cs := by
 cases f with
 | zero => simp [DataW.trod] at h
 | succ f => obtain ⟨n, rfl, -⟩ := trod_bool Tryz.underlying4 h; exact ⟨n, rd_one rfl⟩
theorem rd_sl {T T' : TypeId} {α : Type} {row : α → V} {g : α → Nat} {n : Nat} (hF : F = w.cell?) (hT : Tryz.prog.underlying T = some (.slice T')) (hn : Tryz.prog.cellsOf T' = n)
  (hr : ∀ f', f' < f → ∀ {cs : List Value} {d : DataW H} {p : List MemPlace}, DataW.trod enc Tryz.prog w 0 sp held f' T' cs = some (d, p) → ∃ a : α, Rd F hg (row a).cells cs ∧ g a ≤ Rows.uptoBulk d)
  (h : DataW.trod enc Tryz.prog w 0 sp held f T cs = some (d, p)) : ∃ l : List α, Rd F hg [.slice (l.map row)] cs ∧ sumBy g l + 1 ≤ Rows.uptoBulk d := by
 cases f with
 | zero => simp [DataW.trod] at h
 | succ f => exact rd_slice hF hT hn (fun h => hr f (Nat.lt_succ_self f) h) h
theorem rd_Ver (hF : F = w.cell?) (h : DataW.trod enc Tryz.prog w 0 sp held f 61 cs = some (d, p)) : ∃ x : Ver, Rd F hg (encVer x).cells cs ∧ wVer x ≤ Rows.uptoBulk d := by
 cases f with
 | zero => simp [DataW.trod] at h
 | succ f =>
  obtain ⟨hl, d0, p0, h0, d1, p1, h1, d2, p2, h2, rfl⟩ := trod_parts Tryz.underlying61 h
  simp only [c3] at h0 h1 h2
  rw [c61] at hl
  obtain ⟨x0, a0, b0⟩ := rd_num (F := F) (hg := hg) h0
  obtain ⟨x1, a1, b1⟩ := rd_num (F := F) (hg := hg) h1
  obtain ⟨x2, a2, b2⟩ := rd_num (F := F) (hg := hg) h2
  refine ⟨⟨x0, x1, x2⟩, ?_, ?_⟩
  ·show Rd F hg ([num x0] ++ ([num x1] ++ ([num x2]))) (cs.drop 0)
   exact rd_step (a := [num x0]) (off := 0) a0 (rd_step (a := [num x1]) a1 (rd_last (a := [num x2]) a2 hl))
  ·simp only [Rows.uptoBulk,Rows.uptoBulkAll,wVer]; omega
theorem rd_Sel (hF : F = w.cell?) (h : DataW.trod enc Tryz.prog w 0 sp held f 63 cs = some (d, p)) : ∃ x : Sel, Rd F hg (encSel x).cells cs ∧ wSel x ≤ Rows.uptoBulk d := by
 cases f with
 | zero => simp [DataW.trod] at h
 | succ f =>
  obtain ⟨hl, d0, p0, h0, d1, p1, h1, rfl⟩ := trod_parts Tryz.underlying63 h
  simp only [c9,c61] at h0 h1
  rw [c63] at hl
  obtain ⟨x0, a0, b0⟩ := rd_str (F := F) (hg := hg) h0
  obtain ⟨x1, a1, b1⟩ := rd_Ver (F := F) (hg := hg) hF h1
  refine ⟨⟨x0, x1⟩, ?_, ?_⟩
  ·show Rd F hg ([str x0] ++ ((encVer x1).cells)) (cs.drop 0)
   exact rd_step (a := [str x0]) (off := 0) a0 (rd_last (a := (encVer x1).cells) a1 hl)
  ·simp only [Rows.uptoBulk,Rows.uptoBulkAll,wSel]; omega
theorem rd_Sels (hF : F = w.cell?) (h : DataW.trod enc Tryz.prog w 0 sp held f 24 cs = some (d, p)) : ∃ l : List Sel, Rd F hg [.slice (l.map encSel)] cs ∧ sumBy wSel l + 1 ≤ Rows.uptoBulk d :=
 rd_sl (row := encSel) (g := wSel) hF Tryz.underlying24 c63 (fun f' _ {cs d p} h => rd_Sel hF h) h
theorem rd_Spn (hF : F = w.cell?) (h : DataW.trod enc Tryz.prog w 0 sp held f 82 cs = some (d, p)) : ∃ x : Spn, Rd F hg (encSpn x).cells cs ∧ wSpn x ≤ Rows.uptoBulk d := by
 cases f with
 | zero => simp [DataW.trod] at h
 | succ f =>
  obtain ⟨hl, d0, p0, h0, d1, p1, h1, rfl⟩ := trod_parts Tryz.underlying82 h
  simp only [c3] at h0 h1
  rw [c82] at hl
  obtain ⟨x0, a0, b0⟩ := rd_num (F := F) (hg := hg) h0
  obtain ⟨x1, a1, b1⟩ := rd_num (F := F) (hg := hg) h1
  refine ⟨⟨x0, x1⟩, ?_, ?_⟩
  ·show Rd F hg ([num x0] ++ ([num x1])) (cs.drop 0)
   exact rd_step (a := [num x0]) (off := 0) a0 (rd_last (a := [num x1]) a1 hl)
  ·simp only [Rows.uptoBulk,Rows.uptoBulkAll,wSpn]; omega
theorem rd_Spns (hF : F = w.cell?) (h : DataW.trod enc Tryz.prog w 0 sp held f 48 cs = some (d, p)) : ∃ l : List Spn, Rd F hg [.slice (l.map encSpn)] cs ∧ sumBy wSpn l + 1 ≤ Rows.uptoBulk d :=
 rd_sl (row := encSpn) (g := wSpn) hF Tryz.underlying48 c82 (fun f' _ {cs d p} h => rd_Spn hF h) h
theorem rd_strs (hF : F = w.cell?) (h : DataW.trod enc Tryz.prog w 0 sp held f 49 cs = some (d, p)) : ∃ l : List ByteArray, Rd F hg [.slice (l.map str)] cs ∧ sumBy (fun s : ByteArray => s.size + 1) l + 1 ≤ Rows.uptoBulk d :=
 rd_sl (row := str) (g := (fun s : ByteArray => s.size + 1)) hF Tryz.underlying49 c9 (fun f' _ {cs d p} h => rd_str h) h
theorem rd_Adv (hF : F = w.cell?) (h : DataW.trod enc Tryz.prog w 0 sp held f 51 cs = some (d, p)) : ∃ x : Adv, Rd F hg (encAdv x).cells cs ∧ wAdv x ≤ Rows.uptoBulk d := by
 cases f with
 | zero => simp [DataW.trod] at h
 | succ f =>
  obtain ⟨hl, d0, p0, h0, d1, p1, h1, d2, p2, h2, d3, p3, h3, d4, p4, h4, rfl⟩ := trod_parts Tryz.underlying51 h
  simp only [c9,c48,c49] at h0 h1 h2 h3 h4
  rw [c51] at hl
  obtain ⟨x0, a0, b0⟩ := rd_str (F := F) (hg := hg) h0
  obtain ⟨x1, a1, b1⟩ := rd_str (F := F) (hg := hg) h1
  obtain ⟨x2, a2, b2⟩ := rd_Spns (F := F) (hg := hg) hF h2
  obtain ⟨x3, a3, b3⟩ := rd_strs (F := F) (hg := hg) hF h3
  obtain ⟨x4, a4, b4⟩ := rd_str (F := F) (hg := hg) h4
  refine ⟨⟨x0, x1, x2, x3, x4⟩, ?_, ?_⟩
  ·show Rd F hg ([str x0] ++ ([str x1] ++ ([.slice (x2.map encSpn)] ++ ([.slice (x3.map str)] ++ ([str x4]))))) (cs.drop 0)
   exact rd_step (a := [str x0]) (off := 0) a0 (rd_step (a := [str x1]) a1 (rd_step (a := [.slice (x2.map encSpn)]) a2 (rd_step (a := [.slice (x3.map str)]) a3 (rd_last (a := [str x4]) a4 hl))))
  ·simp only [Rows.uptoBulk,Rows.uptoBulkAll,wAdv]; omega
theorem rd_Advs (hF : F = w.cell?) (h : DataW.trod enc Tryz.prog w 0 sp held f 25 cs = some (d, p)) : ∃ l : List Adv, Rd F hg [.slice (l.map encAdv)] cs ∧ sumBy wAdv l + 1 ≤ Rows.uptoBulk d :=
 rd_sl (row := encAdv) (g := wAdv) hF Tryz.underlying25 c51 (fun f' _ {cs d p} h => rd_Adv hF h) h
end
theorem c100 : Tryz.prog.cellsOf 100 = 1 := by kernel_rfl
theorem c101 : Tryz.prog.cellsOf 101 = 1 := by kernel_rfl
theorem c103 : Tryz.prog.cellsOf 103 = 5 := by kernel_rfl
theorem c269 : Tryz.prog.cellsOf 269 = 7 := by kernel_rfl
theorem c104 : Tryz.prog.cellsOf 104 = 1 := by kernel_rfl
theorem c105 : Tryz.prog.cellsOf 105 = 1 := by kernel_rfl
theorem c107 : Tryz.prog.cellsOf 107 = 8 := by kernel_rfl
theorem c89 : Tryz.prog.cellsOf 89 = 1 := by kernel_rfl
theorem c90 : Tryz.prog.cellsOf 90 = 1 := by kernel_rfl
theorem c92 : Tryz.prog.cellsOf 92 = 3 := by kernel_rfl
theorem c99 : Tryz.prog.cellsOf 99 = 1 := by kernel_rfl
theorem c109 : Tryz.prog.cellsOf 109 = 31 := by kernel_rfl
theorem c169 : Tryz.prog.cellsOf 169 = 7 := by kernel_rfl
theorem c271 : Tryz.prog.cellsOf 271 = 8 := by kernel_rfl
theorem c423 : Tryz.prog.cellsOf 423 = 2 := by kernel_rfl
section
variable [Glob] {F : Addr → Option Value} {hg : Gl F} {H : Type} {enc : TypeId × Value → H} {w : World} {sp : Nat → Bool} {held : Bool} {f : Nat} {cs : List Value} {d : DataW H} {p : List MemPlace}
theorem rd_ty (hF : F = w.cell?) : ∀ (f : Nat) {cs : List Value} {d : DataW H} {p : List MemPlace}, DataW.trod enc Tryz.prog w 0 sp held f 103 cs = some (d, p) → ∃ t : Ty, Rd F hg (encTy t).cells cs ∧ t.wt ≤ Rows.uptoBulk d := by
 intro f
 induction f using Nat.strongRecOn with
 | ind f ih =>
  intro cs d p h
  cases f with
  | zero => simp [DataW.trod] at h
  | succ f =>
   obtain ⟨hl, d0, p0, h0, d1, p1, h1, d2, p2, h2, d3, p3, h3, d4, p4, h4, rfl⟩ := trod_parts Tryz.underlying103 h
   simp only [c3,c9,c100,c101] at h0 h1 h2 h3 h4
   rw [c103] at hl
   obtain ⟨k, hk, -⟩ := rd_num (F := F) (hg := hg) h0
   obtain ⟨m, hm, s1⟩ := rd_str (F := F) (hg := hg) h1
   obtain ⟨n, hn, s2⟩ := rd_str (F := F) (hg := hg) h2
   obtain ⟨ts, hts, bts⟩ := rd_sl (F := F) (hg := hg) hF Tryz.underlying100 c103 (fun f' hf' {cs d p} h => ih f' (by omega) h) h3
   obtain ⟨fs, hfs, bfs⟩ := rd_sl (F := F) (hg := hg) (α := Fd) (row := encFd) (g := Fd.wt) hF Tryz.underlying101 c269 (fun f' hf' {cs d p} h => by
    cases f' with
    | zero => simp [DataW.trod] at h
    | succ f' =>
     obtain ⟨hl, d0, p0, h0, d1, p1, h1, d2, p2, h2, rfl⟩ := trod_parts Tryz.underlying269 h
     simp only [c4,c9,c103] at h0 h1 h2
     rw [c269] at hl
     obtain ⟨n, hn, s0⟩ := rd_str (F := F) (hg := hg) h0
     obtain ⟨t, ht, bt⟩ := ih f' (by omega) h1
     obtain ⟨b, hb⟩ := rd_bl (F := F) (hg := hg) h2
     rw [encTy_eq] at ht
     refine ⟨.mk n t b, ?_, ?_⟩
     ·rw [encFd_eq]
      show Rd F hg ([str n] ++ tyCells t ++ [bl b]) (cs.drop 0)
      rw [List.append_assoc]
      exact rd_step hn (rd_step ht (rd_last hb hl))
     ·rw [Fd.wt_eq]; simp only [Rows.uptoBulk,Rows.uptoBulkAll,Fd.ty,Fd.name]; omega) h4
   refine ⟨.mk k m n ts fs, ?_, ?_⟩
   ·rw [encTy_eq]
    simp only [tyCells,Ty.kind,Ty.mod,Ty.name,Ty.args,Ty.flds,encTys_map,encFds_map]
    exact rd_step (off := 0) hk (rd_step hm (rd_step hn (rd_step hts (rd_step hfs (rd_end hl)))))
   ·simp only [Rows.uptoBulk,Rows.uptoBulkAll,Ty.wt,wtTys_sum,wtFds_sum]; omega
theorem rd_lb (hF : F = w.cell?) (h : DataW.trod enc Tryz.prog w 0 sp held f 271 cs = some (d, p)) : ∃ x : Lb, Rd F hg (encLb x).cells cs ∧ x.wt ≤ Rows.uptoBulk d := by
 cases f with
 | zero => simp [DataW.trod] at h
 | succ f =>
  obtain ⟨hl, d0, p0, h0, d1, p1, h1, d2, p2, h2, d3, p3, h3, rfl⟩ := trod_parts Tryz.underlying271 h
  simp only [c4,c9,c103] at h0 h1 h2 h3
  rw [c271] at hl
  obtain ⟨n, hn, s0⟩ := rd_str (F := F) (hg := hg) h0
  obtain ⟨v, hv, s1⟩ := rd_str (F := F) (hg := hg) h1
  obtain ⟨t, ht, bt⟩ := rd_ty (hg := hg) hF _ h2
  obtain ⟨b, hb⟩ := rd_bl (F := F) (hg := hg) h3
  rw [encTy_eq] at ht
  refine ⟨⟨n, v, t, b⟩, ?_, ?_⟩
  ·show Rd F hg ([str n, str v] ++ tyCells t ++ [bl b]) (cs.drop 0)
   rw [List.append_assoc]
   exact rd_step (a := [str n]) hn (rd_step (a := [str v]) hv (rd_step (b := [bl b]) ht (rd_last hb hl)))
  ·simp only [Rows.uptoBulk,Rows.uptoBulkAll,Lb.wt]; omega
theorem rd_ex (hF : F = w.cell?) : ∀ (f : Nat) {cs : List Value} {d : DataW H} {p : List MemPlace}, DataW.trod enc Tryz.prog w 0 sp held f 107 cs = some (d, p) → ∃ t : Ex, Rd F hg (encEx t).cells cs ∧ t.wt ≤ Rows.uptoBulk d := by
 intro f
 induction f using Nat.strongRecOn with
 | ind f ih =>
  intro cs d p h
  cases f with
  | zero => simp [DataW.trod] at h
  | succ f =>
   obtain ⟨hl, d0, p0, h0, d1, p1, h1, d2, p2, h2, d3, p3, h3, d4, p4, h4, d5, p5, h5, d6, p6, h6, d7, p7, h7, rfl⟩ := trod_parts Tryz.underlying107 h
   simp only [c3,c9,c100,c104,c105] at h0 h1 h2 h3 h4 h5 h6 h7
   rw [c107] at hl
   obtain ⟨k, hk, -⟩ := rd_num (F := F) (hg := hg) h0
   obtain ⟨m, hm, s1⟩ := rd_str (F := F) (hg := hg) h1
   obtain ⟨n, hn, s2⟩ := rd_str (F := F) (hg := hg) h2
   obtain ⟨x, hx, s3⟩ := rd_str (F := F) (hg := hg) h3
   obtain ⟨i, hi, -⟩ := rd_num (F := F) (hg := hg) h4
   obtain ⟨ts, hts, bts⟩ := rd_sl (F := F) (hg := hg) hF Tryz.underlying100 c103 (fun f' _ {cs d p} h => rd_ty hF f' h) h5
   obtain ⟨ls, hls, bls⟩ := rd_sl (F := F) (hg := hg) hF Tryz.underlying104 c271 (fun f' _ {cs d p} h => rd_lb hF h) h6
   obtain ⟨ks, hks, bks⟩ := rd_sl (F := F) (hg := hg) hF Tryz.underlying105 c107 (fun f' hf' {cs d p} h => ih f' (by omega) h) h7
   refine ⟨.mk k m n x i ts ls ks, ?_, ?_⟩
   ·rw [encEx_eq]
    simp only [exCells,Ex.kind,Ex.mod,Ex.name,Ex.text,Ex.num,Ex.types,Ex.labels,Ex.kids,encTys_map,encExs_map]
    exact rd_step (off := 0) hk (rd_step hm (rd_step hn (rd_step hx (rd_step hi (rd_step hts (rd_step hls (rd_step hks (rd_end hl))))))))
   ·simp only [Rows.uptoBulk,Rows.uptoBulkAll,Ex.wt,wtExs_eq]; omega
theorem rd_pm (hF : F = w.cell?) (h : DataW.trod enc Tryz.prog w 0 sp held f 169 cs = some (d, p)) : ∃ x : Pm, Rd F hg (encPm x).cells cs ∧ x.wt ≤ Rows.uptoBulk d := by
 cases f with
 | zero => simp [DataW.trod] at h
 | succ f =>
  obtain ⟨hl, d0, p0, h0, d1, p1, h1, d2, p2, h2, rfl⟩ := trod_parts Tryz.underlying169 h
  simp only [c3,c9,c103] at h0 h1 h2
  rw [c169] at hl
  obtain ⟨n, hn, s0⟩ := rd_str (F := F) (hg := hg) h0
  obtain ⟨v, hv, -⟩ := rd_num (F := F) (hg := hg) h1
  obtain ⟨t, ht, bt⟩ := rd_ty (hg := hg) hF _ h2
  rw [encTy_eq] at ht
  refine ⟨⟨n, v, t⟩, ?_, ?_⟩
  ·show Rd F hg ([str n, num v] ++ tyCells t) (cs.drop 0)
   exact rd_step (a := [str n]) hn (rd_step (a := [num v]) hv (rd_last ht hl))
  ·simp only [Rows.uptoBulk,Rows.uptoBulkAll,Pm.wt]; omega
theorem rd_im (h : DataW.trod enc Tryz.prog w 0 sp held f 423 cs = some (d, p)) : ∃ x : Im, Rd F hg (encIm x).cells cs ∧ x.wt ≤ Rows.uptoBulk d := by
 cases f with
 | zero => simp [DataW.trod] at h
 | succ f =>
  obtain ⟨hl, d0, p0, h0, d1, p1, h1, rfl⟩ := trod_parts Tryz.underlying423 h
  simp only [c9] at h0 h1
  rw [c423] at hl
  obtain ⟨n, hn, s0⟩ := rd_str (F := F) (hg := hg) h0
  obtain ⟨v, hv, s1⟩ := rd_str (F := F) (hg := hg) h1
  refine ⟨⟨n, v⟩, ?_, ?_⟩
  ·exact rd_step (a := [str n]) (off := 0) hn (rd_last (a := [str v]) hv hl)
  ·simp only [Rows.uptoBulk,Rows.uptoBulkAll,Im.wt]; omega
theorem rd_dc (hF : F = w.cell?) (h : DataW.trod enc Tryz.prog w 0 sp held f 109 cs = some (d, p)) : ∃ x : Dc, Rd F hg (encDc x).cells cs ∧ x.wt ≤ Rows.uptoBulk d := by
 cases f with
 | zero => simp [DataW.trod] at h
 | succ f =>
  obtain ⟨hl, d0, p0, h0, d1, p1, h1, d2, p2, h2, d3, p3, h3, d4, p4, h4, d5, p5, h5, d6, p6, h6, d7, p7, h7, d8, p8, h8, d9, p9, h9, d10, p10, h10, d11, p11, h11, rfl⟩ := trod_parts Tryz.underlying109 h
  simp only [c3,c4,c9,c103,c107,c99] at h0 h1 h2 h3 h4 h5 h6 h7 h8 h9 h10 h11
  rw [c109] at hl
  obtain ⟨k, hk, -⟩ := rd_num (F := F) (hg := hg) h0
  obtain ⟨n, hn, s1⟩ := rd_str (F := F) (hg := hg) h1
  obtain ⟨x, hx⟩ := rd_bl (F := F) (hg := hg) h2
  obtain ⟨y, hy⟩ := rd_bl (F := F) (hg := hg) h3
  obtain ⟨o, ho, s4⟩ := rd_str (F := F) (hg := hg) h4
  obtain ⟨ps, hps, bps⟩ := rd_sl (F := F) (hg := hg) hF Tryz.underlying99 c169 (fun f' _ {cs d p} h => rd_pm hF h) h5
  obtain ⟨lo, hlo, blo⟩ := rd_ty (hg := hg) hF _ h6
  obtain ⟨up, hup, bup⟩ := rd_ty (hg := hg) hF _ h7
  obtain ⟨ty, hty, bty⟩ := rd_ty (hg := hg) hF _ h8
  obtain ⟨e, he, be⟩ := rd_ex (hg := hg) hF _ h9
  obtain ⟨m, hm, s10⟩ := rd_str (F := F) (hg := hg) h10
  obtain ⟨t, ht, s11⟩ := rd_str (F := F) (hg := hg) h11
  rw [encTy_eq] at hlo hup hty
  rw [encEx_eq] at he
  refine ⟨⟨k, n, x, y, o, ps, lo, up, ty, e, m, t⟩, ?_, ?_⟩
  ·show Rd F hg ([num k, str n, bl x, bl y, str o, .slice (ps.map encPm)] ++ tyCells lo ++ tyCells up ++ tyCells ty ++ exCells e ++ [str m, str t]) (cs.drop 0)
   simp only [List.append_assoc]
   exact rd_step (a := [num k]) hk (rd_step (a := [str n]) hn (rd_step (a := [bl x]) hx (rd_step (a := [bl y]) hy (rd_step (a := [str o]) ho (rd_step (a := [.slice (ps.map encPm)]) hps
    (rd_step hlo (rd_step hup (rd_step hty (rd_step he (rd_step (a := [str m]) hm (rd_last (a := [str t]) ht hl)))))))))))
  ·simp only [Rows.uptoBulk,Rows.uptoBulkAll,Dc.wt]; omega
theorem rd_md (hF : F = w.cell?) (h : DataW.trod enc Tryz.prog w 0 sp held f 92 cs = some (d, p)) : ∃ x : Md, Rd F hg (encMd x).cells cs ∧ x.wt ≤ Rows.uptoBulk d := by
 cases f with
 | zero => simp [DataW.trod] at h
 | succ f =>
  obtain ⟨hl, d0, p0, h0, d1, p1, h1, d2, p2, h2, rfl⟩ := trod_parts Tryz.underlying92 h
  simp only [c9,c89,c90] at h0 h1 h2
  rw [c92] at hl
  obtain ⟨n, hn, s0⟩ := rd_str (F := F) (hg := hg) h0
  obtain ⟨is, his, bis⟩ := rd_sl (F := F) (hg := hg) hF Tryz.underlying89 c423 (fun f' _ {cs d p} h => rd_im h) h1
  obtain ⟨ds, hds, bds⟩ := rd_sl (F := F) (hg := hg) hF Tryz.underlying90 c109 (fun f' _ {cs d p} h => rd_dc hF h) h2
  refine ⟨⟨n, is, ds⟩, ?_, ?_⟩
  ·exact rd_step (a := [str n]) (off := 0) hn (rd_step (a := [.slice (is.map encIm)]) his (rd_last (a := [.slice (ds.map encDc)]) hds hl))
  ·simp only [Rows.uptoBulk,Rows.uptoBulkAll,Md.wt]; omega
theorem rd_mds (hF : F = w.cell?) (h : DataW.trod enc Tryz.prog w 0 sp held f 23 cs = some (d, p)) : ∃ l : List Md, Rd F hg [.slice (l.map encMd)] cs ∧ sumBy Md.wt l + 1 ≤ Rows.uptoBulk d :=
 rd_sl (row := encMd) (g := Md.wt) hF Tryz.underlying23 c92 (fun f' _ {cs d p} h => rd_md hF h) h
end
theorem mds_B {l : List Md} (h : sumBy Md.wt l ≤ 1048576) : l.length ≤ 1048576 ∧ ∀ m ∈ l, m.wt ≤ 1048576 :=
 ⟨Nat.le_trans (length_le_sum Md.wt Md.wt_pos l) h, fun m hm => Nat.le_trans (mem_sum Md.wt hm) h⟩
theorem wspn_pos (x : Spn) : 1 ≤ wSpn x := by unfold wSpn; omega
theorem wadv_pos (x : Adv) : 1 ≤ wAdv x := by unfold wAdv; omega
theorem wsel_pos (x : Sel) : 1 ≤ wSel x := by unfold wSel; omega
theorem adv_B {a : Adv} (h : wAdv a ≤ 1048576) : AdB a := by
 unfold wAdv at h
 have h1 := length_le_sum wSpn wspn_pos a.set
 have h2 := length_le_sum (fun s : ByteArray => s.size + 1) (fun s => by omega) a.syms
 exact ⟨by omega, by omega, by omega⟩
theorem advs_B {l : List Adv} (h : sumBy wAdv l ≤ 1048576) : l.length ≤ 1048576 ∧ ∀ a ∈ l, AdB a :=
 ⟨Nat.le_trans (length_le_sum wAdv wadv_pos l) h, fun a ha => adv_B (Nat.le_trans (mem_sum wAdv ha) h)⟩
theorem sels_B {l : List Sel} (h : sumBy wSel l ≤ 1048576) : l.length ≤ 1048576 := Nat.le_trans (length_le_sum wSel wsel_pos l) h
end Go.Proofs.YtefbaladomfccaaGreatDoor
end

section
namespace Go.Proofs.YtefbaladomfccaaGreatDoor
open Go.Eng
set_option maxRecDepth 100000
open Go.ChangeShapes Go.WideShapes Go.ChangeAt Go.RowKit
@[reducible] def gOf (n : Int) : Glob := { n := n, κ := fun _ => none, ok := fun j b hb => (by cases hb), g := some 0, tabs := fun _ => none }
theorem cell_int {W : World} {v : Value} (hok : Cell.ok Tryz.prog W .any 0 3 v) : ∃ n : Int, v = .int .i64 n := by
 unfold Cell.ok at hok
 rw [Tryz.underlying3] at hok
 cases v with
 | int k n => exact ⟨n, by rw [show k = .i64 from hok.1]⟩
 | _ => exact hok.elim
theorem maxLen_at {W : World} (hS : W.ShapedOpen Tryz.prog) : ∃ n : Int, W.cell? ⟨0, 0, none⟩ = some (.int .i64 n) := by
 have h0 : (((begin Tryz.prog (fun _ _ => 0) default).world.heap[0]?).bind Obj.row?) = some (#[.int .i64 0], 3) := by kernel_rfl
 obtain ⟨cs, hc, hz, hr⟩ := hS.1 0 _ _ (of_decide_eq_true (by kernel_rfl)) h0
 obtain ⟨ts, h1, -, h3⟩ := hr (by kernel_rfl)
 obtain rfl : [3] = ts := Option.some.inj ((show Tryz.prog.cellTypes Tryz.prog.depth 3 = some [3] by kernel_rfl).symm.trans h1)
 have hz' : cs.size = 1 := hz
 obtain ⟨v, hv⟩ : ∃ v, cs[0]? = some v := ⟨cs[0], Array.getElem?_eq_getElem (by omega)⟩
 obtain ⟨u, hu, hok⟩ := h3 0 v hv
 obtain rfl : 3 = u := by simpa using hu
 obtain ⟨n, rfl⟩ := cell_int hok
 exact ⟨n, by simp [World.cell?, hc, hv]⟩
theorem post_kept {H : Type} {enc : TypeId × Value → H} {P : Program} {f : Func} {s : ChangeSpec} {apart fresh handsOn again : Bool} {W W' : World} {args : Array Value} {v : Value} {ds gs : List (DataW H)} {before pa pv : List MemPlace}
  (hW : DataW.Whole enc P f.params.toList s.vars apart W args.toList ds gs before)
  (hres : ∀ (b : Nat) (sp : Nat → Bool) (hd : Bool), DataW.TrodAll enc P W' b sp hd f.resultTypes.toList (v.resultList f.resultTypes.size) (s.fn H (ds ++ gs)).results [])
  (hargs : ∀ sp : Nat → Bool, (∀ p ∈ before, sp p.block = true) → DataW.TrodAll enc P W' 0 sp true f.params.toList args.toList (s.fn H (ds ++ gs)).args pa)
  (hvars : ∀ sp : Nat → Bool, (∀ p ∈ before, sp p.block = true) → DataW.TrodVars enc P W' sp s.vars (s.fn H (ds ++ gs)).vars pv)
  (hps : before = pa ++ pv) (hb : Below W.heap.size W W')
  (hok : ∀ (j : Nat) (t : TypeId) (r : Value), f.resultTypes[j]? = some t → (v.resultList f.resultTypes.size)[j]? = some r → Value.okWide P W' .any 0 t r) :
  s.post enc P f apart fresh handsOn again W args v W' := by
 have hlt := hW.lt
 refine ⟨ds, gs, before, [], pa, pv, hW, hres _ _ _, hargs _ (fun p hp => by simpa using hlt p hp), hvars _ (fun p hp => by simpa using hlt p hp), hb.frame _, fun _ => ?_⟩
 obtain ⟨_, _, _, _, _, hz, hn⟩ := hW
 refine ⟨hok, _, _, ([] ++ pa) ++ pv, ⟨[] ++ pa, pv, trodAll_append (hargs _ (fun _ _ => rfl)) (hres _ _ _), hvars _ (fun _ _ => rfl), rfl, fun b off hp => ?_, fun ha => ?_⟩, fun p hp _ => ?_⟩
 ·have hp' : MemPlace.cell b off ∈ before := by rw [hps]; simpa using hp
  rw [hb.frozen (show (⟨b, off, none⟩ : Addr).block < W.heap.size from hlt _ hp')]
  exact hz b off hp'
 ·have := hn ha
  rw [hps] at this
  simpa using this
 ·rw [hps]
  simpa using hp
theorem rep_sl {F : Addr → Option Value} [Glob] {hg : Gl F} {rows : List V} {a : Option Addr} {l c : Nat} (h : Rd F hg [.slice rows] (Value.slice a l c).cells.toList) : Rep ⟨F, fun _ _ => none, hg⟩ (.slice rows) (.slice a l c) := h.1.2 0 _ _ rfl rfl
end Go.Proofs.YtefbaladomfccaaGreatDoor
end
