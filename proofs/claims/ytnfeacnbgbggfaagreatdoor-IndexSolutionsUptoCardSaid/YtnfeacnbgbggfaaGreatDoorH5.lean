/-
  CONTRACTS: slices.SortFunc at clipped spans.
  CONTRACTS: Canonical.
  CONTRACTS: the checks of requirements.
  CONTRACTS: requirements, releases, indices.
  READINGS of chapter 32's data.
  CONTRACTS: the bytes of numbers and strings.
  CONTRACTS: the closures of Manifest.
  CONTRACTS: the reader.
  CONTRACTS: numbers and strings read.
  CONTRACTS: the methods of a reader.
  CONTRACTS: Manifest.
-/
import Derived.Test.YtnfeacnbgbggfaaGreatDoorH4
set_option linter.all false
section
namespace Go.Proofs.YtnfeacnbgbggfaaGreatDoor
open Go.Eng
open Go.Sort (SWO grow flatK HoldsK PermIn SortedIn)
variable [Glob]
theorem flatC_get (d : Array SpC) (i j : Nat) (hi : i < d.size) (hj : j < 2) : (flatK encC 2 d)[i * 2 + j]! = (encC d[i]!)[j]! := by
 rw [Go.Sort.get_flatK _ _ _ _ (by omega)]
 rw [show (i * 2 + j) / 2 = i by omega, show (i * 2 + j) % 2 = j by omega]
theorem toC : ∀ l : List Spn, (∀ x ∈ l, 0 ≤ x.lo ∧ x.lo ≤ 1000000) → ∃ d : List SpC, d.map Subtype.val = l
 | [], _ => ⟨[], rfl⟩
 | x :: r, h => by
  obtain ⟨d, hd⟩ := toC r fun y hy => h y (by simp [hy])
  exact ⟨⟨x, h x (by simp)⟩ :: d, by simp [hd]⟩
theorem sortSpn_ok (m : List Blk) (b v : Nat) (l : List Spn) (hb : m[b]? = some (.rows v 2 (l.map encSpn))) (h0 : 0 < l.length) (hl : l.length ≤ 1048576) (hC : ∀ x ∈ l, 0 ≤ x.lo ∧ x.lo ≤ 1000000) :
  FnOkR Tryz.prog 118 [.ms b v 0 l.length, .sc (.func (.func 119) #[] #[])] m fun r m' => r = .sc (.tuple #[]) ∧ ∃ l' : List Spn, l'.Perm l ∧ AscLo l' ∧ m' = m.set b (.rows v 2 (l'.map encSpn)) := by
 refine ⟨Tryz.call118, fun E w xs hs hx => ?_⟩
 obtain ⟨x, ys, hxs, hr, hrest⟩ := hx.of_cons
 obtain ⟨f, zs, hys, hrf, hz⟩ := hrest.of_cons
 have hzs := hz.of_nil
 subst hzs
 have hf := rep_sc hrf
 subst hf
 obtain rfl : xs = #[x, .func (.func 119) #[] #[]] := by rw [← Array.toArray_toList (xs := xs), hxs, hys]
 rcases hs.mem b _ hb with ⟨hnil, -⟩ | ⟨gb, T, cs, c, hblk, hh, hcs, hlc, hrows, hF⟩
 ·rw [List.map_eq_nil_iff] at hnil; subst hnil; simp at h0
 rw [List.length_map] at hlc
 obtain ⟨cap, rfl⟩ : ∃ cap, x = .slice (some ⟨gb, 0, none⟩) l.length cap := by
  clear hrest hx hxs hrows hl
  generalize l.length = nl at hr h0 hlc ⊢
  cases hr with
  | ms _ _ _ _ _ g' e' c' a cap hb' hl' h0' hc' =>
   rw [hblk] at hb'; cases hb'
   obtain ⟨rfl, -⟩ := h0' rfl
   exact ⟨cap, rfl⟩
  | msnil => exact absurd h0 (Nat.lt_irrefl _)
 obtain ⟨dl, hdl⟩ := toC l hC
 have hcell : ∀ (i : Nat) (u : Spn), l[i]? = some u → cs[i * 2]? = some (.int .i64 u.lo) ∧ cs[i * 2 + 1]? = some (.int .i64 u.hi) := fun i u hu => by
  obtain ⟨-, h2⟩ := hrows i (encSpn u) (by rw [List.getElem?_map, hu]; rfl)
  constructor
  ·obtain ⟨y, hy, -, hyr⟩ := h2 0 (num u.lo) rfl
   rw [rep_sc hyr] at hy; exact hy
  ·obtain ⟨y, hy, -, hyr⟩ := h2 1 (num u.hi) rfl
   rw [rep_sc hyr] at hy; exact hy
 have hgw : gb < w.heap.size := (Array.getElem?_eq_some_iff.1 hh).1
 have hdlen : dl.length = l.length := by rw [← hdl, List.length_map]
 have hget : ∀ i, i < l.length → l[i]? = some (dl.toArray[i]!).1 := fun i hi => by
  have hi' : i < dl.length := by omega
  have e : l[i]? = some (dl[i]).1 := by
   have := congrArg (fun q : List Spn => q[i]?) hdl
   simp only [List.getElem?_map,List.getElem?_eq_getElem hi',Option.map_some] at this
   exact this.symm
  rw [e, getElem!_pos dl.toArray i (by simpa using hi')]
  simp
 have hH : HoldsK encC 2 w gb 0 dl.toArray := fun t ht => by
  have ht' : t < l.length * 2 := by simpa [hdlen] using ht
  obtain ⟨i, j, hi, hj, rfl⟩ : ∃ i j, i < l.length ∧ j < 2 ∧ t = i * 2 + j := ⟨t / 2, t % 2, by omega, by omega, by omega⟩
  have hc := hcell i _ (hget i hi)
  refine ⟨?_, by simp [World.frozen?, hh]⟩
  rw [cell_at hh, Nat.zero_add, flatC_get _ _ _ (by simpa [hdlen] using hi) hj]
  obtain rfl | rfl : j = 0 ∨ j = 1 := by omega
  ·exact hc.1
  ·exact hc.2
 have call := sort118 gb 0 cap dl.toArray w hH hgw (by simp; omega)
 have e1 : dl.toArray.size = l.length := by rw [List.size_toArray, hdlen]
 rw [e1] at call
 refine call.mono ?_
 rintro e w' ⟨rfl, d', n, os, hp, hsrt, rfl⟩
 have hsize : d'.size = l.length := by rw [hp.1]; simp [hdlen]
 have hheap : (sortWorldK encC 2 w gb 0 n d' os).heap[gb]? = some (.cells (Go.Sort.putCells id 0 (flatK encC 2 d') cs) T (0, 0)) := by
  show (_ ++ os)[gb]? = _
  rw [Array.getElem?_append_left (by simpa [Go.Sort.putRowK] using hgw)]
  show ((w.heap.modify gb _))[gb]? = _
  rw [Array.getElem?_modify, if_pos rfl, hh]; rfl
 obtain ⟨h1, h2⟩ := hs.repl (w' := sortWorldK encC 2 w gb 0 n d' os) (rs' := (d'.toList.map Subtype.val).map encSpn) hb hblk hF rfl rfl rfl (by
   show _ ≤ (_ ++ os).size
   rw [Array.size_append]
   show _ ≤ (w.heap.modify gb _).size + _
   rw [Array.size_modify]; omega) hheap (fun k hk hne => by
   show (_ ++ os)[k]? = _
   rw [Array.getElem?_append_left (by simpa [Go.Sort.putRowK] using hk)]
   show ((w.heap.modify gb _))[k]? = _
   rw [Array.getElem?_modify, if_neg (fun e => hne e.symm)]) (by simp [Go.Sort.putCells, hcs]) (by simp [hsize]; exact hlc) (fun i row hi => by
   rw [List.map_map, List.getElem?_map, Option.map_eq_some_iff] at hi
   obtain ⟨u, hu, rfl⟩ := hi
   have hid : i < d'.size := by simpa using (List.getElem?_eq_some_iff.1 hu).1
   have hu' : d'[i]! = u := by
    rw [getElem!_pos d' i hid]
    have := (List.getElem?_eq_some_iff.1 hu).2
    simpa using this
   have key : ∀ j, j < 2 → (Go.Sort.putCells id 0 (flatK encC 2 d') cs)[i * 2 + j]? = some ((encC u)[j]!) := fun j hj => by
    have hlt : i * 2 + j < cs.size := by rw [hcs]; omega
    unfold Go.Sort.putCells
    rw [Array.getElem?_mapIdx, Array.getElem?_eq_getElem hlt, Option.map_some, if_pos ⟨Nat.zero_le _, by simp; omega⟩]
    simp only [id,Nat.sub_zero]
    rw [flatC_get _ _ _ hid hj, hu']
   refine ⟨rfl, fun j cc hj => ?_⟩
   match j, hj with
   | 0, hj => cases hj; exact ⟨.int .i64 u.1.lo, by simpa [encC] using key 0 (by omega), rfl, .sc _ _⟩
   | 1, hj => cases hj; exact ⟨.int .i64 u.1.hi, by simpa [encC] using key 1 (by omega), rfl, .sc _ _⟩
   | j + 2, hj => simp [encSpn, V.cells] at hj)
 refine ⟨E, _, _, _, rfl, ⟨rfl, d'.toList.map Subtype.val, ?_, ?_, rfl⟩, h2, h1, .sc _ _⟩
 ·have := hp.2.2
  rw [← hdl]
  refine List.Perm.map _ ?_
  simpa [hsize, hdlen, Array.extract_eq_self_of_le] using this
 ·refine List.pairwise_iff_getElem.2 fun i j hi hj hij => ?_
  have hj' : j < d'.size := by simpa using hj
  have := hsrt i j (Nat.zero_le _) hij (by simpa [hsize] using hj')
  rw [getElem!_pos d' j hj', getElem!_pos d' i (by omega)] at this
  have := of_decide_eq_false this
  unfold cfC at this
  simp only [List.getElem_map,Array.getElem_toList]
  omega
def noOrc : FuncId → List V → Option V := fun _ _ => none
theorem noOrc_ok : OrcOk Tryz.prog noOrc := fun f vs r h => by cases h
theorem noNat_ok : NatFOk Tryz.prog (fun _ _ => none) := fun f vs r h => by cases h
theorem sortNil_ok : FnOk Tryz.prog 118 [.slice [], .sc (.func (.func 119) #[] #[])] (.tup []) := ev_call noOrc_ok noNat_ok 3000 (by kernel_rfl)
theorem sortAll_ok (m : List Blk) (b v : Nat) (l : List Spn) (hb : m[b]? = some (.rows v 2 (l.map encSpn))) (hl : l.length ≤ 1048576) (hC : ∀ x ∈ l, 0 ≤ x.lo ∧ x.lo ≤ 1000000) :
  FnOkR Tryz.prog 118 [.ms b v 0 l.length, .sc (.func (.func 119) #[] #[])] m fun r m' => r = .sc (.tuple #[]) ∧ ∃ l' : List Spn, l'.Perm l ∧ AscLo l' ∧ m' = m.set b (.rows v 2 (l'.map encSpn)) := by
 rcases Nat.eq_zero_or_pos l.length with h0 | h0
 ·obtain rfl : l = [] := List.length_eq_zero_iff.1 h0
  refine (FnOk.none_rows (m := m) (b := b) (v := v) sortNil_ok fun E xs h => ?_).rel.mono fun r m' ⟨h1, h2⟩ => ⟨h1, [], List.Perm.refl _, List.Pairwise.nil, by
   rw [h2]
   apply List.ext_getElem?
   intro i
   rw [List.getElem?_set]
   split
   ·rename_i hi; subst hi
    rw [if_pos (List.getElem?_eq_some_iff.1 hb).1, hb]
   ·rfl⟩
  obtain ⟨y, ys, rfl, hr, hy⟩ := h.of_cons
  rw [hy.of_nil]
  have := rep_sc hr
  subst this
  exact RepL.cons (.sc _ _) (.nil _)
 ·exact sortSpn_ok m b v l hb h0 hl hC
end Go.Proofs.YtnfeacnbgbggfaaGreatDoor
end

section
namespace Go.Proofs.YtnfeacnbgbggfaaGreatDoor
open Go.Eng
open Nat (reduceAdd reduceLT reduceLeDiff reduceMul reduceEqDiff reduceSub)
variable [Glob]
set_option maxHeartbeats 4000000
set_option maxRecDepth 100000
attribute [local irreducible] runM stepM valD stepOp stepD callF callS stepTm callTm callRel appSQ
theorem clip_take {s : List Spn} {i : Nat} {x : Spn} (h : s[i]? = some x) : clip (s.take (i + 1)) = clip (s.take i) ++ (clipOne x).toList := by
 rw [List.take_add_one, h]
 unfold clip
 rw [List.filterMap_append]
 cases hx : clipOne x <;> simp [hx]
theorem clip_length (s : List Spn) : (clip s).length ≤ s.length := List.length_filterMap_le _ _
theorem clip_lt {x : Spn} (h : max x.lo 0 < min x.hi 1000000) : clipOne x = some ⟨max x.lo 0, min x.hi 1000000⟩ := if_pos h
theorem clip_ge {x : Spn} (h : ¬ max x.lo 0 < min x.hi 1000000) : clipOne x = none := if_neg h
structure Mg (l R : List Spn) (i n : Nat) : Prop where
 hi : i ≤ l.length
 hn : n ≤ i
 hl : R.length = l.length
 ht : R.take n = merge (l.take i)
 hd : R.drop i = l.drop i
 h0 : 0 < i → 0 < n
theorem merge_take {l : List Spn} {i : Nat} {x : Spn} (h : l[i]? = some x) : merge (l.take (i + 1)) = mstep (merge (l.take i)) x := by
 rw [List.take_add_one, h]
 unfold merge
 rw [List.foldl_append]; rfl
theorem Mg.start (l : List Spn) : Mg l l 0 0 := ⟨Nat.zero_le _, Nat.le_refl _, rfl, rfl, rfl, fun h => absurd h (Nat.lt_irrefl _)⟩
theorem Mg.at {l R : List Spn} {i n : Nat} (h : Mg l R i n) (hlt : i < l.length) : ∃ x, l[i]? = some x ∧ R[i]? = some x := by
 refine ⟨l[i], List.getElem?_eq_getElem hlt, ?_⟩
 have h1 : (R.drop i)[0]? = (l.drop i)[0]? := by rw [h.hd]
 rw [List.getElem?_drop, List.getElem?_drop, Nat.add_zero] at h1
 rw [h1, List.getElem?_eq_getElem hlt]
theorem Mg.last {l R : List Spn} {i n : Nat} (h : Mg l R i n) (hpos : 0 < i) (hlt : i < l.length) : ∃ y, R[n - 1]? = some y ∧ (merge (l.take i)).getLast? = some y := by
 have hn := h.h0 hpos
 have hnl : n - 1 < R.length := by rw [h.hl]; have := h.hn; omega
 refine ⟨R[n - 1], List.getElem?_eq_getElem hnl, ?_⟩
 rw [← h.ht, List.getLast?_eq_getElem?, List.length_take, Nat.min_eq_left (by have := h.hn; rw [h.hl]; omega), List.getElem?_take_of_lt (by omega), List.getElem?_eq_getElem hnl]
theorem Mg.push {l R : List Spn} {i n : Nat} {x : Spn} (h : Mg l R i n) (hx : l[i]? = some x) (hm : mstep (merge (l.take i)) x = merge (l.take i) ++ [x]) : Mg l (R.set n x) (i + 1) (n + 1) := by
 have hlt := (List.getElem?_eq_some_iff.1 hx).1
 have hn := h.hn
 refine ⟨hlt, by omega, by rw [List.length_set]; exact h.hl, ?_, ?_, fun _ => Nat.succ_pos _⟩
 ·rw [merge_take hx, hm, ← h.ht]
  apply List.ext_getElem?
  intro j
  have hRn : n < R.length := by rw [h.hl]; omega
  rcases Nat.lt_trichotomy j n with hj | hj | hj
  ·rw [List.getElem?_take_of_lt (by omega), List.getElem?_set_ne (by omega), List.getElem?_append_left (by rw [List.length_take]; omega), List.getElem?_take_of_lt hj]
  ·subst hj
   rw [List.getElem?_take_of_lt (by omega), List.getElem?_append_right (by rw [List.length_take]; omega), List.length_take, Nat.min_eq_left (by omega), Nat.sub_self]
   simp [hRn]
  ·rw [List.getElem?_eq_none (by rw [List.length_take]; omega), List.getElem?_eq_none (by rw [List.length_append, List.length_take]; simp; omega)]
 ·apply List.ext_getElem?
  intro j
  rw [List.getElem?_drop, List.getElem?_drop, List.getElem?_set_ne (by omega)]
  have h1 : (R.drop i)[1 + j]? = (l.drop i)[1 + j]? := by rw [h.hd]
  rw [List.getElem?_drop, List.getElem?_drop] at h1
  rw [show i + 1 + j = i + (1 + j) by omega]; exact h1
theorem Mg.join {l R : List Spn} {i n : Nat} {x y : Spn} (h : Mg l R i n) (hx : l[i]? = some x) (hpos : 0 < i) (hy : R[n - 1]? = some y) (hle : x.lo ≤ y.hi) : Mg l (R.set (n - 1) ⟨y.lo, max y.hi x.hi⟩) (i + 1) n := by
 have hlt := (List.getElem?_eq_some_iff.1 hx).1
 have hn := h.hn
 have hn0 := h.h0 hpos
 obtain ⟨y', hy', hlast⟩ := h.last hpos hlt
 rw [hy] at hy'; cases hy'
 have hRn : n ≤ R.length := by rw [h.hl]; omega
 refine ⟨hlt, by omega, by rw [List.length_set]; exact h.hl, ?_, ?_, fun _ => hn0⟩
 ·rw [merge_take hx]
  unfold mstep
  rw [hlast]
  dsimp only
  rw [if_pos hle, ← h.ht]
  apply List.ext_getElem?
  intro j
  have hdl : ((R.take n).dropLast).length = n - 1 := by rw [List.length_dropLast, List.length_take]; omega
  rcases Nat.lt_trichotomy j (n - 1) with hj | hj | hj
  ·rw [List.getElem?_take_of_lt (by omega), List.getElem?_set_ne (by omega), List.getElem?_append_left (by omega), List.getElem?_dropLast, if_pos (by rw [List.length_take]; omega), List.getElem?_take_of_lt (by omega)]
  ·subst hj
   rw [List.getElem?_take_of_lt (by omega), List.getElem?_append_right (by omega), hdl, Nat.sub_self, List.getElem?_set]
   simp; omega
  ·rw [List.getElem?_eq_none (by rw [List.length_take, List.length_set]; omega), List.getElem?_eq_none (by rw [List.length_append, hdl]; simp; omega)]
 ·apply List.ext_getElem?
  intro j
  rw [List.getElem?_drop, List.getElem?_drop, List.getElem?_set_ne (by omega)]
  have h1 : (R.drop i)[1 + j]? = (l.drop i)[1 + j]? := by rw [h.hd]
  rw [List.getElem?_drop, List.getElem?_drop] at h1
  rw [show i + 1 + j = i + (1 + j) by omega]; exact h1
theorem mstep_new {o : List Spn} {x : Spn} (h : ∀ y, o.getLast? = some y → ¬ x.lo ≤ y.hi) : mstep o x = o ++ [x] := by
 unfold mstep
 cases hl : o.getLast? with
 | none => rw [List.getLast?_eq_none_iff.1 hl]; rfl
 | some y => dsimp only; rw [if_neg (h y hl)]
theorem canon_ok (s : List Spn) (hl : s.length ≤ 1048576) : FnOk Tryz.prog 86 [encSet s] (encSet (canon s)) := by
 refine fn_t tt_ok (fn := Tryz.f86) Tryz.func86 rfl Tryz.call86 ?_
 simp only [ltb,startSt,Tryz.ntmps86,List.length_cons,List.length_nil,reduceAdd,reduceSub,List.replicate_succ,List.replicate_zero]
 simp only [encSet]
 refine t_region_w tt_ok 79 [0,0,2] [] rfl rfl fun K hK => ?_
 simp only [ltb,go_sem]
 refine hK _ _ rfl ?_
 simp only [mwb,reduceAdd]
 refine t_region_w tt_ok 79 [0,0,0,2] [] rfl rfl fun K hK => ?_
 simp only [ltb,go_sem]
 refine hK _ _ rfl ?_
 simp only [mwb,reduceAdd]
 refine t_seq ?_
 refine t_region_w tt_ok 79 (rp 9 0 [2,2,2]) [] rfl rfl fun K hK => ?_
 try simp only [ltb]
 simp only [List.length_map,go_sem,reduceLT]
 refine hK _ _ rfl ?_
 simp only [mwb,reduceAdd,reduceEqDiff]
 refine t_block ?_
 refine tri_nilMs 3 0 2 rfl ?_
 simp only [List.set_cons_zero,List.set_cons_succ,List.length_nil,List.nil_append]
 refine t_loopF (fun a : Nat × List Spn => { fr := [.undef, .undef, .undef, .ms 0 a.2.length 0 a.2.length, .undef, .undef, .undef, .undef, .undef, .slice (s.map encSpn), num s.length, num a.1, .undef, .undef, .undef, .undef, .undef, .undef, .undef, .undef, .undef, .undef, .undef, .undef, .undef, .undef, .undef, .undef, .undef, .undef, .undef, .undef, .undef, .undef, .undef, .undef, .undef, .undef, .undef, .undef, .undef, .undef, .undef, .undef, .undef, .undef, .undef, .undef, .undef, .undef, .undef, .undef, .undef, .undef, .undef, .undef, .undef, .undef, .undef, .undef, .undef, .undef, .undef, .undef, .undef, .undef, .undef, .undef, .undef, .undef, .undef, .undef, .undef, .undef, .undef, .undef, .undef, .undef, .undef], mem := [.rows a.2.length 2 (a.2.map encSpn)] }) (fun a => s.length - a.1) (fun a => a.1 ≤ s.length ∧ a.2 = clip (s.take a.1)) ((0, [])) 1 [false,false,false,true,false,false,false,false,false,true,true,true] (by omega) (by simp only [maskFr,belowV,reduceLT,mkb]) (by simp only [List.all_cons,List.all_nil,belowB,Bool.and_self,List.take_succ_cons,List.take_nil]) (by simp only [maskFr,List.map_nil,List.length_nil,mkb] <;> rfl) (⟨Nat.zero_le _, rfl⟩) ?_
 rintro ⟨i, l⟩ ⟨hi, hcl⟩
 dsimp only at hi hcl
 dsimp only
 refine t_region_w tt_ok 79 (rp 12 0 [2]) [] rfl rfl fun K hK => ?_
 simp only [ltb,go_sem,reduceLT]
 refine hK _ _ rfl ?_
 simp only [mwb,reduceAdd]
 refine t_seq ?_
 refine t_if rfl (fun hc12 => ?_) (fun hc12 => ?_)
 ·have hlt : i < s.length := by simpa using hc12
  have hw := i64_succ i (by omega)
  obtain ⟨x, hx⟩ : ∃ x, s[i]? = some x := ⟨_, List.getElem?_eq_getElem hlt⟩
  have hmx : (if x.lo < 0 then 0 else x.lo) = max x.lo 0 := by split <;> omega
  have hmn : (if (1000000 : Int) < x.hi then 1000000 else x.hi) = min x.hi 1000000 := by split <;> omega
  have hlc : l.length ≤ 1048576 := by rw [hcl]; have := clip_length (s.take i); rw [List.length_take] at this; omega
  have hbd : l.length + 1 ≤ 34359738368 := by omega
  refine t_skip ?_
  show Tri _ _ _ _ _ _
  refine t_seq ?_
  refine t_block ?_
  refine t_region_w tt_ok 79 [0,0,0,0,0,2,0,0,0,0,0,0,0,1,1] [] rfl rfl fun K hK => ?_
  try simp only [ltb]
  simp only [List.getElem?_map,hx,encSpn,List.length_cons,List.length_nil,Nat.zero_add,go_sem,reduceAdd,reduceLT,reduceEqDiff]
  refine hK _ _ rfl ?_
  simp only [mwb,reduceAdd,reduceEqDiff]
  refine t_region_w tt_ok 79 (rp 15 0 [1,1,1,1,1,1,1]) [] rfl rfl fun K hK => ?_
  try simp only [ltb]
  simp only [hmx,hmn,List.length_cons,List.length_nil,Nat.zero_add,go_sem,reduceAdd,reduceLT,reduceLeDiff,reduceEqDiff,reduceCtorEq]
  refine hK _ _ rfl ?_
  simp only [mwb]
  refine t_region_w tt_ok 79 (rp 22 0 [1,1,1,1,2]) [] rfl rfl fun K hK => ?_
  try simp only [ltb]
  simp only [List.length_cons,List.length_nil,Nat.zero_add,go_sem,reduceAdd,reduceLT,reduceEqDiff]
  refine hK _ _ rfl ?_
  simp only [mwb,reduceAdd,reduceEqDiff]
  refine t_if rfl (fun hc26 => ?_) (fun hc26 => ?_)
  ·let nv : Nat × List Spn := (i + 1, l ++ [⟨max x.lo 0, min x.hi 1000000⟩])
   have hcl2 : l ++ [⟨max x.lo 0, min x.hi 1000000⟩] = clip (s.take (i + 1)) := by rw [clip_take hx, clip_lt (by simpa using hc26), hcl]; rfl
   refine t_last_region_w tt_ok 79 (0::0::0::2::(rp 23 0 [2,2,2,2])) [] (by kernel_rfl) rfl rfl fun K hK => ?_
   try simp only [ltb]
   simp only [hbd,List.length_append,List.length_cons,List.length_nil,Nat.zero_add,List.length_map,go_sem,reduceAdd,reduceLT,reduceLeDiff,reduceMul,reduceEqDiff]
   refine hK _ _ rfl ?_
   simp only [mwb,reduceAdd,reduceEqDiff]
   show Tri _ _ _ _ _ _
   refine t_last_region_w tt_ok 79 (rp 11 0 (2::(rp 19 0 [2]))) [] (by kernel_rfl) rfl rfl fun K hK => ?_
   try simp only [ltb]
   simp only [hw,List.length_cons,List.length_nil,Nat.zero_add,go_sem,reduceAdd,reduceLT]
   refine hK _ _ rfl ?_
   simp only [mwb,reduceAdd,reduceEqDiff]
   refine ⟨nv, ?_, ?_, 1, [false,false,false,true,false,false,false,false,false,true,true,true], by omega, by simp only [maskFr,belowV,reduceLT,mkb], by simp only [ltb,List.all_cons,List.all_nil,belowB,Bool.and_self], by (simp [rp,nv, maskFr, List.map_append, encSpn])⟩
   ·exact ⟨hlt, by dsimp only [nv]; exact hcl2⟩
   ·dsimp only [nv]; omega
  ·let nv : Nat × List Spn := (i + 1, l)
   have hcl2 : l = clip (s.take (i + 1)) := by rw [clip_take hx, clip_ge (by simpa using hc26), hcl]; simp
   refine t_skip ?_
   show Tri _ _ _ _ _ _
   refine t_last_region_w tt_ok 79 (rp 11 0 (2::(rp 19 0 [2]))) [] (by kernel_rfl) rfl rfl fun K hK => ?_
   try simp only [ltb]
   simp only [hw,List.length_cons,List.length_nil,Nat.zero_add,go_sem,reduceAdd,reduceLT]
   refine hK _ _ rfl ?_
   simp only [mwb,reduceAdd,reduceEqDiff]
   refine ⟨nv, ?_, ?_, 1, [false,false,false,true,false,false,false,false,false,true,true,true], by omega, by simp only [maskFr,belowV,reduceLT,mkb], by simp only [ltb,List.all_cons,List.all_nil,belowB,Bool.and_self], by (simp [rp,nv, maskFr])⟩
   ·exact ⟨hlt, by dsimp only [nv]; exact hcl2⟩
   ·dsimp only [nv]; omega
 ·have hge : ¬ i < s.length := by simpa using hc12
  have hcl3 : l = clip s := by rw [hcl, show i = s.length by omega, List.take_length]
  have hl2 : l.length ≤ 1048576 := by rw [hcl3]; have := clip_length s; omega
  have hC : ∀ x ∈ l, 0 ≤ x.lo ∧ x.lo ≤ 1000000 := fun x hx => by have := clip_ok x (hcl3 ▸ hx); omega
  refine t_exit ?_
  show Tri _ _ _ _ _ _
  refine t_region_w tt_ok 79 (rp 32 0 [1,1]) [] rfl rfl fun K hK => ?_
  try simp only [ltb]
  simp only [List.length_map,go_sem,reduceLT]
  refine .inr <| callRel_of (sortAll_ok _ 0 _ _ rfl hl2 hC) ?_
  rintro _ _ ⟨rfl, l2, hp, ha, rfl⟩
  try simp only [go_sem]
  refine hK _ _ rfl ?_
  simp only [mwb]
  refine t_region_w tt_ok 79 [0,0,0,0,0,0,2] [] rfl rfl fun K hK => ?_
  simp only [ltb,go_sem]
  refine hK _ _ rfl ?_
  simp only [mwb,reduceAdd]
  refine t_seq ?_
  refine t_region_w tt_ok 79 (rp 34 0 [2,2,2]) [] rfl rfl fun K hK => ?_
  simp only [ltb,go_sem,reduceLT]
  refine hK _ _ rfl ?_
  simp only [mwb,reduceAdd,reduceEqDiff]
  refine t_block ?_
  obtain ⟨L, hL⟩ : ∃ L, L = l2 := ⟨_, rfl⟩
  rw [← hL] at hp ha
  have hLl : L.length = l.length := hp.length_eq
  rw [← hLl, ← hL]
  refine t_loopF (fun a : Nat × Nat × List Spn => { fr := [.undef, .undef, .undef, .ms 0 L.length 0 L.length, .undef, .undef, num a.2.1, .undef, .undef, .undef, .undef, .undef, .undef, .undef, .undef, .undef, .undef, .undef, .undef, .undef, .undef, .undef, .undef, .undef, .undef, .undef, .undef, .undef, .undef, .undef, .undef, .undef, .undef, .undef, .ms 0 L.length 0 L.length, num L.length, num a.1, .undef, .undef, .undef, .undef, .undef, .undef, .undef, .undef, .undef, .undef, .undef, .undef, .undef, .undef, .undef, .undef, .undef, .undef, .undef, .undef, .undef, .undef, .undef, .undef, .undef, .undef, .undef, .undef, .undef, .undef, .undef, .undef, .undef, .undef, .undef, .undef, .undef, .undef, .undef, .undef, .undef, .undef], mem := [.rows L.length 2 (a.2.2.map encSpn)] }) (fun a => L.length - a.1) (fun a => Mg L a.2.2 a.1 a.2.1) ((0, 0, L)) 1 (false::false::false::true::false::false::true::(rp 27 false [true,true,true])) (by omega) (by simp only [maskFr,belowV,reduceLT,mkb]) (by simp only [List.all_cons,List.all_nil,belowB,Bool.and_self,List.take_succ_cons,List.take_nil]) (by simp only [maskFr,mkb] <;> rfl) (Mg.start L) ?_
  rintro ⟨i, n, R⟩ hM
  dsimp only at hM
  dsimp only
  have hMi := hM.hi
  have hMn := hM.hn
  have hMl := hM.hl
  refine t_region_w tt_ok 79 (rp 37 0 [2]) [] rfl rfl fun K hK => ?_
  simp only [ltb,go_sem,reduceLT]
  refine hK _ _ rfl ?_
  simp only [mwb,reduceAdd]
  refine t_seq ?_
  refine t_if rfl (fun hc37 => ?_) (fun hc37 => ?_)
  ·have hlt : i < L.length := by simpa using hc37
   rw [hc37]
   have hltI : (i : Int) < (L.length : Int) := by omega
   have hw := i64_succ i (by omega)
   have hw2 := i64_succ n (by omega)
   obtain ⟨x, hx, hRx⟩ := hM.at hlt
   have hnltI : (n : Int) < (L.length : Int) := by omega
   refine t_skip ?_
   show Tri _ _ _ _ _ _
   refine t_seq ?_
   refine t_block ?_
   refine t_region_w tt_ok 79 (0::0::0::0::0::0::0::2::2::(rp 29 0 [1,1,1])) [] rfl rfl fun K hK => ?_
   try simp only [ltb]
   simp only [List.getElem?_map,hRx,encSpn,hltI,Int.natCast_nonneg,go_sem,reduceAdd,reduceLT,reduceEqDiff]
   refine hK _ _ rfl ?_
   simp only [mwb,reduceAdd,reduceEqDiff]
   refine t_seq ?_
   refine t_mixed_w tt_ok mixed_ok 79 [0,0,0,0,0,0,0,0,0,0,0,0,0,0,0,0,0,0,0,0,0,0,0,0,0,0,0,0,0,0,0,0,0,0,0,0,0,0,0,0,0,1,1,1,1,1,1,1,1,1,1,1,1,2] (by kernel_rfl) [⟨.n, 0, [], [], []⟩, ⟨.n, 0, [], [], []⟩, ⟨.n, 0, [], [], []⟩, ⟨.n, 0, [], [], []⟩, ⟨.r, 0, [], [], []⟩, ⟨.n, 0, [], [], []⟩, ⟨.n, 0, [], [], []⟩, ⟨.n, 0, [], [], []⟩, ⟨.r, 0, [], [], []⟩, ⟨.n, 0, [], [], []⟩, ⟨.r, 0, [], [], []⟩, ⟨.n, 0, [], [], []⟩, ⟨.n, 0, [], [], []⟩] 0 (by kernel_rfl) fun K hK => ?_
   try simp only [ltb,List.replicate_zero]
   refine runM_cut 3 (by simp) (by simp) fun K1 hK1 => ?_
   simp only [ltb,go_sem,reduceAdd,reduceLT,reduceEqDiff]
   refine hK1 _ ?_
   refine runM_case 43 (by rfl) fun b hb14_2 => ?_
   cases b
   ·have hi0 : i = 0 := by have := of_decide_eq_false hb14_2; omega
    have hms : mstep (merge (L.take i)) x = merge (L.take i) ++ [x] := mstep_new fun y hy => by simp [hi0, merge] at hy
    refine runM_cut 6 (by simp) (by simp) fun K1 hK1 => ?_
    simp only [ltb,go_sem,reduceAdd,reduceLT,reduceEqDiff]
    refine hK1 _ ?_
    simp only [ltb,go_sem,reduceAdd,reduceLT,reduceEqDiff]
    refine hK _ _ rfl ?_
    simp only [mwb,reduceAdd,reduceEqDiff]
    refine t_cond rfl ?_
    refine t_skip ?_
    show Tri _ _ _ _ _ _
    let nv : Nat × Nat × List Spn := (i + 1, n + 1, R.set n x)
    have hM2 := hM.push hx hms
    obtain ⟨z, hz⟩ : ∃ z, R[n]? = some z := ⟨_, List.getElem?_eq_getElem (by omega)⟩
    refine t_region_w tt_ok 79 (rp 68 0 [1,1,1,1]) [] rfl rfl fun K hK => ?_
    try simp only [ltb]
    simp only [List.getElem?_map,encSpn,Int.natCast_nonneg,hnltI,hz,go_sem,reduceAdd,reduceLT,reduceEqDiff,reduceCtorEq]
    refine hK _ _ rfl ?_
    simp only [mwb]
    refine t_last_region_w tt_ok 79 (0::0::0::0::0::0::2::(rp 65 0 [2,2])) [] (by kernel_rfl) rfl rfl fun K hK => ?_
    try simp only [ltb]
    simp only [hw2,go_sem,reduceAdd,reduceLT,reduceEqDiff]
    refine hK _ _ rfl ?_
    simp only [mwb,reduceAdd,reduceEqDiff]
    show Tri _ _ _ _ _ _
    refine t_last_region_w tt_ok 79 (rp 36 0 (2::(rp 37 0 [2]))) [] (by kernel_rfl) rfl rfl fun K hK => ?_
    try simp only [ltb]
    simp only [hw,go_sem,reduceAdd,reduceLT]
    refine hK _ _ rfl ?_
    simp only [mwb,reduceAdd,reduceEqDiff]
    refine ⟨nv, ?_, ?_, 1, (false::false::false::true::false::false::true::(rp 27 false [true,true,true])), by omega, by simp only [maskFr,belowV,reduceLT,mkb], by simp only [ltb,List.all_cons,List.all_nil,belowB,Bool.and_self], by (simp [rp,nv, maskFr, List.map_set, encSpn, setRow, spliceL])⟩
    ·dsimp only [nv]; exact hM2
    ·dsimp only [nv]; omega
   ·have hpos : 0 < i := by have := of_decide_eq_true hb14_2; omega
    have hn0 := hM.h0 hpos
    obtain ⟨y, hy, hlast⟩ := hM.last hpos hlt
    have hwn : IntKind.i64.wrap ((n : Int) - 1) = ((n - 1 : Nat) : Int) := i64_c _ _ (by omega) (by omega)
    have hnl : ((n - 1 : Nat) : Int) < (L.length : Int) := by omega
    refine runM_cut 6 (by simp) (by simp) fun K1 hK1 => ?_
    try simp only [ltb]
    simp only [Int.natCast_nonneg,hwn,hnl,go_sem,reduceAdd,reduceLT,reduceEqDiff]
    refine hK1 _ ?_
    try simp only [ltb]
    simp only [List.getElem?_map,encSpn,hy,go_sem,reduceAdd,reduceLT,reduceEqDiff]
    refine hK _ _ rfl ?_
    simp only [mwb,reduceAdd,reduceEqDiff]
    refine t_if rfl (fun hc53 => ?_) (fun hc53 => ?_)
    ·have hle : x.lo ≤ y.hi := by simpa using hc53
     have hmx : (if y.hi < x.hi then x.hi else y.hi) = max y.hi x.hi := by split <;> omega
     let nv : Nat × Nat × List Spn := (i + 1, n, R.set (n - 1) ⟨y.lo, max y.hi x.hi⟩)
     have hM2 := hM.join hx hpos hy hle
     refine t_mixed_w tt_ok mixed_ok 79 [0,0,0,0,0,0,0,0,0,0,0,0,0,0,0,0,0,0,0,0,0,0,0,0,0,0,0,0,0,0,0,0,0,0,0,0,0,0,0,0,0,0,0,0,0,0,0,0,0,0,0,0,0,0,1,1,1,1,1,1,1,1,1,1,1,1,1,1] (by kernel_rfl) [⟨.n, 0, [], [], []⟩, ⟨.n, 0, [], [], []⟩, ⟨.n, 0, [], [1], []⟩, ⟨.n, 0, [], [], []⟩, ⟨.n, 0, [], [], []⟩, ⟨.n, 0, [], [4], []⟩, ⟨.r, 0, [], [3,4,5], []⟩, ⟨.n, 0, [], [3,4,5,6], []⟩, ⟨.r, 0, [], [3,4,5,6,7], []⟩, ⟨.n, 0, [], [], []⟩, ⟨.r, 0, [], [9], []⟩, ⟨.n, 0, [], [3,4,5,6,7,8,9,10], []⟩, ⟨.r, 0, [], [0,1,2,3,4,5,6,7,8,9,10,11], []⟩, ⟨.n, 0, [], [0,1,2,3,4,5,6,7,8,9,10,11,12], []⟩, ⟨.w, 0, [], [0,1,2,3,4,5,6,7,8,9,10,11,12,13], []⟩] 1 (by kernel_rfl) fun K hK => ?_
     try simp only [ltb,List.replicate_zero,List.replicate_succ]
     refine runM_cut 6 (by simp) (by simp) fun K1 hK1 => ?_
     try simp only [ltb]
     simp only [hwn,go_sem,reduceAdd,reduceLT,reduceEqDiff]
     refine hK1 _ ?_
     refine runM_cut 6 (by simp) (by simp) fun K1 hK1 => ?_
     try simp only [ltb]
     simp only [List.getElem?_map,encSpn,Int.natCast_nonneg,hy,hnl,hmx,go_sem,reduceAdd,reduceLT,reduceEqDiff]
     refine hK1 _ ?_
     try simp only [ltb]
     simp only [List.getElem?_map,encSpn,Int.natCast_nonneg,hy,hnl,go_sem,reduceAdd,reduceLT,reduceEqDiff,reduceCtorEq]
     refine hK _ _ rfl ?_
     simp only [mwb]
     refine t_exit ?_
     show Tri _ _ _ _ _ _
     refine t_last_region_w tt_ok 79 (rp 36 0 (2::(rp 37 0 [2]))) [] (by kernel_rfl) rfl rfl fun K hK => ?_
     try simp only [ltb]
     simp only [hw,go_sem,reduceAdd,reduceLT]
     refine hK _ _ rfl ?_
     simp only [mwb,reduceAdd,reduceEqDiff]
     refine ⟨nv, ?_, ?_, 1, (false::false::false::true::false::false::true::(rp 27 false [true,true,true])), by omega, by simp only [maskFr,belowV,reduceLT,mkb], by simp only [ltb,List.all_cons,List.all_nil,belowB,Bool.and_self], by (simp [rp,nv, maskFr, List.map_set, encSpn, setRow, spliceL])⟩
     ·dsimp only [nv]; exact hM2
     ·dsimp only [nv]; omega
    ·have hms : mstep (merge (L.take i)) x = merge (L.take i) ++ [x] := mstep_new fun z hz => by
      rw [hlast] at hz; cases hz; simpa using hc53
     refine t_skip ?_
     show Tri _ _ _ _ _ _
     let nv : Nat × Nat × List Spn := (i + 1, n + 1, R.set n x)
     have hM2 := hM.push hx hms
     obtain ⟨z, hz⟩ : ∃ z, R[n]? = some z := ⟨_, List.getElem?_eq_getElem (by omega)⟩
     refine t_region_w tt_ok 79 (rp 68 0 [1,1,1,1]) [] rfl rfl fun K hK => ?_
     try simp only [ltb]
     simp only [List.getElem?_map,encSpn,Int.natCast_nonneg,hnltI,hz,go_sem,reduceAdd,reduceLT,reduceEqDiff,reduceCtorEq]
     refine hK _ _ rfl ?_
     simp only [mwb]
     refine t_last_region_w tt_ok 79 (0::0::0::0::0::0::2::(rp 65 0 [2,2])) [] (by kernel_rfl) rfl rfl fun K hK => ?_
     try simp only [ltb]
     simp only [hw2,go_sem,reduceAdd,reduceLT,reduceEqDiff]
     refine hK _ _ rfl ?_
     simp only [mwb,reduceAdd,reduceEqDiff]
     show Tri _ _ _ _ _ _
     refine t_last_region_w tt_ok 79 (rp 36 0 (2::(rp 37 0 [2]))) [] (by kernel_rfl) rfl rfl fun K hK => ?_
     try simp only [ltb]
     simp only [hw,go_sem,reduceAdd,reduceLT]
     refine hK _ _ rfl ?_
     simp only [mwb,reduceAdd,reduceEqDiff]
     refine ⟨nv, ?_, ?_, 1, (false::false::false::true::false::false::true::(rp 27 false [true,true,true])), by omega, by simp only [maskFr,belowV,reduceLT,mkb], by simp only [ltb,List.all_cons,List.all_nil,belowB,Bool.and_self], by (simp [rp,nv, maskFr, List.map_set, encSpn, setRow, spliceL])⟩
     ·dsimp only [nv]; exact hM2
     ·dsimp only [nv]; omega
  ·have hge : ¬ i < L.length := by simpa using hc37
   have hiL : i = L.length := by omega
   refine t_exit ?_
   show Tri _ _ _ _ _ _
   refine tri_frz (v' := .slice (R.map encSpn)) 3 rfl (by rw [← hMl]; simp [pur1, purCell, List.take_of_length_le]) ?_
   simp only [List.set_cons_zero,List.set_cons_succ]
   have hnR : (n : Int) ≤ (R.length : Int) := by omega
   refine t_region_w tt_ok 79 (0::0::2::(rp 72 0 [1,1,1,1])) [] rfl rfl fun K hK => ?_
   try simp only [ltb]
   simp only [hnR,Int.le_refl,Int.natCast_nonneg,List.length_map,go_sem,reduceLT,reduceEqDiff]
   refine hK _ _ rfl ?_
   simp only [mwb,reduceAdd,reduceEqDiff]
   refine t_ret ?_
   refine ⟨.inl rfl, ?_⟩
   have hfin : (R.take n).map encSpn = (canon s).map encSpn := by rw [hM.ht, hiL, List.take_length, canon_of (hp.trans (List.Perm.of_eq hcl3)) ha]
   simp [retV, resL, resV, pur, pur1, purCell, ← List.map_take, hfin]
end Go.Proofs.YtnfeacnbgbggfaaGreatDoor
end

section
namespace Go.Proofs.YtnfeacnbgbggfaaGreatDoor
open Go.Eng
open Nat (reduceAdd reduceLT reduceLeDiff reduceMul reduceEqDiff reduceSub)
variable [Glob]
set_option maxHeartbeats 4000000
set_option maxRecDepth 100000
attribute [local irreducible] runM stepM valD stepOp stepD callF callS
theorem ev_sleq (T : TypeId) (x y : Operand) (a b : ByteArray) : lift2 Tryz.prog (opB .leq T x y) (str a) (str b) = some (bl (Op.bytesLess a.toList b.toList || a.toList == b.toList)) := by
 simp [lift2, toVal, opB, binOp, Op.stringOp, eqGuard, scRunP, absV, bind, pure, Sem.bind]
theorem ev_sgeq (T : TypeId) (x y : Operand) (a b : ByteArray) : lift2 Tryz.prog (opB .geq T x y) (str a) (str b) = some (bl (!Op.bytesLess a.toList b.toList)) := by
 simp [lift2, toVal, opB, binOp, Op.stringOp, eqGuard, scRunP, absV, bind, pure, Sem.bind]
theorem ptr_nn (x y : Operand) : lift2 Tryz.prog (opB .neq 168 x y) (.sc (.pointer none)) (.sc (.pointer none)) = some (bl false) := by kernel_rfl
theorem Ver.drop3 (v : Ver) (i : Nat) (h : i < 3) : List.drop i [num v.mj, num v.mn, num v.pt] = num (v.part i) :: List.drop (i + 1) [num v.mj, num v.mn, num v.pt] := by
 obtain ⟨a, b, c⟩ := v
 match i, h with
 | 0, _ => rfl
 | 1, _ => rfl
 | 2, _ => rfl
def leB (a b : ByteArray) : Bool := ltB a b || decide (a = b)
def rqE (q : Rq) (b : Option Rq) : Int := if majE q.path ≠ 0 then 4 else if (decide (q.set.length = 0) || !decide (q.set = canon q.set) || (match b with | some p => leB q.path p.path | none => false)) = true then 1 else 0
def rqsFrom (b : Option Rq) : List Rq → Int
 | [] => 0
 | q :: r => if rqE q b ≠ 0 then rqE q b else rqsFrom (some q) r
def rqsE (l : List Rq) : Int := if 16 < l.length then 7 else rqsFrom none l
def dig (s : ByteArray) : Bool := decide (s.size = 0) || decide (s.size = 32)
def rlE (r : Rl) : Int := if majE r.path ≠ 0 then 4 else if (!r.ver.ok || !decide (r.ver.mj = majN r.path)) = true then 2 else if rqsE r.reqs ≠ 0 then rqsE r.reqs else if (dig r.ar && (dig r.itf && dig r.ce)) = true then 0 else 1
def ixFrom (b : Option Rl) : List Rl → Int
 | [] => 0
 | r :: t => if rlE r ≠ 0 then rlE r else match b with
  | none => ixFrom (some r) t
  | some p => if p.key = r.key then 5 else if 0 < p.cmp r then 1 else ixFrom (some r) t
theorem ixFrom_cons (b : Option Rl) (r : Rl) (t : List Rl) : ixFrom b (r :: t) = if rlE r ≠ 0 then rlE r else match b with
  | none => ixFrom (some r) t
  | some p => if p.key = r.key then 5 else if 0 < p.cmp r then 1 else ixFrom (some r) t := by cases b <;> rfl
def ixE (l : List Rl) : Int := if 256 < l.length then 7 else ixFrom none l
def RqB (q : Rq) : Prop := q.path.size ≤ 1048576 ∧ q.set.length ≤ 1048576
def RlB (r : Rl) : Prop := r.path.size ≤ 1048576 ∧ r.reqs.length ≤ 1048576 ∧ ∀ q ∈ r.reqs, RqB q
def IxB (l : List Rl) : Prop := l.length ≤ 1048576 ∧ ∀ r ∈ l, RlB r
def prevO {α : Type} (l : List α) (i : Nat) : Option α := if i = 0 then none else l[i - 1]?
theorem rqs_step {l : List Rq} {i : Nat} {q : Rq} (h : l[i]? = some q) (h0 : rqE q (prevO l i) = 0) : rqsFrom (prevO l i) (l.drop i) = rqsFrom (prevO l (i + 1)) (l.drop (i + 1)) := by
 have hlt := (List.getElem?_eq_some_iff.1 h).1
 rw [List.drop_eq_getElem_cons hlt, (List.getElem?_eq_some_iff.1 h).2, rqsFrom, if_neg (by rw [h0]; simp)]
 unfold prevO
 rw [if_neg (Nat.succ_ne_zero i), Nat.add_sub_cancel, h]
theorem rqs_stop {l : List Rq} {i : Nat} {q : Rq} (h : l[i]? = some q) (h0 : rqE q (prevO l i) ≠ 0) : rqsFrom (prevO l i) (l.drop i) = rqE q (prevO l i) := by
 have hlt := (List.getElem?_eq_some_iff.1 h).1
 rw [List.drop_eq_getElem_cons hlt, (List.getElem?_eq_some_iff.1 h).2, rqsFrom, if_pos h0]
def bV (l : List Rq) (i : Nat) : V := match prevO l i with
 | none => .sc (.pointer none)
 | some p => .eptr [str p.path, encSet p.set]
theorem bV_pur (mem : List Blk) (l : List Rq) (i : Nat) : pur1 mem (bV l i) = some (bV l i) := by unfold bV; split <;> rfl
theorem bV_ref (l : List Rq) (i : Nat) : ref1 (bV l i) = [] := by unfold bV; split <;> rfl
theorem bV_succ {l : List Rq} {i : Nat} {q : Rq} (h : l[i]? = some q) : bV l (i + 1) = .eptr [str q.path, encSet q.set] := by
 unfold bV prevO
 rw [if_neg (Nat.succ_ne_zero i), Nat.add_sub_cancel, h]
def dgAt (r : Rl) (i : Nat) : ByteArray := if i = 0 then r.ar else if i = 1 then r.itf else r.ce
theorem dg_get (r : Rl) (i : Nat) (h : i < 3) : [str r.ar, str r.itf, str r.ce][i]? = some (str (dgAt r i)) := by
 match i, h with
 | 0, _ => rfl
 | 1, _ => rfl
 | 2, _ => rfl
theorem dg_all {r : Rl} (h : ∀ i < 3, dig (dgAt r i) = true) : (dig r.ar && (dig r.itf && dig r.ce)) = true := by
 have h0 := h 0 (by omega); have h1 := h 1 (by omega); have h2 := h 2 (by omega)
 simp only [Bool.and_eq_true]
 exact ⟨h0, h1, h2⟩
theorem dg_no {r : Rl} {i : Nat} (hi : i < 3) (h : dig (dgAt r i) = false) : (dig r.ar && (dig r.itf && dig r.ce)) = false := by
 match i, hi with
 | 0, _ => rw [show dig r.ar = false from h]; rfl
 | 1, _ => rw [show dig r.itf = false from h]; simp
 | 2, _ => rw [show dig r.ce = false from h]; simp
theorem ix_step {l : List Rl} {i : Nat} {r : Rl} (h : l[i]? = some r) (h0 : rlE r = 0) (hb : ∀ p, prevO l i = some p → p.key ≠ r.key ∧ ¬ 0 < p.cmp r) : ixFrom (prevO l i) (l.drop i) = ixFrom (prevO l (i + 1)) (l.drop (i + 1)) := by
 have hlt := (List.getElem?_eq_some_iff.1 h).1
 have hp : prevO l (i + 1) = some r := by
  unfold prevO
  rw [if_neg (Nat.succ_ne_zero i), Nat.add_sub_cancel, h]
 rw [List.drop_eq_getElem_cons hlt, (List.getElem?_eq_some_iff.1 h).2, ixFrom_cons, if_neg (by rw [h0]; simp), hp]
 cases hq : prevO l i with
 | none => rfl
 | some p => dsimp only; rw [if_neg (hb p hq).1, if_neg (hb p hq).2]
theorem ix_stop {l : List Rl} {i : Nat} {r : Rl} (h : l[i]? = some r) (h0 : rlE r ≠ 0) : ixFrom (prevO l i) (l.drop i) = rlE r := by
 have hlt := (List.getElem?_eq_some_iff.1 h).1
 rw [List.drop_eq_getElem_cons hlt, (List.getElem?_eq_some_iff.1 h).2, ixFrom_cons, if_pos h0]
theorem ix_two {l : List Rl} {i : Nat} {r p : Rl} (h : l[i]? = some r) (h0 : rlE r = 0) (hp : prevO l i = some p) : ixFrom (prevO l i) (l.drop i) = if p.key = r.key then 5 else if 0 < p.cmp r then 1 else ixFrom (some r) (l.drop (i + 1)) := by
 have hlt := (List.getElem?_eq_some_iff.1 h).1
 rw [List.drop_eq_getElem_cons hlt, (List.getElem?_eq_some_iff.1 h).2, ixFrom_cons, if_neg (by rw [h0]; simp), hp]
theorem prevO_pos {α : Type} {l : List α} {i : Nat} (h : i ≠ 0) : prevO l i = l[i - 1]? := if_neg h
theorem vcmp_ok (a b : Ver) : ∃ r_, (fun w => w = num (a.cmp b)) r_ ∧ FnOk Tryz.prog 112 [encVer a, encVer b] r_ := by
 refine fn_ex tt_ok (fn := Tryz.f112) Tryz.func112 rfl Tryz.call112 ?_
 simp only [ltb,startSt,Tryz.ntmps112,List.length_cons,List.length_nil,reduceAdd,reduceSub,List.replicate_succ,List.replicate_zero]
 simp only [encVer]
 refine ex_region_w tt_ok 27 [0,0,2,2,2] [] rfl rfl fun K hK => ?_
 simp only [ltb,go_sem,reduceLT,reduceEqDiff]
 refine hK _ _ rfl ?_
 simp only [mwb,reduceAdd,reduceEqDiff]
 refine ex_mixed_w tt_ok mixed_ok 27 [0,0,0,0,0,2,2,0,0,1,1,1,1] (by kernel_rfl) [⟨.r, 0, [0,1], [], []⟩, ⟨.n, 0, [], [], []⟩, ⟨.r, 0, [0,1], [], []⟩, ⟨.n, 0, [], [], []⟩, ⟨.a, 0, [], [], []⟩, ⟨.a, 1, [], [], []⟩, ⟨.s, 0, [], [], []⟩, ⟨.s, 1, [], [], []⟩] 2 (by kernel_rfl) fun K hK => ?_
 try simp only [ltb,List.replicate_zero,List.replicate_succ]
 refine runM_cut 2 (by simp) (by simp) fun K1 hK1 => ?_
 simp only [ltb,go_sem,reduceAdd,reduceLT]
 refine callD_ex rfl (by have h := parts_ok a; simp only [encVer] at h; exact h) ?_
 rintro _ rfl
 try simp only [go_sem]
 refine hK1 _ ?_
 refine runM_cut 2 (by simp) (by simp) fun K1 hK1 => ?_
 simp only [ltb,go_sem,reduceAdd,reduceLT,reduceEqDiff]
 refine callD_ex rfl (by have h := parts_ok b; simp only [encVer] at h; exact h) ?_
 rintro _ rfl
 try simp only [go_sem]
 refine hK1 _ ?_
 simp only [ltb,go_sem,reduceAdd,reduceLT,reduceEqDiff]
 refine hK _ _ rfl ?_
 simp only [mwb,reduceAdd,reduceEqDiff]
 refine ex_seq ?_
 refine ex_region_w tt_ok 27 (rp 13 0 [2]) [] rfl rfl fun K hK => ?_
 simp only [ltb,go_sem,reduceAdd]
 refine hK _ _ rfl ?_
 simp only [mwb,reduceAdd]
 refine ex_block ?_
 refine ex_loopK [13] [num 0] 4 [false,false,false,false,true,true,true,false,false,false,false,false,false,true] (fun vs => ((3 : Int) - Go.Eng.intOf (vs.headD .undef)).toNat) (fun vs => ∃ i : Nat, vs = [num i] ∧ i ≤ 3 ∧ ∀ j < i, cmpI (a.part j) (b.part j) = 0) (by omega) (by simp only [maskFr,belowV,reduceLT,mkb]) (by simp only [List.all_cons,List.all_nil,belowV,belowB,Bool.and_self,List.take_succ_cons,List.take_nil]) (by rfl) (⟨0, rfl, Nat.zero_le _, fun j hj => absurd hj (Nat.not_lt_zero j)⟩) fun vs hI => ?_
 obtain ⟨i, rfl, hi, hall⟩ := hI
 simp only [maskFr,putAll,List.set_cons_zero,List.set_cons_succ,mkb]
 refine ex_region_w tt_ok 27 (rp 14 0 [2]) [] rfl rfl fun K hK => ?_
 simp only [ltb,go_sem,reduceAdd,reduceLT]
 refine hK _ _ rfl ?_
 simp only [mwb,reduceAdd]
 refine ex_seq ?_
 refine ex_if rfl (fun hc14 => ?_) (fun hc14 => ?_)
 ·have hlt : i < 3 := by have := of_decide_eq_true hc14; omega
  rw [hc14]
  have hltI : (i : Int) < 3 := by omega
  have hw := i64_succ i (by omega)
  have hda := a.drop3 i hlt
  have hdb := b.drop3 i hlt
  have h33 : ((3 : Nat) : Int) = 3 := rfl
  refine ex_skip ?_
  show Go.Eng.Ex _ _ _ _ _ _
  refine ex_seq ?_
  refine ex_block ?_
  refine ex_region_w tt_ok 27 [0,0,0,0,0,0,0,2,0,0,0,0,0,0,0,1] [] rfl rfl fun K hK => ?_
  try simp only [ltb]
  simp only [Nat.zero_add,go_sem,reduceAdd,reduceLT]
  refine hK _ _ rfl ?_
  simp only [mwb,reduceAdd,reduceEqDiff]
  refine ex_mixed_w tt_ok mixed_ok 27 [0,0,0,0,0,0,0,0,2,0,0,0,0,0,0,0,1,1,1,1,1,1,1] (by kernel_rfl) [⟨.n, 0, [], [], []⟩, ⟨.r, 0, [], [], []⟩, ⟨.r, 0, [], [], []⟩, ⟨.n, 0, [], [], []⟩, ⟨.r, 0, [], [], []⟩, ⟨.r, 0, [], [], []⟩, ⟨.n, 0, [], [], []⟩, ⟨.n, 0, [], [], []⟩] 0 (by kernel_rfl) fun K hK => ?_
  try simp only [ltb,List.replicate_zero]
  refine runM_cut 6 (by simp) (by simp) fun K1 hK1 => ?_
  try simp only [ltb]
  simp only [hltI,hda,hdb,h33,Int.natCast_nonneg,Int.toNat_natCast,Nat.mul_one,Nat.zero_add,List.head?_cons,Tryz.underlying151,go_sem,reduceAdd,reduceLT,reduceEqDiff]
  refine hK1 _ ?_
  refine runM_cut 1 (by simp) (by simp) fun K1 hK1 => ?_
  try simp only [ltb]
  simp only [Nat.zero_add,go_sem,reduceAdd,reduceLT,reduceEqDiff]
  refine callD_ex rfl (cmpI_ok _ _) ?_
  rintro _ rfl
  try simp only [go_sem]
  refine hK1 _ ?_
  try simp only [ltb]
  simp only [Nat.zero_add,go_sem,reduceAdd,reduceLT,reduceEqDiff]
  refine hK _ _ rfl ?_
  simp only [mwb,reduceAdd,reduceEqDiff]
  refine ex_region_w tt_ok 27 (rp 23 0 [1,2]) [] rfl rfl fun K hK => ?_
  try simp only [ltb]
  simp only [Nat.zero_add,go_sem,reduceAdd,reduceLT]
  refine hK _ _ rfl ?_
  simp only [mwb,reduceAdd,reduceEqDiff]
  refine ex_if rfl (fun hc24 => ?_) (fun hc24 => ?_)
  ·have hres : cmpI (a.part i) (b.part i) = a.cmp b := (Ver.cmp_at hlt hall (by simpa using hc24)).symm
   refine ex_region_w tt_ok 27 (0::0::0::0::2::(rp 20 0 [1])) [] rfl rfl fun K hK => ?_
   try simp only [ltb]
   simp only [Nat.zero_add,go_sem,reduceAdd,reduceLT]
   refine hK _ _ rfl ?_
   simp only [mwb,reduceAdd,reduceEqDiff]
   exact ex_ret ⟨.inl rfl, _, congrArg num hres, rfl⟩
  ·refine ex_skip ?_
   show Go.Eng.Ex _ _ _ _ _ _
   refine ex_last_region_w tt_ok 27 (rp 13 0 (2::(rp 12 0 [2]))) [] (by kernel_rfl) rfl rfl fun K hK => ?_
   try simp only [ltb]
   simp only [hw,Nat.zero_add,go_sem,reduceAdd,reduceLT]
   refine hK _ _ rfl ?_
   simp only [mwb,reduceAdd,reduceEqDiff]
   refine ⟨[_], ?_, ?_, 4, [false,false,false,false,true,true,true,false,false,false,false,false,false,true], by omega, by simp only [maskFr,belowV,reduceLT,mkb], by simp only [List.all_cons,List.all_nil,belowV,belowB,Bool.and_self,List.take_succ_cons,List.take_nil], by simp only [maskFr,putAll,List.set_cons_zero,List.set_cons_succ,mkb]; rfl⟩
   ·refine ⟨i + 1, rfl, hlt, fun j hj => ?_⟩
    rcases Nat.lt_or_ge j i with h | h
    ·exact hall j h
    ·obtain rfl : j = i := by omega
     simpa using hc24
   ·simp only [Go.Eng.intOf,List.headD_cons]; omega
 ·have hge : i = 3 := by have := of_decide_eq_false hc14; omega
  subst hge
  have hres : 0 = a.cmp b := (Ver.cmp_eq hall).symm
  refine ex_exit ?_
  show Go.Eng.Ex _ _ _ _ _ _
  refine ex_region_w tt_ok 27 [0,0,0,0,2] [] rfl rfl fun K hK => ?_
  simp only [ltb,go_sem,reduceAdd]
  refine hK _ _ rfl ?_
  simp only [mwb,reduceAdd]
  exact ex_ret ⟨.inl rfl, _, congrArg num hres, rfl⟩
theorem compare_ok (a b : Rl) : ∃ r_, (fun w => w = num (a.cmp b)) r_ ∧ FnOk Tryz.prog 76 [encRl a, encRl b] r_ := by
 refine fn_ex tt_ok (fn := Tryz.f76) Tryz.func76 rfl Tryz.call76 ?_
 simp only [ltb,startSt,Tryz.ntmps76,List.length_cons,List.length_nil,reduceAdd,reduceSub,List.replicate_succ,List.replicate_zero]
 simp only [encRl,rlCells]
 refine ex_region_w tt_ok 17 [0,0,2,2,2] [] rfl rfl fun K hK => ?_
 simp only [ltb,go_sem,reduceLT,reduceEqDiff]
 refine hK _ _ rfl ?_
 simp only [mwb,reduceAdd,reduceEqDiff]
 refine ex_mixed_w tt_ok mixed_ok 17 [0,0,0,0,2,1,1,1,1,1,1,1,1,1,1,1,1] (by kernel_rfl) [⟨.n, 0, [], [], []⟩, ⟨.r, 0, [], [], []⟩, ⟨.n, 0, [], [], []⟩, ⟨.r, 0, [], [], []⟩, ⟨.n, 0, [], [], []⟩, ⟨.n, 0, [], [], []⟩, ⟨.r, 0, [], [], []⟩, ⟨.n, 0, [], [], []⟩, ⟨.r, 0, [], [], []⟩, ⟨.n, 0, [], [], []⟩, ⟨.n, 0, [], [], []⟩, ⟨.n, 0, [], [], []⟩, ⟨.n, 0, [], [], []⟩] 0 (by kernel_rfl) fun K hK => ?_
 try simp only [ltb,List.replicate_zero]
 refine runM_cut 5 (by simp) (by simp) fun K1 hK1 => ?_
 simp only [ltb,go_sem,reduceAdd,reduceLT,reduceEqDiff]
 refine callD_ex rfl (cmpS_ok _ _) ?_
 rintro _ rfl
 try simp only [go_sem]
 refine hK1 _ ?_
 refine runM_cut 5 (by simp) (by simp) fun K1 hK1 => ?_
 simp only [ltb,go_sem,reduceAdd,reduceLT,reduceLeDiff,reduceEqDiff]
 refine callD_ex rfl (by have h := vcmp_ok a.ver b.ver; simp only [encVer] at h; exact h) ?_
 rintro _ rfl
 try simp only [go_sem]
 refine hK1 _ ?_
 refine runM_cut 2 (by simp) (by simp) fun K1 hK1 => ?_
 simp only [ltb,go_sem,reduceAdd,reduceLT,reduceLeDiff,reduceMul,reduceEqDiff]
 refine callD_ex rfl (or_ok [cmpB a.path b.path, a.ver.cmp b.ver] (show 2 ≤ 1048576 by decide)) ?_
 rintro _ rfl
 try simp only [go_sem]
 refine hK1 _ ?_
 simp only [ltb,go_sem,reduceAdd,reduceLT,reduceEqDiff]
 refine hK _ _ rfl ?_
 simp only [mwb,reduceAdd,reduceEqDiff]
 exact ex_ret ⟨.inl rfl, _, congrArg num (by rw [orI_two]; rfl), rfl⟩
theorem rq0_ok (hG : Glob.g = some 0) (q : Rq) (hb : RqB q) : ∃ r_, (fun w => w = num (rqE q none)) r_ ∧ FnOk Tryz.prog 134 [encRq q, .sc (.pointer none)] r_ := by
 refine fn_ex tt_ok (fn := Tryz.f134) Tryz.func134 rfl Tryz.call134 ?_
 simp only [ltb,startSt,Tryz.ntmps134,List.length_cons,List.length_nil,reduceAdd,reduceSub,List.replicate_succ,List.replicate_zero]
 simp only [encRq,encSet]
 obtain ⟨hb1, hb2⟩ := hb
 have hcan := canon_ok q.set hb2
 have hseq := setEq_ok q.set (canon q.set) hb2
 generalize hC : canon q.set = C at hcan hseq
 refine ex_region_w tt_ok 43 [0,0,2,0,2] [] rfl rfl fun K hK => ?_
 simp only [ltb,go_sem,reduceLT]
 refine hK _ _ rfl ?_
 simp only [mwb,reduceAdd,reduceEqDiff]
 refine ex_seq ?_
 refine ex_region_w tt_ok 43 [0,0,0,0,0,1,1,2,1,1,1,1,1,1,1] [] rfl rfl fun K hK => ?_
 refine runX_cut 3 fun K1 hK1 => ?_
 simp only [ltb,go_sem,reduceAdd,reduceLT,reduceLeDiff,reduceEqDiff]
 refine callF_ex (line_ok hG q.path hb1) ?_
 rintro _ ⟨nm, rfl⟩
 try simp only [go_sem]
 refine hK1 _ ?_
 simp only [ltb,go_sem,reduceLT,reduceEqDiff]
 refine hK _ _ rfl ?_
 simp only [mwb,reduceAdd,reduceEqDiff]
 refine ex_region_w tt_ok 43 (rp 15 0 [1,2]) [] rfl rfl fun K hK => ?_
 simp only [ltb,go_sem,reduceLT]
 refine hK _ _ rfl ?_
 simp only [mwb,reduceAdd,reduceEqDiff]
 refine ex_if rfl (fun hc16 => ?_) (fun hc16 => ?_)
 ·refine ex_region_w tt_ok 43 [0,0,0,0,2] [] rfl rfl fun K hK => ?_
  simp only [ltb,go_sem]
  refine hK _ _ rfl ?_
  simp only [mwb,reduceAdd]
  exact ex_ret ⟨.inl rfl, _, congrArg num (by unfold rqE; rw [hC]; simp_all), rfl⟩
 ·refine ex_skip ?_
  show Go.Eng.Ex _ _ _ _ _ _
  refine ex_seq ?_
  refine ex_mixed_w tt_ok mixed_ok 43 [0,0,0,0,0,0,0,0,0,0,0,0,0,0,0,0,0,1,1,1,1,1,1,1,1,1,1,1,1,1,1,1,1,1,1,1,1,1,1,1,1,1,2] (by kernel_rfl) [⟨.n, 0, [], [], []⟩, ⟨.r, 0, [], [], []⟩, ⟨.n, 0, [], [], []⟩, ⟨.n, 0, [], [], []⟩, ⟨.n, 0, [], [], []⟩, ⟨.n, 0, [], [], []⟩, ⟨.r, 0, [], [], []⟩, ⟨.n, 0, [], [], []⟩, ⟨.r, 0, [], [], []⟩, ⟨.n, 0, [], [], []⟩, ⟨.n, 0, [], [], []⟩, ⟨.n, 0, [], [], []⟩, ⟨.n, 0, [], [], []⟩, ⟨.n, 0, [], [], []⟩, ⟨.n, 0, [], [], []⟩, ⟨.n, 0, [], [], []⟩, ⟨.n, 0, [], [], []⟩, ⟨.n, 0, [], [], []⟩, ⟨.r, 0, [], [], []⟩, ⟨.n, 0, [], [], []⟩, ⟨.n, 0, [], [], []⟩, ⟨.n, 0, [], [], []⟩, ⟨.r, 0, [], [], []⟩, ⟨.n, 0, [], [], []⟩, ⟨.n, 0, [], [], []⟩, ⟨.n, 0, [], [], []⟩] 0 (by kernel_rfl) fun K hK => ?_
  try simp only [ltb,List.replicate_zero]
  refine runM_cut 5 (by simp) (by simp) fun K1 hK1 => ?_
  try simp only [ltb]
  simp only [List.length_map,go_sem,reduceLT,reduceEqDiff]
  refine hK1 _ ?_
  refine runM_case 21 (by rfl) fun b hb4_4 => ?_
  cases b
  ·refine runM_cut 5 (by simp) (by simp) fun K1 hK1 => ?_
   simp only [ltb,go_sem,reduceLT,reduceEqDiff]
   refine callD_ex rfl (⟨_, rfl, hcan⟩) ?_
   rintro _ rfl
   try simp only [go_sem]
   refine hK1 _ ?_
   refine runM_cut 1 (by simp) (by simp) fun K1 hK1 => ?_
   simp only [ltb,go_sem,reduceLT,reduceEqDiff]
   refine callD_ex rfl (hseq) ?_
   rintro _ rfl
   try simp only [go_sem]
   refine hK1 _ ?_
   refine runM_cut 3 (by simp) (by simp) fun K1 hK1 => ?_
   simp only [ltb,go_sem,reduceLT,reduceEqDiff]
   refine hK1 _ ?_
   refine runM_case 30 (by rfl) fun b hb4_13 => ?_
   cases b
   ·refine runM_cut 3 (by simp) (by simp) fun K1 hK1 => ?_
    try simp only [ltb]
    simp only [ptr_nn,go_sem,reduceLT,reduceEqDiff]
    refine hK1 _ ?_
    refine runM_case 33 (by rfl) fun b hb4_16 => ?_
    cases b
    ·refine runM_cut 6 (by simp) (by simp) fun K1 hK1 => ?_
     simp only [ltb,go_sem,reduceLT,reduceEqDiff]
     refine hK1 _ ?_
     simp only [ltb,go_sem,reduceLT,reduceEqDiff]
     refine hK _ _ rfl ?_
     simp only [mwb,reduceAdd,reduceEqDiff]
     refine ex_cond rfl ?_
     refine ex_skip ?_
     show Go.Eng.Ex _ _ _ _ _ _
     refine ex_region_w tt_ok 43 [0,0,0,0,2] [] rfl rfl fun K hK => ?_
     simp only [ltb,go_sem]
     refine hK _ _ rfl ?_
     simp only [mwb,reduceAdd]
     exact ex_ret ⟨.inl rfl, _, congrArg num (by unfold rqE; rw [hC]; simp_all), rfl⟩
    ·cases hb4_16
   ·refine runM_cut 6 (by simp) (by simp) fun K1 hK1 => ?_
    simp only [ltb,go_sem,reduceLT,reduceEqDiff]
    refine hK1 _ ?_
    simp only [ltb,go_sem,reduceLT,reduceEqDiff]
    refine hK _ _ rfl ?_
    simp only [mwb,reduceAdd,reduceEqDiff]
    refine ex_cond rfl ?_
    refine ex_region_w tt_ok 43 [0,0,0,0,2] [] rfl rfl fun K hK => ?_
    simp only [ltb,go_sem]
    refine hK _ _ rfl ?_
    simp only [mwb,reduceAdd]
    exact ex_ret ⟨.inl rfl, _, congrArg num (by unfold rqE; rw [hC]; simp_all), rfl⟩
  ·refine runM_cut 6 (by simp) (by simp) fun K1 hK1 => ?_
   simp only [ltb,go_sem,reduceLT,reduceEqDiff]
   refine hK1 _ ?_
   refine runM_cut 6 (by simp) (by simp) fun K1 hK1 => ?_
   simp only [ltb,go_sem,reduceLT,reduceEqDiff]
   refine hK1 _ ?_
   refine runM_cut 6 (by simp) (by simp) fun K1 hK1 => ?_
   simp only [ltb,go_sem,reduceLT,reduceEqDiff]
   refine hK1 _ ?_
   simp only [ltb,go_sem,reduceLT,reduceEqDiff]
   refine hK _ _ rfl ?_
   simp only [mwb,reduceAdd,reduceEqDiff]
   refine ex_cond rfl ?_
   refine ex_region_w tt_ok 43 [0,0,0,0,2] [] rfl rfl fun K hK => ?_
   simp only [ltb,go_sem]
   refine hK _ _ rfl ?_
   simp only [mwb,reduceAdd]
   exact ex_ret ⟨.inl rfl, _, congrArg num (by unfold rqE; rw [hC]; simp_all), rfl⟩
theorem rq1_ok (hG : Glob.g = some 0) (q p : Rq) (hb : RqB q) : ∃ r_, (fun w => w = num (rqE q (some p))) r_ ∧ FnOk Tryz.prog 134 [encRq q, .eptr [str p.path, encSet p.set]] r_ := by
 refine fn_ex tt_ok (fn := Tryz.f134) Tryz.func134 rfl Tryz.call134 ?_
 simp only [ltb,startSt,Tryz.ntmps134,List.length_cons,List.length_nil,reduceAdd,reduceSub,List.replicate_succ,List.replicate_zero]
 simp only [encRq,encSet]
 obtain ⟨hb1, hb2⟩ := hb
 have hcan := canon_ok q.set hb2
 have hseq := setEq_ok q.set (canon q.set) hb2
 generalize hC : canon q.set = C at hcan hseq
 refine ex_region_w tt_ok 43 [0,0,2,0,2] [] rfl rfl fun K hK => ?_
 simp only [ltb,go_sem,reduceLT]
 refine hK _ _ rfl ?_
 simp only [mwb,reduceAdd,reduceEqDiff]
 refine ex_seq ?_
 refine ex_region_w tt_ok 43 [0,0,0,0,0,1,1,2,1,1,1,1,1,1,1] [] rfl rfl fun K hK => ?_
 refine runX_cut 3 fun K1 hK1 => ?_
 simp only [ltb,go_sem,reduceAdd,reduceLT,reduceLeDiff,reduceEqDiff]
 refine callF_ex (line_ok hG q.path hb1) ?_
 rintro _ ⟨nm, rfl⟩
 try simp only [go_sem]
 refine hK1 _ ?_
 simp only [ltb,go_sem,reduceLT,reduceEqDiff]
 refine hK _ _ rfl ?_
 simp only [mwb,reduceAdd,reduceEqDiff]
 refine ex_region_w tt_ok 43 (rp 15 0 [1,2]) [] rfl rfl fun K hK => ?_
 simp only [ltb,go_sem,reduceLT]
 refine hK _ _ rfl ?_
 simp only [mwb,reduceAdd,reduceEqDiff]
 refine ex_if rfl (fun hc16 => ?_) (fun hc16 => ?_)
 ·refine ex_region_w tt_ok 43 [0,0,0,0,2] [] rfl rfl fun K hK => ?_
  simp only [ltb,go_sem]
  refine hK _ _ rfl ?_
  simp only [mwb,reduceAdd]
  exact ex_ret ⟨.inl rfl, _, congrArg num (by unfold rqE leB ltB; rw [hC]; simp_all []), rfl⟩
 ·refine ex_skip ?_
  show Go.Eng.Ex _ _ _ _ _ _
  refine ex_seq ?_
  refine ex_mixed_w tt_ok mixed_ok 43 [0,0,0,0,0,0,0,0,0,0,0,0,0,0,0,0,0,1,1,1,1,1,1,1,1,1,1,1,1,1,1,1,1,1,1,1,1,1,1,1,1,1,2] (by kernel_rfl) [⟨.n, 0, [], [], []⟩, ⟨.r, 0, [], [], []⟩, ⟨.n, 0, [], [], []⟩, ⟨.n, 0, [], [], []⟩, ⟨.n, 0, [], [], []⟩, ⟨.n, 0, [], [], []⟩, ⟨.r, 0, [], [], []⟩, ⟨.n, 0, [], [], []⟩, ⟨.r, 0, [], [], []⟩, ⟨.n, 0, [], [], []⟩, ⟨.n, 0, [], [], []⟩, ⟨.n, 0, [], [], []⟩, ⟨.n, 0, [], [], []⟩, ⟨.n, 0, [], [], []⟩, ⟨.n, 0, [], [], []⟩, ⟨.n, 0, [], [], []⟩, ⟨.n, 0, [], [], []⟩, ⟨.n, 0, [], [], []⟩, ⟨.r, 0, [], [], []⟩, ⟨.n, 0, [], [], []⟩, ⟨.n, 0, [], [], []⟩, ⟨.n, 0, [], [], []⟩, ⟨.r, 0, [], [], []⟩, ⟨.n, 0, [], [], []⟩, ⟨.n, 0, [], [], []⟩, ⟨.n, 0, [], [], []⟩] 0 (by kernel_rfl) fun K hK => ?_
  try simp only [ltb,List.replicate_zero]
  refine runM_cut 5 (by simp) (by simp) fun K1 hK1 => ?_
  try simp only [ltb]
  simp only [List.length_map,go_sem,reduceLT,reduceEqDiff]
  refine hK1 _ ?_
  refine runM_case 21 (by rfl) fun b hb4_4 => ?_
  cases b
  ·refine runM_cut 5 (by simp) (by simp) fun K1 hK1 => ?_
   simp only [ltb,go_sem,reduceLT,reduceEqDiff]
   refine callD_ex rfl (⟨_, rfl, hcan⟩) ?_
   rintro _ rfl
   try simp only [go_sem]
   refine hK1 _ ?_
   refine runM_cut 1 (by simp) (by simp) fun K1 hK1 => ?_
   simp only [ltb,go_sem,reduceLT,reduceEqDiff]
   refine callD_ex rfl (hseq) ?_
   rintro _ rfl
   try simp only [go_sem]
   refine hK1 _ ?_
   refine runM_cut 3 (by simp) (by simp) fun K1 hK1 => ?_
   simp only [ltb,go_sem,reduceLT,reduceEqDiff]
   refine hK1 _ ?_
   refine runM_case 30 (by rfl) fun b hb4_13 => ?_
   cases b
   ·refine runM_cut 3 (by simp) (by simp) fun K1 hK1 => ?_
    try simp only [ltb]
    simp only [Tryz.underlying168,go_sem,reduceLT,reduceEqDiff]
    refine hK1 _ ?_
    refine runM_case 33 (by rfl) fun b hb4_16 => ?_
    cases b
    ·refine runM_cut 6 (by simp) (by simp) fun K1 hK1 => ?_
     simp only [ltb,go_sem,reduceLT,reduceEqDiff]
     refine hK1 _ ?_
     simp only [ltb,go_sem,reduceLT,reduceEqDiff]
     refine hK _ _ rfl ?_
     simp only [mwb,reduceAdd,reduceEqDiff]
     refine ex_cond rfl ?_
     refine ex_skip ?_
     show Go.Eng.Ex _ _ _ _ _ _
     refine ex_region_w tt_ok 43 [0,0,0,0,2] [] rfl rfl fun K hK => ?_
     simp only [ltb,go_sem]
     refine hK _ _ rfl ?_
     simp only [mwb,reduceAdd]
     exact ex_ret ⟨.inl rfl, _, congrArg num (by unfold rqE leB ltB; rw [hC]; simp_all []), rfl⟩
    ·refine runM_cut 6 (by simp) (by simp) fun K1 hK1 => ?_
     simp only [ltb,go_sem,reduceLT,reduceEqDiff]
     refine hK1 _ ?_
     try simp only [ltb]
     simp only [ev_sleq,go_sem,reduceLT,reduceEqDiff]
     refine hK _ _ rfl ?_
     simp only [mwb,reduceAdd,reduceEqDiff]
     refine ex_if rfl (fun hc42 => ?_) (fun hc42 => ?_)
     ·refine ex_region_w tt_ok 43 [0,0,0,0,2] [] rfl rfl fun K hK => ?_
      simp only [ltb,go_sem]
      refine hK _ _ rfl ?_
      simp only [mwb,reduceAdd]
      exact ex_ret ⟨.inl rfl, _, congrArg num (by unfold rqE leB ltB; rw [hC]; simp_all [str_beq]), rfl⟩
     ·refine ex_skip ?_
      show Go.Eng.Ex _ _ _ _ _ _
      refine ex_region_w tt_ok 43 [0,0,0,0,2] [] rfl rfl fun K hK => ?_
      simp only [ltb,go_sem]
      refine hK _ _ rfl ?_
      simp only [mwb,reduceAdd]
      exact ex_ret ⟨.inl rfl, _, congrArg num (by unfold rqE leB ltB; rw [hC]; simp_all [str_beq]), rfl⟩
   ·refine runM_cut 6 (by simp) (by simp) fun K1 hK1 => ?_
    try simp only [ltb]
    simp only [Tryz.underlying168,go_sem,reduceLT,reduceEqDiff]
    refine hK1 _ ?_
    simp only [ltb,go_sem,reduceLT,reduceEqDiff]
    refine hK _ _ rfl ?_
    simp only [mwb,reduceAdd,reduceEqDiff]
    refine ex_cond rfl ?_
    refine ex_region_w tt_ok 43 [0,0,0,0,2] [] rfl rfl fun K hK => ?_
    simp only [ltb,go_sem]
    refine hK _ _ rfl ?_
    simp only [mwb,reduceAdd]
    exact ex_ret ⟨.inl rfl, _, congrArg num (by unfold rqE leB ltB; rw [hC]; simp_all []), rfl⟩
  ·refine runM_cut 6 (by simp) (by simp) fun K1 hK1 => ?_
   simp only [ltb,go_sem,reduceLT,reduceEqDiff]
   refine hK1 _ ?_
   refine runM_cut 6 (by simp) (by simp) fun K1 hK1 => ?_
   try simp only [ltb]
   simp only [Tryz.underlying168,go_sem,reduceLT,reduceEqDiff]
   refine hK1 _ ?_
   refine runM_cut 6 (by simp) (by simp) fun K1 hK1 => ?_
   simp only [ltb,go_sem,reduceLT,reduceEqDiff]
   refine hK1 _ ?_
   simp only [ltb,go_sem,reduceLT,reduceEqDiff]
   refine hK _ _ rfl ?_
   simp only [mwb,reduceAdd,reduceEqDiff]
   refine ex_cond rfl ?_
   refine ex_region_w tt_ok 43 [0,0,0,0,2] [] rfl rfl fun K hK => ?_
   simp only [ltb,go_sem]
   refine hK _ _ rfl ?_
   simp only [mwb,reduceAdd]
   exact ex_ret ⟨.inl rfl, _, congrArg num (by unfold rqE leB ltB; rw [hC]; simp_all []), rfl⟩
theorem rq_ok (hG : Glob.g = some 0) (q : Rq) (l : List Rq) (i : Nat) (hb : RqB q) : ∃ r_, (fun w => w = num (rqE q (prevO l i))) r_ ∧ FnOk Tryz.prog 134 [encRq q, bV l i] r_ := by
 unfold bV
 cases prevO l i with
 | none => exact rq0_ok hG q hb
 | some p => exact rq1_ok hG q p hb
end Go.Proofs.YtnfeacnbgbggfaaGreatDoor
end

section
namespace Go.Proofs.YtnfeacnbgbggfaaGreatDoor
open Go.Eng
open Nat (reduceAdd reduceLT reduceLeDiff reduceMul reduceEqDiff reduceSub)
variable [Glob]
set_option maxHeartbeats 4000000
set_option maxRecDepth 100000
attribute [local irreducible] runM stepM valD stepOp stepD callF callS
theorem rqs_ok (hG : Glob.g = some 0) (l : List Rq) (hl : l.length ≤ 1048576) (hb : ∀ q ∈ l, RqB q) : ∃ r_, (fun w => w = num (rqsE l)) r_ ∧ FnOk Tryz.prog 109 [encRqs l] r_ := by
 refine fn_ex tt_ok (fn := Tryz.f109) Tryz.func109 rfl Tryz.call109 ?_
 simp only [ltb,startSt,Tryz.ntmps109,List.length_cons,List.length_nil,reduceAdd,reduceSub,List.replicate_succ,List.replicate_zero]
 simp only [encRqs]
 obtain ⟨n, hn⟩ : ∃ n : Nat, n = 16 := ⟨_, rfl⟩
 refine ex_region_w tt_ok 27 [0,0,2] [] rfl rfl fun K hK => ?_
 simp only [ltb,go_sem]
 refine hK _ _ rfl ?_
 simp only [mwb,reduceAdd]
 refine ex_seq ?_
 refine ex_region_w tt_ok 27 [0,0,0,0,0,0,0,1,1,2] [] rfl rfl fun K hK => ?_
 try simp only [ltb]
 simp only [List.length_map,go_sem,reduceLT,reduceEqDiff]
 refine hK _ _ rfl ?_
 simp only [mwb,reduceAdd,reduceEqDiff]
 refine ex_if rfl (fun hc9 => ?_) (fun hc9 => ?_)
 ·have hres : 7 = rqsE l := by unfold rqsE; rw [if_pos (by have := of_decide_eq_true hc9; omega)]
  refine ex_region_w tt_ok 27 [0,0,2] [] rfl rfl fun K hK => ?_
  simp only [ltb,go_sem]
  refine hK _ _ rfl ?_
  simp only [mwb,reduceAdd]
  exact ex_ret ⟨.inl rfl, _, congrArg num hres, rfl⟩
 ·refine ex_skip ?_
  show Go.Eng.Ex _ _ _ _ _ _
  refine ex_region_w tt_ok 27 [0,0,0,2] [] rfl rfl fun K hK => ?_
  simp only [ltb,go_sem]
  refine hK _ _ rfl ?_
  simp only [mwb,reduceAdd]
  refine ex_seq ?_
  refine ex_region_w tt_ok 27 (rp 10 0 [2,2,2]) [] rfl rfl fun K hK => ?_
  try simp only [ltb]
  simp only [List.length_map,go_sem,reduceLT]
  refine hK _ _ rfl ?_
  simp only [mwb,reduceAdd,reduceEqDiff]
  refine ex_block ?_
  refine ex_loopK [12,3] [num 0, bV l 0] 0 [true,false,true,true,false,false,false,false,false,true,true,true,true] (fun vs => ((l.length : Int) - Go.Eng.intOf (vs.headD .undef)).toNat) (fun vs => ∃ i : Nat, vs = [num i, bV l i] ∧ i ≤ l.length ∧ rqsFrom none l = rqsFrom (prevO l i) (l.drop i)) (by omega) (by simp only [maskFr,belowV,mkb]) (by simp only [List.all_nil,List.take_nil]) (by rfl) (⟨0, rfl, Nat.zero_le _, rfl⟩) fun vs hI => ?_
  obtain ⟨i, rfl, hi, hst⟩ := hI
  simp only [maskFr,putAll,List.set_cons_zero,List.set_cons_succ,mkb]
  refine ex_region_w tt_ok 27 (rp 13 0 [2]) [] rfl rfl fun K hK => ?_
  simp only [ltb,go_sem,reduceLT]
  refine hK _ _ rfl ?_
  simp only [mwb,reduceAdd]
  refine ex_seq ?_
  refine ex_if rfl (fun hc13 => ?_) (fun hc13 => ?_)
  ·have hlt : i < l.length := by simpa using hc13
   have hw := i64_succ i (by omega)
   obtain ⟨x, hx⟩ : ∃ x, l[i]? = some x := ⟨_, List.getElem?_eq_getElem hlt⟩
   refine ex_skip ?_
   show Go.Eng.Ex _ _ _ _ _ _
   refine ex_seq ?_
   refine ex_block ?_
   refine ex_region_w tt_ok 27 [0,0,0,0,2,2,0,0,0,0,0,0,0,0,1,1,1] [] rfl rfl fun K hK => ?_
   try simp only [ltb]
   simp only [List.getElem?_map,hx,encRq,encSet,go_sem,reduceAdd,reduceLT,reduceEqDiff]
   refine hK _ _ rfl ?_
   simp only [mwb,reduceAdd,reduceEqDiff]
   refine ex_seq ?_
   refine ex_region_w tt_ok 27 [0,0,0,0,0,0,2,0,0,0,0,0,0,0,0,0,0,1,1,1] [] rfl rfl fun K hK => ?_
   refine runX_cut 3 fun K1 hK1 => ?_
   simp only [ltb]
   simp only [↓bV_pur,↓bV_ref,go_sem,reduceAdd,reduceLT,reduceEqDiff]
   refine callF_ex (by have h := rq_ok hG x l i (hb x (List.mem_of_getElem? hx)); simp only [encRq,encSet] at h; exact h) ?_
   rintro _ rfl
   try simp only [go_sem]
   refine hK1 _ ?_
   simp only [ltb,go_sem,reduceLT,reduceEqDiff]
   refine hK _ _ rfl ?_
   simp only [mwb,reduceAdd,reduceEqDiff]
   refine ex_region_w tt_ok 27 (rp 20 0 [1,2]) [] rfl rfl fun K hK => ?_
   simp only [ltb,go_sem,reduceLT]
   refine hK _ _ rfl ?_
   simp only [mwb,reduceAdd,reduceEqDiff]
   refine ex_if rfl (fun hc21 => ?_) (fun hc21 => ?_)
   ·have hres : rqE x (prevO l i) = rqsE l := by unfold rqsE; rw [if_neg (by have := of_decide_eq_false hc9; omega), hst, rqs_stop hx (by simpa using hc21)]
    refine ex_region_w tt_ok 27 (0::0::2::(rp 19 0 [1])) [] rfl rfl fun K hK => ?_
    simp only [ltb,go_sem,reduceLT]
    refine hK _ _ rfl ?_
    simp only [mwb,reduceAdd,reduceEqDiff]
    exact ex_ret ⟨.inl rfl, _, congrArg num hres, rfl⟩
   ·refine ex_skip ?_
    show Go.Eng.Ex _ _ _ _ _ _
    refine ex_last_region_w tt_ok 27 (0::0::0::2::(rp 19 0 [2,2,2])) [] (by kernel_rfl) rfl rfl fun K hK => ?_
    try simp only [ltb]
    simp only [List.getElem?_map,hx,encRq,encSet,go_sem,reduceAdd,reduceLT,reduceEqDiff]
    refine hK _ _ rfl ?_
    simp only [mwb,reduceAdd,reduceEqDiff]
    show Go.Eng.Ex _ _ _ _ _ _
    refine ex_last_region_w tt_ok 27 (rp 12 0 (2::(rp 13 0 [2]))) [] (by kernel_rfl) rfl rfl fun K hK => ?_
    try simp only [ltb]
    simp only [hw,go_sem,reduceLT]
    refine hK _ _ rfl ?_
    simp only [mwb,reduceAdd,reduceEqDiff]
    refine ⟨[_, _], ?_, ?_, 0, [true,false,true,true,false,false,false,false,false,true,true,true,true], by omega, by simp only [maskFr,belowV,mkb], by simp only [List.all_nil,List.take_zero], by simp only [maskFr,putAll,List.set_cons_zero,List.set_cons_succ,mkb]; rfl⟩
    ·exact ⟨i + 1, by rw [bV_succ hx]; rfl, hlt, by rw [hst]; exact rqs_step hx (by simpa using hc21)⟩
    ·simp only [Go.Eng.intOf,List.headD_cons]; omega
  ·have hge : ¬ i < l.length := by simpa using hc13
   have hres : 0 = rqsE l := by unfold rqsE; rw [if_neg (by have := of_decide_eq_false hc9; omega), hst, List.drop_eq_nil_of_le (by omega)]; rfl
   refine ex_exit ?_
   show Go.Eng.Ex _ _ _ _ _ _
   refine ex_region_w tt_ok 27 [0,0,2] [] rfl rfl fun K hK => ?_
   simp only [ltb,go_sem]
   refine hK _ _ rfl ?_
   simp only [mwb,reduceAdd]
   exact ex_ret ⟨.inl rfl, _, congrArg num hres, rfl⟩
theorem release_ok (hG : Glob.g = some 0) (r : Rl) (hb : RlB r) : ∃ r_, (fun w => w = num (rlE r)) r_ ∧ FnOk Tryz.prog 75 [encRl r] r_ := by
 refine fn_ex tt_ok (fn := Tryz.f75) Tryz.func75 rfl Tryz.call75 ?_
 simp only [ltb,startSt,Tryz.ntmps75,List.length_cons,List.length_nil,reduceAdd,reduceSub,List.replicate_succ,List.replicate_zero]
 simp only [encRl,rlCells,encRqs]
 obtain ⟨hb1, hb2, hb3⟩ := hb
 refine ex_region_w tt_ok 56 [0,2,2] [] rfl rfl fun K hK => ?_
 simp only [ltb,go_sem,reduceLT]
 refine hK _ _ rfl ?_
 simp only [mwb,reduceAdd,reduceEqDiff]
 refine ex_region_w tt_ok 56 [0,0,0,1,2,2,0,0,0,1,1,1,1,1,1,1] [] rfl rfl fun K hK => ?_
 refine runX_cut 3 fun K1 hK1 => ?_
 simp only [ltb,go_sem,reduceAdd,reduceLT,reduceLeDiff,reduceEqDiff]
 refine callF_ex (line_ok hG r.path hb1) ?_
 rintro _ ⟨nm, rfl⟩
 try simp only [go_sem]
 refine hK1 _ ?_
 simp only [ltb,go_sem,reduceLT,reduceEqDiff]
 refine hK _ _ rfl ?_
 simp only [mwb,reduceAdd,reduceEqDiff]
 refine ex_seq ?_
 refine ex_region_w tt_ok 56 (rp 16 0 [1,2]) [] rfl rfl fun K hK => ?_
 simp only [ltb,go_sem,reduceLT]
 refine hK _ _ rfl ?_
 simp only [mwb,reduceAdd,reduceEqDiff]
 refine ex_if rfl (fun hc17 => ?_) (fun hc17 => ?_)
 ·have hres : 4 = rlE r := by unfold rlE; simp_all
  refine ex_region_w tt_ok 56 [0,0,2] [] rfl rfl fun K hK => ?_
  simp only [ltb,go_sem]
  refine hK _ _ rfl ?_
  simp only [mwb,reduceAdd]
  exact ex_ret ⟨.inl rfl, _, congrArg num hres, rfl⟩
 ·refine ex_skip ?_
  show Go.Eng.Ex _ _ _ _ _ _
  refine ex_seq ?_
  refine ex_region_w tt_ok 56 (rp 18 0 (rp 10 1 [2])) [(4, 22)] rfl rfl fun K hK => ?_
  refine runX_cut 3 fun K1 hK1 => ?_
  simp only [ltb,go_sem,reduceAdd,reduceLT,reduceLeDiff,reduceEqDiff]
  refine callF_ex (by have h := valid_ok r.ver; simp only [encVer] at h; exact h) ?_
  rintro _ rfl
  try simp only [go_sem]
  refine hK1 _ ?_
  refine runX_cut 2 fun K1 hK1 => ?_
  simp only [ltb,go_sem,reduceLT,reduceEqDiff]
  refine hK1 _ ?_
  refine runX_case 22 (by rfl) fun b hb4_4 => ?_
  cases b
  ·simp only [ltb,go_sem,reduceAdd,reduceLT,reduceLeDiff,reduceEqDiff]
   refine hK _ _ rfl ?_
   simp only [mwb,reduceAdd,reduceEqDiff]
   refine ex_if rfl (fun hc28 => ?_) (fun hc28 => ?_)
   ·have hres : 2 = rlE r := by unfold rlE; simp_all
    refine ex_region_w tt_ok 56 [0,0,2] [] rfl rfl fun K hK => ?_
    simp only [ltb,go_sem]
    refine hK _ _ rfl ?_
    simp only [mwb,reduceAdd]
    exact ex_ret ⟨.inl rfl, _, congrArg num hres, rfl⟩
   ·refine ex_skip ?_
    show Go.Eng.Ex _ _ _ _ _ _
    refine ex_seq ?_
    refine ex_region_w tt_ok 56 (0::0::0::0::0::0::2::(rp 22 0 [1,1,1])) [] rfl rfl fun K hK => ?_
    refine runX_cut 3 fun K1 hK1 => ?_
    simp only [ltb,go_sem,reduceAdd,reduceLT,reduceLeDiff,reduceEqDiff]
    refine callF_ex (by have h := rqs_ok hG r.reqs hb2 hb3; simp only [encRqs] at h; exact h) ?_
    rintro _ rfl
    try simp only [go_sem]
    refine hK1 _ ?_
    simp only [ltb,go_sem,reduceLT,reduceEqDiff]
    refine hK _ _ rfl ?_
    simp only [mwb,reduceAdd,reduceEqDiff]
    refine ex_region_w tt_ok 56 (rp 32 0 [1,2]) [] rfl rfl fun K hK => ?_
    simp only [ltb,go_sem,reduceLT]
    refine hK _ _ rfl ?_
    simp only [mwb,reduceAdd,reduceEqDiff]
    refine ex_if rfl (fun hc33 => ?_) (fun hc33 => ?_)
    ·have hres : rqsE r.reqs = rlE r := by unfold rlE; simp_all
     refine ex_region_w tt_ok 56 (0::0::2::(rp 31 0 [1])) [] rfl rfl fun K hK => ?_
     simp only [ltb,go_sem,reduceLT]
     refine hK _ _ rfl ?_
     simp only [mwb,reduceAdd,reduceEqDiff]
     exact ex_ret ⟨.inl rfl, _, congrArg num hres, rfl⟩
    ·refine ex_skip ?_
     show Go.Eng.Ex _ _ _ _ _ _
     refine ex_seq ?_
     refine ex_region_w tt_ok 56 (rp 35 0 [1,1,1,1,1,1,2,2,2]) [] rfl rfl fun K hK => ?_
     refine runX_cut 8 fun K1 hK1 => ?_
     simp only [ltb,go_sem,reduceAdd,reduceLT,reduceLeDiff,reduceMul,reduceEqDiff]
     refine hK1 _ ?_
     simp only [ltb,go_sem,reduceAdd]
     refine hK _ _ rfl ?_
     simp only [mwb,reduceAdd,reduceEqDiff]
     refine ex_block ?_
     refine ex_loopK [43] [num 0] 2 (false::false::true::(rp 14 false (true::(rp 10 false [true,false,false,false,false,true,false,false,false,false,false,false,false,true,true,true])))) (fun vs => ((3 : Int) - Go.Eng.intOf (vs.headD .undef)).toNat) (fun vs => ∃ i : Nat, vs = [num i] ∧ i ≤ 3 ∧ ∀ j < i, dig (dgAt r j) = true) (by omega) (by simp only [maskFr,belowV,reduceLT,mkb]) (by simp only [List.all_cons,List.all_nil,belowV,belowB,Bool.and_self,List.take_succ_cons,List.take_nil]) (by rfl) (⟨0, rfl, Nat.zero_le _, fun j hj => absurd hj (Nat.not_lt_zero j)⟩) fun vs hI => ?_
     obtain ⟨i, rfl, hi, hall⟩ := hI
     simp only [maskFr,putAll,List.set_cons_zero,List.set_cons_succ,mkb]
     refine ex_region_w tt_ok 56 (rp 44 0 [2]) [] rfl rfl fun K hK => ?_
     simp only [ltb,go_sem,reduceAdd,reduceLT]
     refine hK _ _ rfl ?_
     simp only [mwb,reduceAdd]
     refine ex_seq ?_
     refine ex_if rfl (fun hc44 => ?_) (fun hc44 => ?_)
     ·have hlt : i < 3 := by have := of_decide_eq_true hc44; omega
      rw [hc44]
      have hltI : (i : Int) < 3 := by omega
      have hw := i64_succ i (by omega)
      have hdg := dg_get r i hlt
      have h33 : ((3 : Nat) : Int) = 3 := rfl
      refine ex_skip ?_
      show Go.Eng.Ex _ _ _ _ _ _
      refine ex_seq ?_
      refine ex_block ?_
      refine ex_region_w tt_ok 56 (rp 8 0 (2::(rp 36 0 [1,1]))) [] rfl rfl fun K hK => ?_
      try simp only [ltb]
      simp only [hltI,hdg,h33,Int.natCast_nonneg,Int.toNat_natCast,go_sem,reduceAdd,reduceLT,reduceEqDiff]
      refine hK _ _ rfl ?_
      simp only [mwb,reduceAdd,reduceEqDiff]
      refine ex_region_w tt_ok 56 (rp 47 0 [1,1,1,1,1,1,1,2]) [(3, 50)] rfl rfl fun K hK => ?_
      refine runX_cut 4 fun K1 hK1 => ?_
      simp only [ltb]
      simp only [h33,go_sem,reduceAdd,reduceLT,reduceEqDiff]
      refine hK1 _ ?_
      refine runX_case 50 (by rfl) fun b hb12_3 => ?_
      cases b
      ·simp only [ltb,go_sem,reduceAdd,reduceLT,reduceEqDiff]
       refine hK _ _ rfl ?_
       simp only [mwb,reduceAdd,reduceEqDiff]
       refine ex_cond rfl ?_
       refine ex_skip ?_
       show Go.Eng.Ex _ _ _ _ _ _
       refine ex_last_region_w tt_ok 56 (rp 43 0 (2::(rp 11 0 [2]))) [] (by kernel_rfl) rfl rfl fun K hK => ?_
       try simp only [ltb]
       simp only [hw,h33,go_sem,reduceAdd,reduceLT]
       refine hK _ _ rfl ?_
       simp only [mwb,reduceAdd,reduceEqDiff]
       refine ⟨[_], ?_, ?_, 2, (false::false::true::(rp 14 false (true::(rp 10 false [true,false,false,false,false,true,false,false,false,false,false,false,false,true,true,true])))), by omega, by simp only [maskFr,belowV,reduceLT,mkb], by simp only [List.all_cons,List.all_nil,belowV,belowB,Bool.and_self,List.take_succ_cons,List.take_nil], by simp only [maskFr,putAll,List.set_cons_zero,List.set_cons_succ,mkb]; rfl⟩
       ·refine ⟨i + 1, rfl, hlt, fun j hj => ?_⟩
        rcases Nat.lt_or_ge j i with h | h
        ·exact hall j h
        ·obtain rfl : j = i := by omega
         unfold dig; simp_all <;> omega
       ·simp only [Go.Eng.intOf,List.headD_cons]; omega
      ·simp only [ltb,go_sem,reduceAdd,reduceLT,reduceEqDiff]
       refine hK _ _ rfl ?_
       simp only [mwb,reduceAdd,reduceEqDiff]
       refine ex_if rfl (fun hc54 => ?_) (fun hc54 => ?_)
       ·have hdd : dig (dgAt r i) = false := by unfold dig; simp_all <;> omega
        have hdn := dg_no hlt hdd
        have hres : 1 = rlE r := by unfold rlE; simp_all
        refine ex_region_w tt_ok 56 [0,0,2] [] rfl rfl fun K hK => ?_
        try simp only [ltb]
        simp only [h33,go_sem,reduceAdd]
        refine hK _ _ rfl ?_
        simp only [mwb,reduceAdd]
        exact ex_ret ⟨.inl rfl, _, congrArg num hres, rfl⟩
       ·refine ex_skip ?_
        show Go.Eng.Ex _ _ _ _ _ _
        refine ex_last_region_w tt_ok 56 (rp 43 0 (2::(rp 11 0 [2]))) [] (by kernel_rfl) rfl rfl fun K hK => ?_
        try simp only [ltb]
        simp only [hw,h33,go_sem,reduceAdd,reduceLT]
        refine hK _ _ rfl ?_
        simp only [mwb,reduceAdd,reduceEqDiff]
        refine ⟨[_], ?_, ?_, 2, (false::false::true::(rp 14 false (true::(rp 10 false [true,false,false,false,false,true,false,false,false,false,false,false,false,true,true,true])))), by omega, by simp only [maskFr,belowV,reduceLT,mkb], by simp only [List.all_cons,List.all_nil,belowV,belowB,Bool.and_self,List.take_succ_cons,List.take_nil], by simp only [maskFr,putAll,List.set_cons_zero,List.set_cons_succ,mkb]; rfl⟩
        ·refine ⟨i + 1, rfl, hlt, fun j hj => ?_⟩
         rcases Nat.lt_or_ge j i with h | h
         ·exact hall j h
         ·obtain rfl : j = i := by omega
          unfold dig; simp_all <;> omega
        ·simp only [Go.Eng.intOf,List.headD_cons]; omega
     ·have hge : i = 3 := by have := of_decide_eq_false hc44; omega
      subst hge
      have hdd := dg_all hall
      have hres : 0 = rlE r := by unfold rlE; simp_all
      refine ex_exit ?_
      show Go.Eng.Ex _ _ _ _ _ _
      refine ex_region_w tt_ok 56 [0,0,2] [] rfl rfl fun K hK => ?_
      simp only [ltb,go_sem,reduceAdd]
      refine hK _ _ rfl ?_
      simp only [mwb,reduceAdd]
      exact ex_ret ⟨.inl rfl, _, congrArg num hres, rfl⟩
  ·simp only [ltb,go_sem,reduceLT,reduceEqDiff]
   refine hK _ _ rfl ?_
   simp only [mwb,reduceAdd,reduceEqDiff]
   refine ex_cond rfl ?_
   have hres : 2 = rlE r := by unfold rlE; simp_all
   refine ex_region_w tt_ok 56 [0,0,2] [] rfl rfl fun K hK => ?_
   simp only [ltb,go_sem]
   refine hK _ _ rfl ?_
   simp only [mwb,reduceAdd]
   exact ex_ret ⟨.inl rfl, _, congrArg num hres, rfl⟩
theorem check_ok (hG : Glob.g = some 0) (l : List Rl) (I : List V) (hb : IxB l) : ∃ r_, (fun w => w = num (ixE l)) r_ ∧ FnOk Tryz.prog 22 [encIx l I] r_ := by
 refine fn_ex tt_ok (fn := Tryz.f22) Tryz.func22 rfl Tryz.call22 ?_
 simp only [ltb,startSt,Tryz.ntmps22,List.length_cons,List.length_nil,reduceAdd,reduceSub,List.replicate_succ,List.replicate_zero]
 simp only [encIx,encRls]
 obtain ⟨hl, hb⟩ := hb
 refine ex_region_w tt_ok 42 [0,2,2] [] rfl rfl fun K hK => ?_
 simp only [ltb,go_sem,reduceLT]
 refine hK _ _ rfl ?_
 simp only [mwb,reduceAdd,reduceEqDiff]
 refine ex_seq ?_
 refine ex_region_w tt_ok 42 [0,0,0,0,0,0,0,1,1,1,2] [] rfl rfl fun K hK => ?_
 try simp only [ltb]
 simp only [List.length_map,go_sem,reduceAdd,reduceLT,reduceLeDiff,reduceEqDiff]
 refine hK _ _ rfl ?_
 simp only [mwb,reduceAdd,reduceEqDiff]
 refine ex_if rfl (fun hc10 => ?_) (fun hc10 => ?_)
 ·have hres : 7 = ixE l := by unfold ixE; rw [if_pos (by have := of_decide_eq_true hc10; omega)]
  refine ex_region_w tt_ok 42 [0,0,2] [] rfl rfl fun K hK => ?_
  simp only [ltb,go_sem]
  refine hK _ _ rfl ?_
  simp only [mwb,reduceAdd]
  exact ex_ret ⟨.inl rfl, _, congrArg num hres, rfl⟩
 ·refine ex_skip ?_
  show Go.Eng.Ex _ _ _ _ _ _
  refine ex_seq ?_
  refine ex_region_w tt_ok 42 (rp 11 0 [1,2,2,2]) [] rfl rfl fun K hK => ?_
  try simp only [ltb]
  simp only [List.length_map,go_sem,reduceAdd,reduceLT,reduceLeDiff,reduceEqDiff]
  refine hK _ _ rfl ?_
  simp only [mwb,reduceAdd,reduceEqDiff]
  refine ex_block ?_
  refine ex_loopK [14] [num 0] 1 [false,true,true,false,false,false,false,false,false,false,true,false,true,true,true] (fun vs => ((l.length : Int) - Go.Eng.intOf (vs.headD .undef)).toNat) (fun vs => ∃ i : Nat, vs = [num i] ∧ i ≤ l.length ∧ ixFrom none l = ixFrom (prevO l i) (l.drop i)) (by omega) (by simp only [maskFr,belowV,reduceLT,mkb]) (by simp only [List.all_cons,List.all_nil,belowV,belowB,Bool.and_self,List.take_succ_cons,List.take_nil]) (by rfl) (⟨0, rfl, Nat.zero_le _, rfl⟩) fun vs hI => ?_
  obtain ⟨i, rfl, hi, hst⟩ := hI
  simp only [maskFr,putAll,List.set_cons_zero,List.set_cons_succ,mkb]
  refine ex_region_w tt_ok 42 (rp 15 0 [2]) [] rfl rfl fun K hK => ?_
  simp only [ltb,go_sem,reduceLT]
  refine hK _ _ rfl ?_
  simp only [mwb,reduceAdd]
  refine ex_seq ?_
  refine ex_if rfl (fun hc15 => ?_) (fun hc15 => ?_)
  ·have hlt : i < l.length := by simpa using hc15
   have hw := i64_succ i (by omega)
   obtain ⟨x, hx⟩ : ∃ x, l[i]? = some x := ⟨_, List.getElem?_eq_getElem hlt⟩
   refine ex_skip ?_
   show Go.Eng.Ex _ _ _ _ _ _
   refine ex_seq ?_
   refine ex_block ?_
   refine ex_region_w tt_ok 42 (0::0::0::2::2::(rp 11 0 [1,1,1])) [] rfl rfl fun K hK => ?_
   try simp only [ltb]
   simp only [List.getElem?_map,hx,encRl,rlCells,encRqs,go_sem,reduceAdd,reduceLT,reduceEqDiff]
   refine hK _ _ rfl ?_
   simp only [mwb,reduceAdd,reduceEqDiff]
   refine ex_seq ?_
   refine ex_region_w tt_ok 42 (0::0::0::0::0::2::(rp 13 0 [1,1])) [] rfl rfl fun K hK => ?_
   refine runX_cut 2 fun K1 hK1 => ?_
   simp only [ltb,go_sem,reduceAdd,reduceLT]
   refine callF_ex (by have h := release_ok hG x (hb x (List.mem_of_getElem? hx)); simp only [encRl,rlCells,encRqs] at h; exact h) ?_
   rintro _ rfl
   try simp only [go_sem]
   refine hK1 _ ?_
   simp only [ltb,go_sem,reduceAdd,reduceLT,reduceEqDiff]
   refine hK _ _ rfl ?_
   simp only [mwb,reduceAdd,reduceEqDiff]
   refine ex_region_w tt_ok 42 (rp 21 0 [1,2]) [] rfl rfl fun K hK => ?_
   simp only [ltb,go_sem,reduceAdd,reduceLT]
   refine hK _ _ rfl ?_
   simp only [mwb,reduceAdd,reduceEqDiff]
   refine ex_if rfl (fun hc22 => ?_) (fun hc22 => ?_)
   ·have hres : rlE x = ixE l := by unfold ixE; rw [if_neg (by have := of_decide_eq_false hc10; omega), hst, ix_stop hx (by simpa using hc22)]
    refine ex_region_w tt_ok 42 (0::0::2::(rp 20 0 [1])) [] rfl rfl fun K hK => ?_
    simp only [ltb,go_sem,reduceAdd,reduceLT]
    refine hK _ _ rfl ?_
    simp only [mwb,reduceAdd,reduceEqDiff]
    exact ex_ret ⟨.inl rfl, _, congrArg num hres, rfl⟩
   ·refine ex_skip ?_
    show Go.Eng.Ex _ _ _ _ _ _
    refine ex_seq ?_
    refine ex_region_w tt_ok 42 (rp 24 0 [1,2]) [] rfl rfl fun K hK => ?_
    simp only [ltb,go_sem,reduceAdd,reduceLT]
    refine hK _ _ rfl ?_
    simp only [mwb,reduceAdd,reduceEqDiff]
    refine ex_if rfl (fun hc25 => ?_) (fun hc25 => ?_)
    ·have hi0 : i = 0 := by have := of_decide_eq_true hc25; omega
     have hbf : ∀ p, prevO l i = some p → p.key ≠ x.key ∧ ¬ 0 < p.cmp x := fun p hp => by rw [hi0] at hp; cases hp
     refine ex_exit ?_
     show Go.Eng.Ex _ _ _ _ _ _
     refine ex_last_region_w tt_ok 42 (rp 14 0 (2::(rp 26 0 [2]))) [] (by kernel_rfl) rfl rfl fun K hK => ?_
     try simp only [ltb]
     simp only [hw,go_sem,reduceAdd,reduceLT]
     refine hK _ _ rfl ?_
     simp only [mwb,reduceAdd,reduceEqDiff]
     refine ⟨[_], ?_, ?_, 1, [false,true,true,false,false,false,false,false,false,false,true,false,true,true,true], by omega, by simp only [maskFr,belowV,reduceLT,mkb], by simp only [ltb,List.all_cons,List.all_nil,belowV,belowB,Bool.and_self], by simp only [maskFr,putAll,List.set_cons_zero,List.set_cons_succ,mkb]; rfl⟩
     ·exact ⟨i + 1, rfl, hlt, by rw [hst]; exact ix_step hx (by simpa using hc22) hbf⟩
     ·simp only [Go.Eng.intOf,List.headD_cons]; omega
    ·have hi0 : i ≠ 0 := by have := of_decide_eq_false hc25; omega
     obtain ⟨p, hp⟩ : ∃ p, l[i - 1]? = some p := ⟨_, List.getElem?_eq_getElem (by omega)⟩
     have hpo : prevO l i = some p := by rw [prevO_pos hi0, hp]
     have hwm : IntKind.i64.wrap ((i : Int) - 1) = ((i - 1 : Nat) : Int) := i64_c _ _ (by omega) (by omega)
     have hek := fun a b => ev_eql54 a b p.key x.key
     refine ex_skip ?_
     show Go.Eng.Ex _ _ _ _ _ _
     refine ex_region_w tt_ok 42 (0::0::0::0::0::0::2::(rp 19 0 [1,1,1,1,1,1])) [] rfl rfl fun K hK => ?_
     try simp only [ltb]
     simp only [List.getElem?_map,encRl,rlCells,encRqs,hwm,hp,go_sem,reduceAdd,reduceLT,reduceLeDiff,reduceEqDiff]
     refine hK _ _ rfl ?_
     simp only [mwb,reduceAdd,reduceEqDiff]
     refine ex_mixed_w tt_ok mixed_ok 42 [0,0,0,0,0,0,0,0,0,0,0,0,0,0,0,0,0,0,0,0,0,0,0,0,0,0,0,0,0,0,0,0,1,1,1,1,2] (by kernel_rfl) [⟨.r, 0, [], [], []⟩, ⟨.n, 0, [], [], []⟩, ⟨.r, 0, [], [], []⟩, ⟨.n, 0, [], [], []⟩, ⟨.n, 0, [], [], []⟩] 0 (by kernel_rfl) fun K hK => ?_
     try simp only [ltb,List.replicate_zero]
     refine runM_cut 2 (by simp) (by simp) fun K1 hK1 => ?_
     simp only [ltb,go_sem,reduceAdd,reduceLT]
     refine callD_ex rfl (by have h := key_ok p; simp only [encRl,rlCells,encRqs,encSel] at h; exact h) ?_
     rintro _ rfl
     try simp only [go_sem]
     refine hK1 _ ?_
     refine runM_cut 2 (by simp) (by simp) fun K1 hK1 => ?_
     simp only [ltb,go_sem,reduceAdd,reduceLT,reduceEqDiff]
     refine callD_ex rfl (by have h := key_ok x; simp only [encRl,rlCells,encRqs,encSel] at h; exact h) ?_
     rintro _ rfl
     try simp only [go_sem]
     refine hK1 _ ?_
     try simp only [ltb]
     simp only [hek,go_sem,reduceAdd,reduceLT,reduceEqDiff]
     refine hK _ _ rfl ?_
     simp only [mwb,reduceAdd,reduceEqDiff]
     refine ex_if rfl (fun hc36 => ?_) (fun hc36 => ?_)
     ·have hres : 5 = ixE l := by unfold ixE; rw [if_neg (by have := of_decide_eq_false hc10; omega), hst, ix_two hx (by simpa using hc22) hpo, if_pos (by simpa using hc36)]
      refine ex_region_w tt_ok 42 [0,0,2] [] rfl rfl fun K hK => ?_
      simp only [ltb,go_sem,reduceAdd]
      refine hK _ _ rfl ?_
      simp only [mwb,reduceAdd]
      exact ex_ret ⟨.inl rfl, _, congrArg num hres, rfl⟩
     ·refine ex_region_w tt_ok 42 (rp 37 0 [1,1,1,2]) [] rfl rfl fun K hK => ?_
      refine runX_cut 3 fun K1 hK1 => ?_
      simp only [ltb,go_sem,reduceAdd,reduceLT,reduceEqDiff]
      refine callF_ex (by have h := compare_ok p x; simp only [encRl,rlCells,encRqs] at h; exact h) ?_
      rintro _ rfl
      try simp only [go_sem]
      refine hK1 _ ?_
      simp only [ltb,go_sem,reduceAdd,reduceLT,reduceEqDiff]
      refine hK _ _ rfl ?_
      simp only [mwb,reduceAdd,reduceEqDiff]
      refine ex_if rfl (fun hc40 => ?_) (fun hc40 => ?_)
      ·have hres : 1 = ixE l := by unfold ixE; rw [if_neg (by have := of_decide_eq_false hc10; omega), hst, ix_two hx (by simpa using hc22) hpo, if_neg (by simpa using hc36), if_pos (by simpa using hc40)]
       refine ex_region_w tt_ok 42 [0,0,2] [] rfl rfl fun K hK => ?_
       simp only [ltb,go_sem,reduceAdd]
       refine hK _ _ rfl ?_
       simp only [mwb,reduceAdd]
       exact ex_ret ⟨.inl rfl, _, congrArg num hres, rfl⟩
      ·have hbf : ∀ p, prevO l i = some p → p.key ≠ x.key ∧ ¬ 0 < p.cmp x := fun q hq => by rw [hpo] at hq; cases hq; exact ⟨by simpa using hc36, by simpa using hc40⟩
       refine ex_skip ?_
       show Go.Eng.Ex _ _ _ _ _ _
       refine ex_last_region_w tt_ok 42 (rp 14 0 (2::(rp 26 0 [2]))) [] (by kernel_rfl) rfl rfl fun K hK => ?_
       try simp only [ltb]
       simp only [hw,go_sem,reduceAdd,reduceLT]
       refine hK _ _ rfl ?_
       simp only [mwb,reduceAdd,reduceEqDiff]
       refine ⟨[_], ?_, ?_, 1, [false,true,true,false,false,false,false,false,false,false,true,false,true,true,true], by omega, by simp only [maskFr,belowV,reduceLT,mkb], by simp only [ltb,List.all_cons,List.all_nil,belowV,belowB,Bool.and_self], by simp only [maskFr,putAll,List.set_cons_zero,List.set_cons_succ,mkb]; rfl⟩
       ·exact ⟨i + 1, rfl, hlt, by rw [hst]; exact ix_step hx (by simpa using hc22) hbf⟩
       ·simp only [Go.Eng.intOf,List.headD_cons]; omega
  ·have hge : ¬ i < l.length := by simpa using hc15
   have hres : 0 = ixE l := by unfold ixE; rw [if_neg (by have := of_decide_eq_false hc10; omega), hst, List.drop_eq_nil_of_le (by omega)]; rfl
   refine ex_exit ?_
   show Go.Eng.Ex _ _ _ _ _ _
   refine ex_region_w tt_ok 42 [0,0,2] [] rfl rfl fun K hK => ?_
   simp only [ltb,go_sem]
   refine hK _ _ rfl ?_
   simp only [mwb,reduceAdd]
   exact ex_ret ⟨.inl rfl, _, congrArg num hres, rfl⟩
end Go.Proofs.YtnfeacnbgbggfaaGreatDoor
end

section
namespace Go.Proofs.YtnfeacnbgbggfaaGreatDoor
open Go.Eng
theorem okWide_slice {P : Program} {W : World} {base : Nat} {T e : TypeId} {v : Value} (hT : P.underlying T = some (.slice e)) (h : Value.okWide P W .any base T v) : ∃ a l c, v = .slice a l c := by
 unfold Value.okWide at h
 rw [hT] at h
 unfold Cell.okWide at h
 rw [hT] at h
 cases v with
 | slice a l c => exact ⟨a, l, c, rfl⟩
 | _ => simp [Cell.ok, hT] at h
variable [Glob]
theorem c3 : Tryz.prog.cellsOf 3 = 1 := by kernel_rfl
theorem c4 : Tryz.prog.cellsOf 4 = 1 := by kernel_rfl
theorem c9 : Tryz.prog.cellsOf 9 = 1 := by kernel_rfl
theorem c22 : Tryz.prog.cellsOf 22 = 1 := by kernel_rfl
theorem c23 : Tryz.prog.cellsOf 23 = 1 := by kernel_rfl
theorem c25 : Tryz.prog.cellsOf 25 = 2 := by kernel_rfl
theorem c26 : Tryz.prog.cellsOf 26 = 1 := by kernel_rfl
theorem c38 : Tryz.prog.cellsOf 38 = 3 := by kernel_rfl
theorem c40 : Tryz.prog.cellsOf 40 = 9 := by kernel_rfl
theorem c49 : Tryz.prog.cellsOf 49 = 1 := by kernel_rfl
theorem c51 : Tryz.prog.cellsOf 51 = 2 := by kernel_rfl
theorem c54 : Tryz.prog.cellsOf 54 = 4 := by kernel_rfl
theorem c78 : Tryz.prog.cellsOf 78 = 2 := by kernel_rfl
theorem c228 : Tryz.prog.cellsOf 228 = 1 := by kernel_rfl
theorem c229 : Tryz.prog.cellsOf 229 = 1 := by kernel_rfl
theorem c230 : Tryz.prog.cellsOf 230 = 1 := by kernel_rfl
theorem c231 : Tryz.prog.cellsOf 231 = 1 := by kernel_rfl
theorem c233 : Tryz.prog.cellsOf 233 = 5 := by kernel_rfl
section
variable {F : Addr → Option Value} {hg : Gl F} {H : Type} {enc : TypeId × Value → H} {w : World} {sp : Nat → Bool} {held : Bool} {f : Nat} {cs : List Value} {d : DataW H} {p : List MemPlace}
theorem rd_last {a : List V} {cs : List Value} {off n : Nat} (h1 : Rd F hg a ((cs.drop off).take n)) (h : cs.length = off + n) : Rd F hg a (cs.drop off) := by
 rwa [List.take_of_length_le (by simp; omega)] at h1
theorem rd_num (h : DataW.trod enc Tryz.prog w 0 sp held f 3 cs = some (d, p)) : ∃ n : Int, Rd F hg [num n] cs ∧ 1 ≤ Rows.uptoBulk d := by
 cases f with
 | zero => simp [DataW.trod] at h
 | succ f => obtain ⟨n, rfl, rfl⟩ := trod_int Tryz.underlying3 h; exact ⟨n, rd_one rfl, by simp [Rows.uptoBulk]⟩
theorem rd_str (h : DataW.trod enc Tryz.prog w 0 sp held f 9 cs = some (d, p)) : ∃ s : ByteArray, Rd F hg [str s] cs ∧ s.size + 1 ≤ Rows.uptoBulk d := by
 cases f with
 | zero => simp [DataW.trod] at h
 | succ f =>
  obtain ⟨n, rfl, rfl⟩ := trod_string Tryz.underlying9 h
  exact ⟨n, rd_one rfl, by simp only [Rows.uptoBulk,Array.length_toList]; exact Nat.le_refl _⟩
theorem rd_bl (h : DataW.trod enc Tryz.prog w 0 sp held f 4 cs = some (d, p)) : ∃ b : Bool, Rd F hg [bl b] cs := by
 cases f with
 | zero => simp [DataW.trod] at h
 | succ f => obtain ⟨n, rfl, -⟩ := trod_bool Tryz.underlying4 h; exact ⟨n, rd_one rfl⟩
theorem rd_sl {T T' : TypeId} {α : Type} {row : α → V} {g : α → Nat} {n : Nat} (hF : F = w.cell?) (hT : Tryz.prog.underlying T = some (.slice T')) (hn : Tryz.prog.cellsOf T' = n)
  (hr : ∀ f', f' < f → ∀ {cs : List Value} {d : DataW H} {p : List MemPlace}, DataW.trod enc Tryz.prog w 0 sp held f' T' cs = some (d, p) → ∃ a : α, Rd F hg (row a).cells cs ∧ g a ≤ Rows.uptoBulk d)
  (h : DataW.trod enc Tryz.prog w 0 sp held f T cs = some (d, p)) : ∃ l : List α, Rd F hg [.slice (l.map row)] cs ∧ sumBy g l + 1 ≤ Rows.uptoBulk d := by
 cases f with
 | zero => simp [DataW.trod] at h
 | succ f => exact rd_slice hF hT hn (fun h => hr f (Nat.lt_succ_self f) h) h
theorem rd_any {T T' : TypeId} (hT : Tryz.prog.underlying T = some (.slice T')) (h : DataW.trod enc Tryz.prog w 0 sp held f T cs = some (d, p)) : Rd F hg [.undef] cs := by
 cases f with
 | zero => simp [DataW.trod] at h
 | succ f =>
  rcases trod_slice hT h with ⟨rfl, -⟩ | ⟨a, cap, elems, spare, rfl, -⟩
  ·exact ⟨.cons (.undef _ _) (.nil _), by simp [Value.oneCell']⟩
  ·exact ⟨.cons (.undef _ _) (.nil _), by simp [Value.oneCell']⟩
def wSpn (_ : Spn) : Nat := 1
def wRq (q : Rq) : Nat := q.path.size + q.set.length + 1
def wRl (r : Rl) : Nat := r.path.size + r.ar.size + r.itf.size + r.ce.size + sumBy wRq r.reqs + 1
def wSel (s : Sel) : Nat := s.path.size + 1
theorem sum_one {α : Type} (l : List α) : sumBy (fun _ => 1) l = l.length := by induction l with | nil => rfl | cons a t ih => simp [sumBy, ih]; omega
theorem rd_spn (h : DataW.trod enc Tryz.prog w 0 sp held f 78 cs = some (d, p)) : ∃ x : Spn, Rd F hg (encSpn x).cells cs ∧ wSpn x ≤ Rows.uptoBulk d := by
 cases f with
 | zero => simp [DataW.trod] at h
 | succ f =>
  obtain ⟨hl, d0, p0, h0, d1, p1, h1, rfl⟩ := trod_parts Tryz.underlying78 h
  simp only [c3] at h0 h1
  rw [c78] at hl
  obtain ⟨a, ha, b0⟩ := rd_num (F := F) (hg := hg) h0
  obtain ⟨b, hb, b1⟩ := rd_num (F := F) (hg := hg) h1
  refine ⟨⟨a, b⟩, ?_, ?_⟩
  ·exact rd_step (a := [num a]) (off := 0) ha (rd_last (a := [num b]) hb hl)
  ·simp only [Rows.uptoBulk,Rows.uptoBulkAll,wSpn]; omega
theorem rd_set (hF : F = w.cell?) (h : DataW.trod enc Tryz.prog w 0 sp held f 49 cs = some (d, p)) : ∃ l : List Spn, Rd F hg [.slice (l.map encSpn)] cs ∧ l.length + 1 ≤ Rows.uptoBulk d := by
 obtain ⟨l, h1, h2⟩ := rd_sl (F := F) (hg := hg) (row := encSpn) (g := wSpn) hF Tryz.underlying49 c78 (fun f' _ {cs d p} h => rd_spn h) h
 exact ⟨l, h1, by rw [← sum_one l]; exact h2⟩
theorem rd_rq (hF : F = w.cell?) (h : DataW.trod enc Tryz.prog w 0 sp held f 51 cs = some (d, p)) : ∃ x : Rq, Rd F hg (encRq x).cells cs ∧ wRq x ≤ Rows.uptoBulk d := by
 cases f with
 | zero => simp [DataW.trod] at h
 | succ f =>
  obtain ⟨hl, d0, p0, h0, d1, p1, h1, rfl⟩ := trod_parts Tryz.underlying51 h
  simp only [c9,c49] at h0 h1
  rw [c51] at hl
  obtain ⟨a, ha, b0⟩ := rd_str (F := F) (hg := hg) h0
  obtain ⟨l, hl2, b1⟩ := rd_set (F := F) (hg := hg) hF h1
  refine ⟨⟨a, l⟩, ?_, ?_⟩
  ·exact rd_step (a := [str a]) (off := 0) ha (rd_last (a := [.slice (l.map encSpn)]) hl2 hl)
  ·simp only [Rows.uptoBulk,Rows.uptoBulkAll,wRq]; omega
theorem rd_rqs (hF : F = w.cell?) (h : DataW.trod enc Tryz.prog w 0 sp held f 26 cs = some (d, p)) : ∃ l : List Rq, Rd F hg [.slice (l.map encRq)] cs ∧ sumBy wRq l + 1 ≤ Rows.uptoBulk d :=
 rd_sl (row := encRq) (g := wRq) hF Tryz.underlying26 c51 (fun f' _ {cs d p} h => rd_rq hF h) h
theorem rd_ver (h : DataW.trod enc Tryz.prog w 0 sp held f 38 cs = some (d, p)) : ∃ v : Ver, Rd F hg [num v.mj, num v.mn, num v.pt] cs := by
 cases f with
 | zero => simp [DataW.trod] at h
 | succ f =>
  obtain ⟨hl, d0, p0, h0, d1, p1, h1, d2, p2, h2, rfl⟩ := trod_parts Tryz.underlying38 h
  simp only [c3] at h0 h1 h2
  rw [c38] at hl
  obtain ⟨a, ha, -⟩ := rd_num (F := F) (hg := hg) h0
  obtain ⟨b, hb, -⟩ := rd_num (F := F) (hg := hg) h1
  obtain ⟨c, hc, -⟩ := rd_num (F := F) (hg := hg) h2
  exact ⟨⟨a, b, c⟩, rd_step (a := [num a]) (off := 0) ha (rd_step (a := [num b]) hb (rd_last (a := [num c]) hc hl))⟩
theorem rd_rl (hF : F = w.cell?) (h : DataW.trod enc Tryz.prog w 0 sp held f 40 cs = some (d, p)) : ∃ x : Rl, Rd F hg (encRl x).cells cs ∧ wRl x ≤ Rows.uptoBulk d := by
 cases f with
 | zero => simp [DataW.trod] at h
 | succ f =>
  obtain ⟨hl, d0, p0, h0, d1, p1, h1, d2, p2, h2, d3, p3, h3, d4, p4, h4, d5, p5, h5, d6, p6, h6, rfl⟩ := trod_parts Tryz.underlying40 h
  simp only [c9,c38,c26,c4] at h0 h1 h2 h3 h4 h5 h6
  rw [c40] at hl
  obtain ⟨x0, a0, b0⟩ := rd_str (F := F) (hg := hg) h0
  obtain ⟨x1, a1⟩ := rd_ver (F := F) (hg := hg) h1
  obtain ⟨x2, a2, b2⟩ := rd_rqs (F := F) (hg := hg) hF h2
  obtain ⟨x3, a3, b3⟩ := rd_str (F := F) (hg := hg) h3
  obtain ⟨x4, a4, b4⟩ := rd_str (F := F) (hg := hg) h4
  obtain ⟨x5, a5, b5⟩ := rd_str (F := F) (hg := hg) h5
  obtain ⟨x6, a6⟩ := rd_bl (F := F) (hg := hg) h6
  refine ⟨⟨x0, x1, x2, x3, x4, x5, x6⟩, ?_, ?_⟩
  ·show Rd F hg ([str x0] ++ [num x1.mj, num x1.mn, num x1.pt] ++ [.slice (x2.map encRq)] ++ [str x3] ++ [str x4] ++ [str x5] ++ [bl x6]) (cs.drop 0)
   simp only [List.append_assoc]
   exact rd_step (a := [str x0]) (off := 0) a0 (rd_step (a := [num x1.mj, num x1.mn, num x1.pt]) a1 (rd_step (a := [.slice (x2.map encRq)]) a2 (rd_step (a := [str x3]) a3 (rd_step (a := [str x4]) a4 (rd_step (a := [str x5]) a5 (rd_last (a := [bl x6]) a6 hl))))))
  ·simp only [Rows.uptoBulk,Rows.uptoBulkAll,wRl]; omega
theorem rd_rls (hF : F = w.cell?) (h : DataW.trod enc Tryz.prog w 0 sp held f 22 cs = some (d, p)) : ∃ l : List Rl, Rd F hg [.slice (l.map encRl)] cs ∧ sumBy wRl l + 1 ≤ Rows.uptoBulk d :=
 rd_sl (row := encRl) (g := wRl) hF Tryz.underlying22 c40 (fun f' _ {cs d p} h => rd_rl hF h) h
theorem rd_sel (h : DataW.trod enc Tryz.prog w 0 sp held f 54 cs = some (d, p)) : ∃ x : Sel, Rd F hg (encSel x).cells cs ∧ wSel x ≤ Rows.uptoBulk d := by
 cases f with
 | zero => simp [DataW.trod] at h
 | succ f =>
  obtain ⟨hl, d0, p0, h0, d1, p1, h1, rfl⟩ := trod_parts Tryz.underlying54 h
  simp only [c9,c38] at h0 h1
  rw [c54] at hl
  obtain ⟨x0, a0, b0⟩ := rd_str (F := F) (hg := hg) h0
  obtain ⟨x1, a1⟩ := rd_ver (F := F) (hg := hg) h1
  refine ⟨⟨x0, x1⟩, ?_, ?_⟩
  ·exact rd_step (a := [str x0]) (off := 0) a0 (rd_last (a := [num x1.mj, num x1.mn, num x1.pt]) a1 hl)
  ·simp only [Rows.uptoBulk,Rows.uptoBulkAll,wSel]; omega
theorem rd_sels (hF : F = w.cell?) (h : DataW.trod enc Tryz.prog w 0 sp held f 27 cs = some (d, p)) : ∃ l : List Sel, Rd F hg [.slice (l.map encSel)] cs ∧ sumBy wSel l + 1 ≤ Rows.uptoBulk d :=
 rd_sl (row := encSel) (g := wSel) hF Tryz.underlying27 c54 (fun f' _ {cs d p} h => rd_sel h) h
def anyItf (_ : Unit) : V := .agg [.undef, .undef, .undef, .undef, .undef]
theorem rd_itf (h : DataW.trod enc Tryz.prog w 0 sp held f 233 cs = some (d, p)) : ∃ x : Unit, Rd F hg (anyItf x).cells cs ∧ 0 ≤ Rows.uptoBulk d := by
 cases f with
 | zero => simp [DataW.trod] at h
 | succ f =>
  obtain ⟨hl, d0, p0, h0, d1, p1, h1, d2, p2, h2, d3, p3, h3, d4, p4, h4, rfl⟩ := trod_parts Tryz.underlying233 h
  simp only [c9,c228,c229,c230,c231] at h0 h1 h2 h3 h4
  rw [c233] at hl
  obtain ⟨x0, a0, -⟩ := rd_str (F := F) (hg := hg) h0
  have a0' : Rd F hg [.undef] ((cs.drop 0).take 1) := ⟨⟨a0.1.1, fun i v x hv hx => by
   match i with
   | 0 => simp at hv; subst hv; exact .undef _ _
   | i + 1 => simp at hv⟩, a0.2⟩
  refine ⟨(), ?_, Nat.zero_le _⟩
  exact rd_step (a := [.undef]) (off := 0) a0' (rd_step (a := [.undef]) (rd_any Tryz.underlying228 h1) (rd_step (a := [.undef]) (rd_any Tryz.underlying229 h2) (rd_step (a := [.undef]) (rd_any Tryz.underlying230 h3) (rd_last (a := [.undef]) (rd_any Tryz.underlying231 h4) hl))))
theorem rd_ix (hF : F = w.cell?) (h : DataW.trod enc Tryz.prog w 0 sp held f 25 cs = some (d, p)) : ∃ (l : List Rl) (I : List V), Rd F hg [.slice (l.map encRl), .slice I] cs ∧ sumBy wRl l + 1 ≤ Rows.uptoBulk d := by
 cases f with
 | zero => simp [DataW.trod] at h
 | succ f =>
  obtain ⟨hl, d0, p0, h0, d1, p1, h1, rfl⟩ := trod_parts Tryz.underlying25 h
  simp only [c22,c23] at h0 h1
  rw [c25] at hl
  obtain ⟨l, hl2, b0⟩ := rd_rls (F := F) (hg := hg) hF h0
  obtain ⟨us, hu, -⟩ := rd_sl (F := F) (hg := hg) (row := anyItf) (g := fun _ => 0) hF Tryz.underlying23 c233 (fun f' _ {cs d p} h => rd_itf h) h1
  refine ⟨l, us.map anyItf, ?_, ?_⟩
  ·exact rd_step (a := [.slice (l.map encRl)]) (off := 0) hl2 (rd_last (a := [.slice (us.map anyItf)]) hu hl)
  ·simp only [Rows.uptoBulk,Rows.uptoBulkAll]; omega
theorem rqB_of {q : Rq} (h : wRq q ≤ 1048576) : RqB q := by unfold wRq at h; exact ⟨by omega, by omega⟩
theorem rqs_B {l : List Rq} (h : sumBy wRq l ≤ 1048576) : l.length ≤ 1048576 ∧ ∀ q ∈ l, RqB q := by
 refine ⟨Nat.le_trans (length_le_sum wRq (fun q => by unfold wRq; omega) l) h, fun q hq => ?_⟩
 obtain ⟨i, hi⟩ := List.mem_iff_getElem?.1 hq
 exact rqB_of (Nat.le_trans (sumBy_mem wRq hi) h)
theorem rlB_of {r : Rl} (h : wRl r ≤ 1048576) : RlB r := by
 unfold wRl at h
 have := rqs_B (l := r.reqs) (by omega)
 exact ⟨by omega, this.1, this.2⟩
theorem ixB_of {l : List Rl} (h : sumBy wRl l ≤ 1048576) : IxB l := by
 refine ⟨Nat.le_trans (length_le_sum wRl (fun q => by unfold wRl; omega) l) h, fun r hr => ?_⟩
 obtain ⟨i, hi⟩ := List.mem_iff_getElem?.1 hr
 exact rlB_of (Nat.le_trans (sumBy_mem wRl hi) h)
theorem sels_B {l : List Sel} (h : sumBy wSel l ≤ 1048576) : l.length ≤ 1048576 := Nat.le_trans (length_le_sum wSel (fun q => by unfold wSel; omega) l) h
end
end Go.Proofs.YtnfeacnbgbggfaaGreatDoor
end

section
namespace Go.Proofs.YtnfeacnbgbggfaaGreatDoor
open Go.Eng
open Nat (reduceAdd reduceLT reduceLeDiff reduceMul reduceEqDiff reduceSub)
variable [Glob]
set_option maxHeartbeats 4000000
set_option maxRecDepth 100000
attribute [local irreducible] runM stepM valD stepOp stepD callF callS stepTm callTm callRel appSQ
def u8V (b : UInt8) : V := .sc (.int .u8 (b.toNat : Int))
def u64V (n : Nat) : V := .sc (.int .u64 (n : Int))
def bs (l : List UInt8) : ByteArray := ⟨l.toArray⟩
theorem bs_size (l : List UInt8) : (bs l).size = l.length := by simp [bs, ByteArray.size]
theorem bytesL_bs (l : List UInt8) : bytesL (bs l) = l := by simp [bytesL, bs]
theorem bs_bytesL (s : ByteArray) : bs (bytesL s) = s := ba_of_list (bytesL_bs _)
theorem bytesL_app (a b : ByteArray) : bytesL (a ++ b) = bytesL a ++ bytesL b := by unfold bytesL; rw [ByteArray.data_append, Array.toList_append]
theorem bs_app (a b : List UInt8) : bs a ++ bs b = bs (a ++ b) := ba_of_list (by rw [bytesL_app, bytesL_bs, bytesL_bs, bytesL_bs])
theorem bs_text (t : ByteArray) : bs (uv t.size) ++ t = bs (eT t) := by
 have h : bs (uv t.size) ++ bs (bytesL t) = bs (eT t) := bs_app _ _
 rwa [bs_bytesL] at h
theorem byteNums_u8 : ∀ l : List UInt8, byteNums (l.map u8V) = some (l.map fun b => (b.toNat : Int))
 | [] => rfl
 | b :: r => by
  show (match byteNums (r.map u8V) with | some l => some ((b.toNat : Int) :: l) | none => none) = _
  rw [byteNums_u8 r]; rfl
theorem strOfNums_u8 (l : List UInt8) : strOfNums (l.map fun b => (b.toNat : Int)) = bs l := by
 unfold strOfNums bs
 rw [List.map_map]
 congr 2
 conv => rhs; rw [← List.map_id l]
 exact List.map_congr_left fun b _ => by simp
theorem conv_u8 {mem : List Blk} {b v : Nat} (l : List UInt8) (h : mem[b]? = some (.rows v 1 (l.map u8V))) : convV Tryz.prog mem 159 9 (.ms b v 0 l.length) = some (str (bs l)) := by
 have hs : Tryz.prog.underlying 159 = some (.slice 5) := by kernel_rfl
 have he : Tryz.prog.underlying 5 = some (.int .u8) := by kernel_rfl
 have hd : Tryz.prog.underlying 9 = some .string := by kernel_rfl
 have ht : ((l.map u8V).drop 0).take l.length = l.map u8V := List.take_of_length_le (by simp)
 simp only [convV,h,true_and,List.length_map,Nat.zero_add,Nat.le_refl,if_true,ht,bytesV,hs,he,hd,byteNums_u8,strOfNums_u8]
theorem uv_len : ∀ (k n : Nat), n < 2 ^ (7 * (k + 1)) → (uv n).length ≤ k + 1
 | 0, n, h => by rw [uv_small (by simpa using h)]; simp
 | k + 1, n, h => by
  by_cases hn : n < 128
  ·rw [uv_small hn]; simp
  ·rw [uv_big hn, List.length_cons]
   have hp : 2 ^ (7 * (k + 1 + 1)) = 2 ^ (7 * (k + 1)) * 128 := by rw [show (128 : Nat) = 2 ^ 7 from rfl, ← Nat.pow_add]; congr 1
   have := uv_len k (n / 128) (Nat.div_lt_of_lt_mul (by rw [Nat.mul_comm, ← hp]; exact h))
   omega
theorem uv_len10 {n : Nat} (h : n < 2 ^ 64) : (uv n).length ≤ 10 := uv_len 9 n (Nat.lt_of_lt_of_le h (Nat.pow_le_pow_right (by omega) (by omega)))
theorem uv_pos (n : Nat) : 0 < (uv n).length := by rw [uv]; split <;> simp
def bitOr (k : IntKind) (a b : Int) : Int := k.wrap (BitVec.ofInt k.bits a ||| BitVec.ofInt k.bits b).toNat
theorem ev_or (T : TypeId) (x y : Operand) (k : IntKind) (a b : Int) : lift2 Tryz.prog (opB .or T x y) (.sc (.int k a)) (.sc (.int k b)) = some (.sc (.int k (bitOr k a b))) := by
 simp [lift2, toVal, opB, binOp, eqGuard, scRunP, bind, pure, Sem.bind, Op.intBits, absV, bitOr]
theorem ev_shl (T : TypeId) (x y : Operand) (k k' : IntKind) (a b : Int) (hb : ¬ b < 0) : lift2 Tryz.prog (opB .shl T x y) (.sc (.int k a)) (.sc (.int k' b)) = some (.sc (.int k (k.wrap (a * 2 ^ min b.toNat k.bits)))) := by
 simp [lift2, toVal, opB, binOp, Op.shift, eqGuard, scRunP, absV, bind, pure, Sem.bind, hb]
theorem or128_all : (List.range 256).all (fun a => bitOr .u8 (a : Int) 128 == ((a % 128 + 128 : Nat) : Int)) = true := by kernel_rfl
theorem or128 (a : Nat) (h : a < 256) : bitOr .u8 (a : Int) 128 = ((a % 128 + 128 : Nat) : Int) := by
 have := List.all_eq_true.1 or128_all a (by simpa using h)
 simpa using this
theorem and127_all : (List.range 256).all (fun a => andI .u8 (a : Int) 127 == ((a % 128 : Nat) : Int)) = true := by kernel_rfl
theorem and127 (a : Nat) (h : a < 256) : andI .u8 (a : Int) 127 = ((a % 128 : Nat) : Int) := by
 have := List.all_eq_true.1 and127_all a (by simpa using h)
 simpa using this
theorem wrap8 (n : Nat) : IntKind.u8.wrap (n : Int) = ((n % 256 : Nat) : Int) := by
 simp [IntKind.wrap, IntKind.signed, IntKind.bits]
theorem wrap64 (n : Nat) (h : n < 2 ^ 64) : IntKind.u64.wrap (n : Int) = (n : Int) := by
 simp [IntKind.wrap, IntKind.signed, IntKind.bits]
 omega
theorem u8_or (n : Nat) : bitOr .u8 (IntKind.u8.wrap (n : Int)) 128 = ((UInt8.ofNat (n % 128 + 128)).toNat : Int) := by
 rw [wrap8, or128 _ (Nat.mod_lt _ (by omega)), toNat_small (by omega)]; omega
theorem u8_lo (n : Nat) (h : n < 128) : IntKind.u8.wrap (n : Int) = ((UInt8.ofNat n).toNat : Int) := by
 rw [wrap8, toNat_small (by omega)]; omega
theorem shr7 (n : Nat) : ((n : Int)).fdiv (2 ^ min (7 : Int).toNat IntKind.u64.bits) = ((n / 128 : Nat) : Int) := by
 show ((n : Int)).fdiv ((128 : Nat) : Int) = _
 rw [Int.fdiv_eq_ediv_of_nonneg _ (by omega)]; omega
theorem ev_shr7 (x y : Operand) (k' : IntKind) (n : Nat) : lift2 Tryz.prog (opB .shr 136 x y) (.sc (.int .u64 (n : Int))) (.sc (.int k' 7)) = some (u64V (n / 128)) := by
 rw [ev_shr Tryz.prog 136 x y .u64 k' n 7 (by omega), shr7]; rfl
theorem unsigned_ok (n : Nat) (hn : n < 2 ^ 64) : FnOk Tryz.prog 93 [u64V n] (str (bs (uv n))) := by
 refine fn_t tt_ok (fn := Tryz.f93) Tryz.func93 rfl Tryz.call93 ?_
 simp only [ltb,startSt,Tryz.ntmps93,List.length_cons,List.length_nil,reduceAdd,reduceSub,List.replicate_succ,List.replicate_zero]
 have hT5 : Tryz.prog.underlying 5 = some (.int .u8) := by kernel_rfl
 have hT136 : Tryz.prog.underlying 136 = some (.int .u64) := by kernel_rfl
 have hT3 : Tryz.prog.underlying 3 = some (.int .i64) := by kernel_rfl
 have cv1 := fun (k : IntKind) (n : Int) => ev_conv (P := Tryz.prog) (src := 136) (dst := 5) hT136 hT5 k n
 have cv2 := fun (k : IntKind) (n : Int) => ev_conv (P := Tryz.prog) (src := 3) (dst := 136) hT3 hT136 k n
 have hln := uv_len10 hn
 refine t_region_w tt_ok 20 [0,0,2] [] rfl rfl fun K hK => ?_
 try simp only [ltb]
 simp only [u64V,go_sem]
 refine hK _ _ rfl ?_
 simp only [mwb,reduceAdd]
 refine t_region_w tt_ok 20 [0,0,0,2] [] rfl rfl fun K hK => ?_
 try simp only [ltb]
 simp only [u64V,go_sem]
 refine hK _ _ rfl ?_
 simp only [mwb,reduceAdd]
 refine t_seq ?_
 refine t_block ?_
 refine tri_nilMs 3 0 1 rfl ?_
 simp only [List.set_cons_zero,List.set_cons_succ,List.length_nil,List.nil_append]
 refine t_loopF (fun a : List UInt8 × Nat => { fr := [u64V a.2, .undef, .undef, .ms 0 a.1.length 0 a.1.length, .undef, .undef, .undef, .undef, .undef, .undef, .undef, .undef, .undef, .undef, .undef, .undef, .undef, .undef, .undef, .undef], mem := [.rows a.1.length 1 (a.1.map u8V)] }) (fun a => a.2) (fun a => a.1 ++ uv a.2 = uv n ∧ a.2 < 2 ^ 64) (([], n)) 1 [true,false,false,true] (by omega) (by simp only [u64V,maskFr,belowV,reduceLT,mkb]) (by simp only [List.all_cons,List.all_nil,belowB,Bool.and_self,List.take_succ_cons,List.take_nil]) (by simp only [u64V,maskFr,List.map_nil,List.length_nil,u64V,mkb] <;> rfl) (⟨rfl, hn⟩) ?_
 rintro ⟨p, m⟩ ⟨hp, hm⟩
 dsimp only at hp hm
 dsimp only [u64V]
 have hpl : p.length + (uv m).length ≤ 10 := by have := congrArg List.length hp; rw [List.length_append] at this; omega
 have hbd : p.length + 1 ≤ 34359738368 := by omega
 refine t_seq ?_
 refine t_region_w tt_ok 20 [0,0,0,0,1,2] [] rfl rfl fun K hK => ?_
 simp only [ltb,go_sem,reduceLT]
 refine hK _ _ rfl ?_
 simp only [mwb,reduceAdd,reduceEqDiff]
 refine t_if rfl (fun hc5 => ?_) (fun hc5 => ?_)
 ·have hbig : ¬ m < 128 := by have := of_decide_eq_true hc5; omega
  have hor := u8_or m
  have hsh := fun x y k => ev_shr7 x y k m
  have hfo : ∀ x : Int, firstOk [V.sc (.int .u8 x)] 0 1 = true := fun x => rfl
  refine t_skip ?_
  show Tri _ _ _ _ _ _
  refine t_block ?_
  refine t_region_w tt_ok 20 [0,0,0,2,0,0,1,1,1,1,1,1] [] rfl rfl fun K hK => ?_
  try simp only [ltb]
  simp only [hor,hbd,List.length_cons,List.length_nil,Nat.zero_add,cv1,ev_or,List.length_map,go_sem,reduceLT,reduceLeDiff,reduceMul,reduceEqDiff,reduceCtorEq]
  refine hK _ _ rfl ?_
  simp only [mwb,reduceAdd,reduceEqDiff]
  refine t_last_region_w tt_ok 20 (2::(rp 11 0 [2,2])) [] (by kernel_rfl) rfl rfl fun K hK => ?_
  try simp only [ltb]
  simp only [hsh,List.length_cons,List.length_nil,Nat.zero_add,u64V,go_sem,reduceAdd,reduceLT,reduceEqDiff]
  refine hK _ _ rfl ?_
  simp only [mwb,reduceAdd,reduceEqDiff]
  refine ⟨(p ++ [UInt8.ofNat (m % 128 + 128)], m / 128), ?_, ?_, 1, [true,false,false,true], by omega, by simp only [maskFr,belowV,reduceLT,mkb], by simp only [ltb,List.all_cons,List.all_nil,belowB,Bool.and_self], by (simp [rp,maskFr, List.map_append, u8V])⟩
  ·refine ⟨?_, by dsimp only; omega⟩
   rw [← hp, uv_big hbig, List.append_assoc]; rfl
  ·dsimp only; omega
 ·have hsm : m < 128 := by have := of_decide_eq_false hc5; omega
  have hlo := u8_lo m hsm
  have hfo : ∀ x : Int, firstOk [V.sc (.int .u8 x)] 0 1 = true := fun x => rfl
  have hp2 : p ++ [UInt8.ofNat m] = uv n := by rw [← hp, uv_small hsm]
  have hcv : ∀ mem : List Blk, mem[0]? = some (.rows (p.length + 1) 1 (p.map u8V ++ [V.sc (.int .u8 ((UInt8.ofNat m).toNat : Int))])) → convV Tryz.prog mem 159 9 (.ms 0 (p.length + 1) 0 (p.length + 1)) = some (str (bs (uv n))) := fun mem hm => by
   have h := conv_u8 (b := 0) (v := p.length + 1) (p ++ [UInt8.ofNat m]) (mem := mem) (by rw [hm]; simp [u8V])
   rw [hp2] at h
   rw [← h, ← hp2, List.length_append]; rfl
  refine t_exit ?_
  show Tri _ _ _ _ _ _
  refine t_region_w tt_ok 20 (0::0::2::(rp 11 0 [1,1,1,1,1,1])) [] rfl rfl fun K hK => ?_
  try simp only [ltb]
  simp only [hlo,hbd,hcv,List.length_append,List.length_cons,List.length_nil,Nat.zero_add,cv1,List.length_map,go_sem,reduceLT,reduceLeDiff,reduceMul,reduceEqDiff,reduceCtorEq]
  refine hK _ _ rfl ?_
  simp only [mwb,reduceAdd,reduceEqDiff]
  refine t_ret ?_
  exact ⟨.inl rfl, rfl⟩
theorem text_ok (s : ByteArray) (hs : s.size ≤ 1048576) : ∃ r_, (fun w => w = str (bs (eT s))) r_ ∧ FnOk Tryz.prog 58 [str s] r_ := by
 refine fn_ex tt_ok (fn := Tryz.f58) Tryz.func58 rfl Tryz.call58 ?_
 simp only [ltb,startSt,Tryz.ntmps58,List.length_cons,List.length_nil,reduceAdd,reduceSub,List.replicate_succ,List.replicate_zero]
 have hT9 : Tryz.prog.underlying 9 = some .string := by kernel_rfl
 have sl : ∀ (a : ByteArray) (ty : TypeId), liftL Tryz.prog (Builtin.len_ #[9] ty) [.sc (.string a)] = some (num a.size) := fun a ty => ev_slen (P := Tryz.prog) (tt := tt) (T := 9) a hT9 ty
 have hT5 : Tryz.prog.underlying 5 = some (.int .u8) := by kernel_rfl
 have hT136 : Tryz.prog.underlying 136 = some (.int .u64) := by kernel_rfl
 have hT3 : Tryz.prog.underlying 3 = some (.int .i64) := by kernel_rfl
 have cv1 := fun (k : IntKind) (n : Int) => ev_conv (P := Tryz.prog) (src := 136) (dst := 5) hT136 hT5 k n
 have cv2 := fun (k : IntKind) (n : Int) => ev_conv (P := Tryz.prog) (src := 3) (dst := 136) hT3 hT136 k n
 have hw := wrap64 s.size (by omega)
 have hsa := fun x y => ev_sadd Tryz.prog 9 x y (bs (uv s.size)) s (by have := uv_len10 (n := s.size) (by omega); rw [bs_size, show IntKind.i64.max = 9223372036854775807 from rfl]; omega)
 have hbt := bs_text s
 refine ex_region_w tt_ok 9 [0,0,2] [] rfl rfl fun K hK => ?_
 simp only [ltb,go_sem]
 refine hK _ _ rfl ?_
 simp only [mwb,reduceAdd]
 refine ex_region_w tt_ok 9 [0,0,2,1,1,1,1,1,1] [] rfl rfl fun K hK => ?_
 refine runX_cut 4 fun K1 hK1 => ?_
 simp only [ltb]
 simp only [sl,cv2,hw,go_sem,reduceLT,reduceEqDiff]
 refine callF_ex (⟨_, rfl, unsigned_ok s.size (by omega)⟩) ?_
 rintro _ rfl
 try simp only [go_sem]
 refine hK1 _ ?_
 try simp only [ltb]
 simp only [hsa,hbt,go_sem,reduceLT,reduceEqDiff,reduceCtorEq]
 refine hK _ _ rfl ?_
 simp only [mwb,reduceAdd,reduceEqDiff]
 exact ex_ret ⟨.inl rfl, _, rfl, rfl⟩
theorem uint_ok (n : Nat) (hn : n < 2 ^ 63) : ∃ r_, (fun w => w = .tup [str (bs (uv n)), num 0]) r_ ∧ FnOk Tryz.prog 56 [num n] r_ := by
 refine fn_ex tt_ok (fn := Tryz.f56) Tryz.func56 rfl Tryz.call56 ?_
 simp only [ltb,startSt,Tryz.ntmps56,List.length_cons,List.length_nil,reduceAdd,reduceSub,List.replicate_succ,List.replicate_zero]
 have hT5 : Tryz.prog.underlying 5 = some (.int .u8) := by kernel_rfl
 have hT136 : Tryz.prog.underlying 136 = some (.int .u64) := by kernel_rfl
 have hT3 : Tryz.prog.underlying 3 = some (.int .i64) := by kernel_rfl
 have cv1 := fun (k : IntKind) (n : Int) => ev_conv (P := Tryz.prog) (src := 136) (dst := 5) hT136 hT5 k n
 have cv2 := fun (k : IntKind) (n : Int) => ev_conv (P := Tryz.prog) (src := 3) (dst := 136) hT3 hT136 k n
 have hw := wrap64 n (by omega)
 refine ex_region_w tt_ok 9 [0,0,2,2] [] rfl rfl fun K hK => ?_
 simp only [ltb,go_sem]
 refine hK _ _ rfl ?_
 simp only [mwb,reduceAdd,reduceEqDiff]
 refine ex_seq ?_
 refine ex_region_w tt_ok 9 [0,0,0,0,1,2] [] rfl rfl fun K hK => ?_
 simp only [ltb,go_sem,reduceLT]
 refine hK _ _ rfl ?_
 simp only [mwb,reduceAdd,reduceEqDiff]
 refine ex_if rfl (fun hc5 => ?_) (fun hc5 => ?_)
 ·exact absurd (of_decide_eq_true hc5) (by omega)
 ·refine ex_skip ?_
  show Go.Eng.Ex _ _ _ _ _ _
  refine ex_region_w tt_ok 9 [0,0,2,2,0,0,1,1,1] [] rfl rfl fun K hK => ?_
  refine runX_cut 3 fun K1 hK1 => ?_
  simp only [ltb]
  simp only [cv2,hw,go_sem,reduceLT,reduceEqDiff]
  refine callF_ex (⟨_, rfl, unsigned_ok n (by omega)⟩) ?_
  rintro _ rfl
  try simp only [go_sem]
  refine hK1 _ ?_
  simp only [ltb,go_sem,reduceLT,reduceEqDiff]
  refine hK _ _ rfl ?_
  simp only [mwb,reduceAdd,reduceEqDiff]
  exact ex_ret ⟨.inl rfl, _, rfl, rfl⟩
end Go.Proofs.YtnfeacnbgbggfaaGreatDoor
end

section
namespace Go.Proofs.YtnfeacnbgbggfaaGreatDoor
open Go.Eng
open Nat (reduceAdd reduceLT reduceLeDiff reduceMul reduceEqDiff reduceSub)
variable [Glob]
set_option maxHeartbeats 4000000
set_option maxRecDepth 100000
attribute [local irreducible] runM stepM valD stepOp stepD callF callS
theorem sadd_bs (A B : List UInt8) (h : A.length + B.length ≤ 4611686018427387904) (x y : Operand) : lift2 Tryz.prog (opB .add 9 x y) (str (bs A)) (str (bs B)) = some (str (bs (A ++ B))) := by
 rw [← bs_app]
 exact ev_sadd Tryz.prog 9 x y (bs A) (bs B) (by rw [bs_size, bs_size, show IntKind.i64.max = 9223372036854775807 from rfl]; omega)
def uvI (n : Int) : List UInt8 := uv n.toNat
theorem uintI_ok (n : Int) (h0 : 0 ≤ n) (h : n < 9223372036854775808) : ∃ r_, (fun w => w = .tup [str (bs (uvI n)), num 0]) r_ ∧ FnOk Tryz.prog 56 [num n] r_ := by
 obtain ⟨k, rfl⟩ : ∃ k : Nat, n = k := ⟨n.toNat, by omega⟩
 exact uint_ok k (by omega)
theorem uvI_len {n : Int} (h0 : 0 ≤ n) (h : n < 9223372036854775808) : (uvI n).length ≤ 10 := uv_len10 (by omega)
theorem eT_len (t : ByteArray) (h : t.size ≤ 1048576) : (eT t).length ≤ 1048586 := by
 unfold eT; rw [List.length_append, bytesL_length]
 have := uv_len10 (n := t.size) (by omega)
 omega
theorem flat_len {α β : Type} {g : α → List β} {k : Nat} : ∀ {l : List α}, (∀ x ∈ l, (g x).length ≤ k) → (l.flatMap g).length ≤ k * l.length
 | [], _ => by simp
 | a :: t, h => by
  have h1 := h a (by simp)
  have h2 := flat_len (l := t) (g := g) (k := k) fun x hx => h x (by simp [hx])
  rw [List.flatMap_cons, List.length_append, List.length_cons, Nat.mul_succ]; omega
theorem flat_take {α β : Type} (g : α → List β) {l : List α} {i : Nat} {x : α} (h : l[i]? = some x) : (l.take (i + 1)).flatMap g = (l.take i).flatMap g ++ g x := by
 rw [List.take_add_one, h, List.flatMap_append]; simp
theorem take_all {α : Type} {l : List α} {p : α → Prop} (h : ∀ x ∈ l, p x) (i : Nat) : ∀ x ∈ l.take i, p x := fun x hx => h x (List.mem_of_mem_take hx)
theorem fnOkS_at2 {P : Program} {f : FuncId} {vs : List V} {r : V} {B0 B1 B0' : Blk} (h : FnOkS P f vs [B0, B1] r [B0', B1]) (M : List Blk) (k k2 : Nat) (hv : vs.all (belowV 2) = true) (hm : [B0, B1].all (belowB 2) = true) (hr : belowV 2 r = true) (hm' : [B0', B1].all (belowB 2) = true)
  (h1 : ∀ σ, renB σ B0 = B0) (h2 : ∀ σ, renB σ B1 = B1) (h1' : ∀ σ, renB σ B0' = B0') (hk : M[k]? = some B0) (hk2 : M[k2]? = some B1) (hne : k ≠ k2) :
  FnOkS P f (renL (fun j => if j = 0 then k else if j = 1 then k2 else M.length + (j - 2)) vs) M (renV (fun j => if j = 0 then k else if j = 1 then k2 else M.length + (j - 2)) r) (M.set k B0') := by
 have h3 := h.ren M (fun j => if j = 0 then k else if j = 1 then k2 else M.length + (j - 2)) 2 rfl hv hm hr hm' (by simp) (fun i B hi => by
  match i with
  | 0 => simp at hi; subst hi; rw [h1]; simpa using hk
  | 1 => simp at hi; subst hi; rw [h2]; simpa using hk2
  | i + 2 => simp at hi) (fun i j hi hj he => by
  match i, j with
  | 0, 0 => rfl
  | 1, 1 => rfl
  | 0, 1 => exact absurd (by simpa using he) hne
  | 1, 0 => exact absurd (by simpa using he.symm) hne
  | i + 2, _ => omega
  | _, j + 2 => omega) (fun j hj => by rw [if_neg (by omega), if_neg (by omega)])
 have hM : putR (fun j => if j = 0 then k else if j = 1 then k2 else M.length + (j - 2)) 2 [B0', B1] M = M.set k B0' := by
  unfold putR
  simp only [ltb,List.map_nil,List.append_nil,setAll]
  show (M.set k (renB _ B0')).set k2 (renB _ B1) = _
  rw [h1', h2]
  exact set_same (by rw [List.getElem?_set_ne hne]; exact hk2)
 rwa [hM] at h3
theorem texts_ok (O : List UInt8) (l : List ByteArray) (hl : l.length ≤ 1048576) (hO : O.length ≤ 1152921504606846976) (hx : ∀ x ∈ l, x.size ≤ 1048576) : ∃ r_ m_, (fun r m => r = .tup [] ∧ m = [.box [str (bs (O ++ l.flatMap eT))], .rows 0 1 (l.map str)]) r_ m_ ∧ FnOkS Tryz.prog 57 [.ms 1 0 0 l.length, .ptr 0 0] ([.box [str (bs O)], .rows 0 1 (l.map str)]) r_ m_ := by
 refine fnw_ex tt_ok (fn := Tryz.f57) (2) (by simp) Tryz.func57 rfl Tryz.call57 ?_
 simp only [ltb,startSt,Tryz.ntmps57,List.length_cons,List.length_nil,reduceAdd,reduceSub,List.replicate_succ,List.replicate_zero]
 have hlx := flat_len (g := eT) (l := l) (k := 1048586) fun x h => eT_len x (hx x h)
 refine ex_region_w tt_ok 16 [0,0,0,0,0,2,2,2] [] rfl rfl fun K hK => ?_
 simp only [ltb,go_sem,reduceAdd,reduceLT]
 refine hK _ _ rfl ?_
 simp only [mwb,reduceAdd,reduceEqDiff]
 refine ex_block ?_
 refine ex_loopF (fun i : Nat => { fr := [.undef, .ptr 0 0, .undef, .undef, .undef, .ms 1 0 0 l.length, num l.length, num i, .undef, .undef, .undef, .undef, .undef, .undef, .undef, .undef], mem := [.box [str (bs (O ++ (l.take i).flatMap eT))], .rows 0 1 (l.map str)] }) (fun i => l.length - i) (fun i => i ≤ l.length) (0) 2 [false,true,false,false,false,true,true,true] (by omega) (by simp only [maskFr,belowV,reduceLT,mkb]) (by simp only [List.all_cons,List.all_nil,belowV,belowB,Bool.and_self,List.take_succ_cons,List.take_nil]) (by simp only [maskFr,List.flatMap_nil,List.append_nil,mkb] <;> rfl) (Nat.zero_le _) ?_
 intro i hi
 refine ex_region_w tt_ok 16 (rp 8 0 [2]) [] rfl rfl fun K hK => ?_
 simp only [ltb,go_sem,reduceAdd,reduceLT]
 refine hK _ _ rfl ?_
 simp only [mwb,reduceAdd]
 refine ex_seq ?_
 refine ex_if rfl (fun hc8 => ?_) (fun hc8 => ?_)
 ·have hlt : i < l.length := by simpa using hc8
  have hw := i64_succ i (by omega)
  rw [hc8]
  obtain ⟨x, hxi⟩ : ∃ x, l[i]? = some x := ⟨_, List.getElem?_eq_getElem hlt⟩
  have hltI : (i : Int) < (l.length : Int) := by omega
  have hft := flat_take eT hxi
  have hxb := hx x (List.mem_of_getElem? hxi)
  have hlt2 := flat_len (g := eT) (l := l.take i) (k := 1048586) fun x h => (by have hx := take_all hx i; exact eT_len x (hx x h))
  have hgx : (eT x).length ≤ 1048586 := (by have hx : ∀ y ∈ [x], y.size ≤ 1048576 := (fun y hy => by rw [List.mem_singleton] at hy; exact hy ▸ hxb); have h : x ∈ [x] := (by simp); exact eT_len x (hx x h))
  rw [List.length_take] at hlt2
  have hsa := sadd_bs (O ++ (l.take i).flatMap eT) (eT x) (by rw [List.length_append]; omega)
  refine ex_skip ?_
  show Go.Eng.Ex _ _ _ _ _ _
  refine ex_seq ?_
  refine ex_block ?_
  refine ex_region_w tt_ok 16 [0,0,0,0,2,0,0,0,0,1,1] [] rfl rfl fun K hK => ?_
  try simp only [ltb]
  simp only [List.getElem?_map,hxi,hltI,Option.map_some,Int.natCast_nonneg,go_sem,reduceAdd,reduceLT,reduceEqDiff]
  refine hK _ _ rfl ?_
  simp only [mwb,reduceAdd,reduceEqDiff]
  refine ex_last_mixed_w tt_ok mixed_ok 16 [0,0,0,0,0,0,0,0,0,0,0,2,2,2,2] (by kernel_rfl) (by kernel_rfl) [⟨.r, 0, [], [], []⟩, ⟨.n, 0, [], [], []⟩, ⟨.n, 0, [], [], []⟩, ⟨.n, 0, [], [], []⟩, ⟨.w, 0, [], [], []⟩] 1 (by kernel_rfl) fun K hK => ?_
  try simp only [ltb,List.replicate_zero,List.replicate_succ]
  refine runM_cut 3 (by simp) (by simp) fun K1 hK1 => ?_
  simp only [ltb,go_sem,reduceAdd,reduceLT,reduceEqDiff]
  refine callD_ex rfl (text_ok x hxb) ?_
  rintro _ rfl
  try simp only [go_sem]
  refine hK1 _ ?_
  try simp only [ltb]
  simp only [hsa,go_sem,reduceAdd,reduceLT,reduceEqDiff]
  refine hK _ _ rfl ?_
  simp only [mwb,reduceAdd,reduceEqDiff]
  show Go.Eng.Ex _ _ _ _ _ _
  refine ex_last_region_w tt_ok 16 [0,0,0,0,0,0,0,2,0,0,0,0,0,0,0,2] [] (by kernel_rfl) rfl rfl fun K hK => ?_
  try simp only [ltb]
  simp only [hw,go_sem,reduceAdd,reduceLT]
  refine hK _ _ rfl ?_
  simp only [mwb,reduceAdd,reduceEqDiff]
  refine ⟨i + 1, ?_, ?_, 2, [false,true,false,false,false,true,true,true], by omega, by simp only [maskFr,belowV,reduceLT,mkb], by simp only [ltb,List.all_cons,List.all_nil,belowV,belowB,Bool.and_self], by (simp only [hft,List.append_assoc,maskFr,mkb])⟩
  ·exact hlt
  ·omega
 ·have hge : ¬ i < l.length := by simpa using hc8
  have hil : i = l.length := by omega
  subst hil
  rw [List.take_length]
  refine ex_exit ?_
  exact ⟨.inr rfl, _, ⟨rfl, rfl⟩, rfl, rfl, rfl⟩
theorem nums_ok (O : List UInt8) (l : List Int) (hl : l.length ≤ 1048576) (hO : O.length ≤ 1152921504606846976) (hx : ∀ x ∈ l, 0 ≤ x ∧ x < 9223372036854775808) : ∃ r_ m_, (fun r m => r = .tup [] ∧ m = [.box [str (bs (O ++ l.flatMap uvI))], .rows 0 1 (l.map num)]) r_ m_ ∧ FnOkS Tryz.prog 55 [.ms 1 0 0 l.length, .ptr 0 0] ([.box [str (bs O)], .rows 0 1 (l.map num)]) r_ m_ := by
 refine fnw_ex tt_ok (fn := Tryz.f55) (2) (by simp) Tryz.func55 rfl Tryz.call55 ?_
 simp only [ltb,startSt,Tryz.ntmps55,List.length_cons,List.length_nil,reduceAdd,reduceSub,List.replicate_succ,List.replicate_zero]
 have hlx := flat_len (g := uvI) (l := l) (k := 10) fun x h => uvI_len (hx x h).1 (hx x h).2
 refine ex_region_w tt_ok 22 [0,0,0,0,0,0,0,2,2,2] [] rfl rfl fun K hK => ?_
 simp only [ltb,go_sem,reduceAdd,reduceLT]
 refine hK _ _ rfl ?_
 simp only [mwb,reduceAdd,reduceEqDiff]
 refine ex_block ?_
 refine ex_loopF (fun i : Nat => { fr := [.undef, .ptr 0 0, .undef, .undef, .undef, .undef, .undef, .ms 1 0 0 l.length, num l.length, num i, .undef, .undef, .undef, .undef, .undef, .undef, .undef, .undef, .undef, .undef, .undef, .undef], mem := [.box [str (bs (O ++ (l.take i).flatMap uvI))], .rows 0 1 (l.map num)] }) (fun i => l.length - i) (fun i => i ≤ l.length) (0) 2 [false,true,false,false,false,false,false,true,true,true] (by omega) (by simp only [maskFr,belowV,reduceLT,mkb]) (by simp only [List.all_cons,List.all_nil,belowV,belowB,Bool.and_self,List.take_succ_cons,List.take_nil]) (by simp only [maskFr,List.flatMap_nil,List.append_nil,mkb] <;> rfl) (Nat.zero_le _) ?_
 intro i hi
 refine ex_region_w tt_ok 22 (rp 10 0 [2]) [] rfl rfl fun K hK => ?_
 simp only [ltb,go_sem,reduceAdd,reduceLT]
 refine hK _ _ rfl ?_
 simp only [mwb,reduceAdd]
 refine ex_seq ?_
 refine ex_if rfl (fun hc10 => ?_) (fun hc10 => ?_)
 ·have hlt : i < l.length := by simpa using hc10
  have hw := i64_succ i (by omega)
  rw [hc10]
  obtain ⟨x, hxi⟩ : ∃ x, l[i]? = some x := ⟨_, List.getElem?_eq_getElem hlt⟩
  have hltI : (i : Int) < (l.length : Int) := by omega
  have hft := flat_take uvI hxi
  have hxb := hx x (List.mem_of_getElem? hxi)
  have hlt2 := flat_len (g := uvI) (l := l.take i) (k := 10) fun x h => (by have hx := take_all hx i; exact uvI_len (hx x h).1 (hx x h).2)
  have hgx : (uvI x).length ≤ 10 := (by have hx : ∀ y ∈ [x], 0 ≤ y ∧ y < 9223372036854775808 := (fun y hy => by rw [List.mem_singleton] at hy; exact hy ▸ hxb); have h : x ∈ [x] := (by simp); exact uvI_len (hx x h).1 (hx x h).2)
  rw [List.length_take] at hlt2
  have hsa := sadd_bs (O ++ (l.take i).flatMap uvI) (uvI x) (by rw [List.length_append]; omega)
  refine ex_skip ?_
  show Go.Eng.Ex _ _ _ _ _ _
  refine ex_seq ?_
  refine ex_block ?_
  refine ex_region_w tt_ok 22 [0,0,0,0,2,0,0,0,0,0,0,1,1] [] rfl rfl fun K hK => ?_
  try simp only [ltb]
  simp only [List.getElem?_map,hxi,hltI,Option.map_some,Int.natCast_nonneg,go_sem,reduceAdd,reduceLT,reduceEqDiff]
  refine hK _ _ rfl ?_
  simp only [mwb,reduceAdd,reduceEqDiff]
  refine ex_region_w tt_ok 22 [0,0,0,0,0,2,1,0,0,0,0,0,0,1,1,1,1,1] [] rfl rfl fun K hK => ?_
  refine runX_cut 2 fun K1 hK1 => ?_
  simp only [ltb,go_sem,reduceAdd,reduceLT]
  refine callF_ex (uintI_ok x hxb.1 hxb.2) ?_
  rintro _ rfl
  try simp only [go_sem]
  refine hK1 _ ?_
  simp only [ltb,go_sem,reduceAdd,reduceLT,reduceEqDiff]
  refine hK _ _ rfl ?_
  simp only [mwb,reduceAdd,reduceEqDiff]
  refine ex_last_region_w tt_ok 22 (rp 18 0 [2,2,2]) [] (by kernel_rfl) rfl rfl fun K hK => ?_
  try simp only [ltb]
  simp only [hsa,go_sem,reduceAdd,reduceLT,reduceEqDiff]
  refine hK _ _ rfl ?_
  simp only [mwb,reduceAdd,reduceEqDiff]
  show Go.Eng.Ex _ _ _ _ _ _
  refine ex_last_region_w tt_ok 22 (rp 9 0 (2::(rp 11 0 [2]))) [] (by kernel_rfl) rfl rfl fun K hK => ?_
  try simp only [ltb]
  simp only [hw,go_sem,reduceAdd,reduceLT]
  refine hK _ _ rfl ?_
  simp only [mwb,reduceAdd,reduceEqDiff]
  refine ⟨i + 1, ?_, ?_, 2, [false,true,false,false,false,false,false,true,true,true], by omega, by simp only [maskFr,belowV,reduceLT,mkb], by simp only [List.all_cons,List.all_nil,belowV,belowB,Bool.and_self,List.take_succ_cons,List.take_nil], by (simp only [hft,List.append_assoc,maskFr,mkb])⟩
  ·exact hlt
  ·omega
 ·have hge : ¬ i < l.length := by simpa using hc10
  have hil : i = l.length := by omega
  subst hil
  rw [List.take_length]
  refine ex_exit ?_
  exact ⟨.inr rfl, _, ⟨rfl, rfl⟩, rfl, rfl, rfl⟩
theorem texts_at (O : List UInt8) (l : List ByteArray) (hl : l.length ≤ 1048576) (hO : O.length ≤ 1152921504606846976) (hx : ∀ x ∈ l, x.size ≤ 1048576) (M : List Blk) (k k2 : Nat) (hk : M[k]? = some (.box [str (bs O)])) (hk2 : M[k2]? = some (.rows 0 1 (l.map str))) (hne : k ≠ k2) :
  ∃ r_ m_, (fun r m => r = .tup [] ∧ m = M.set k (.box [str (bs (O ++ l.flatMap eT))])) r_ m_ ∧ FnOkS Tryz.prog 57 [.ms k2 0 0 l.length, .ptr k 0] M r_ m_ := by
 obtain ⟨r, m, ⟨rfl, rfl⟩, h⟩ := texts_ok O l hl hO hx
 have h3 := fnOkS_at2 h M k k2 (by simp [belowV]) (by simp [belowB, belowV]) rfl (by simp [belowB, belowV]) (fun σ => by simp [renB, renL, renV]) (fun σ => by simp [renB]) (fun σ => by simp [renB, renL, renV]) hk hk2 hne
 exact ⟨_, _, ⟨rfl, rfl⟩, by simpa [renL, renV] using h3⟩
theorem nums_at (O : List UInt8) (l : List Int) (hl : l.length ≤ 1048576) (hO : O.length ≤ 1152921504606846976) (hx : ∀ x ∈ l, 0 ≤ x ∧ x < 9223372036854775808) (M : List Blk) (k k2 : Nat) (hk : M[k]? = some (.box [str (bs O)])) (hk2 : M[k2]? = some (.rows 0 1 (l.map num))) (hne : k ≠ k2) :
  ∃ r_ m_, (fun r m => r = .tup [] ∧ m = M.set k (.box [str (bs (O ++ l.flatMap uvI))])) r_ m_ ∧ FnOkS Tryz.prog 55 [.ms k2 0 0 l.length, .ptr k 0] M r_ m_ := by
 obtain ⟨r, m, ⟨rfl, rfl⟩, h⟩ := nums_ok O l hl hO hx
 have h3 := fnOkS_at2 h M k k2 (by simp [belowV]) (by simp [belowB, belowV]) rfl (by simp [belowB, belowV]) (fun σ => by simp [renB, renL, renV]) (fun σ => by simp [renB]) (fun σ => by simp [renB, renL, renV]) hk hk2 hne
 exact ⟨_, _, ⟨rfl, rfl⟩, by simpa [renL, renV] using h3⟩
end Go.Proofs.YtnfeacnbgbggfaaGreatDoor
end

section
namespace Go.Proofs.YtnfeacnbgbggfaaGreatDoor
open Go.Eng
open Nat (reduceAdd reduceLT reduceLeDiff reduceMul reduceEqDiff reduceSub)
variable [Glob]
set_option maxHeartbeats 4000000
set_option maxRecDepth 100000
attribute [local irreducible] runM stepM valD stepOp stepD callF callS
theorem fnOkS_at1 {P : Program} {f : FuncId} {vs : List V} {r : V} {B0 B0' : Blk} (h : FnOkS P f vs [B0] r [B0']) (M : List Blk) (k : Nat) (hv : vs.all (belowV 1) = true) (hm : [B0].all (belowB 1) = true) (hr : belowV 1 r = true) (hm' : [B0'].all (belowB 1) = true)
  (h1 : ∀ σ, renB σ B0 = B0) (h1' : ∀ σ, renB σ B0' = B0') (hk : M[k]? = some B0) :
  FnOkS P f (renL (fun j => if j = 0 then k else M.length + (j - 1)) vs) M (renV (fun j => if j = 0 then k else M.length + (j - 1)) r) (M.set k B0') := by
 have h3 := h.ren M (fun j => if j = 0 then k else M.length + (j - 1)) 1 rfl hv hm hr hm' (by simp) (fun i B hi => by
  match i with
  | 0 => simp at hi; subst hi; rw [h1]; simpa using hk
  | i + 1 => simp at hi) (fun i j hi hj he => by omega) (fun j hj => by rw [if_neg (by omega)])
 have hM : putR (fun j => if j = 0 then k else M.length + (j - 1)) 1 [B0'] M = M.set k B0' := by
  unfold putR
  simp only [ltb,List.map_nil,List.append_nil,setAll]
  show M.set k (renB _ B0') = _
  rw [h1']
 rwa [hM] at h3
theorem bitOr_add (m c i : Nat) (hm : m < 2 ^ i) (hs : m + c * 2 ^ i < 2 ^ 64) : bitOr .u64 (m : Int) ((c * 2 ^ i : Nat) : Int) = ((m + c * 2 ^ i : Nat) : Int) := by
 unfold bitOr
 have e : (BitVec.ofInt IntKind.u64.bits (m : Int) ||| BitVec.ofInt IntKind.u64.bits ((c * 2 ^ i : Nat) : Int)).toNat = m + c * 2 ^ i := by
  show (BitVec.ofInt 64 (m : Int) ||| BitVec.ofInt 64 ((c * 2 ^ i : Nat) : Int)).toNat = _
  rw [BitVec.ofInt_natCast, BitVec.ofInt_natCast, BitVec.toNat_or, BitVec.toNat_ofNat, BitVec.toNat_ofNat, Nat.mod_eq_of_lt (by omega), Nat.mod_eq_of_lt (by omega)]
  have := Nat.two_pow_add_eq_or_of_lt hm c
  rw [Nat.or_comm, Nat.mul_comm c, ← this, Nat.add_comm]
 rw [e]
 exact wrap64 _ hs
theorem shl7 (c i : Nat) (h : c * 2 ^ (7 * i) < 2 ^ 64) (hi : i ≤ 9) : IntKind.u64.wrap ((c : Int) * 2 ^ min ((7 * i : Nat) : Int).toNat IntKind.u64.bits) = ((c * 2 ^ (7 * i) : Nat) : Int) := by
 have e : min ((7 * i : Nat) : Int).toNat IntKind.u64.bits = 7 * i := by
  show min ((7 * i : Nat) : Int).toNat 64 = 7 * i
  omega
 rw [e]
 have : (c : Int) * 2 ^ (7 * i) = ((c * 2 ^ (7 * i) : Nat) : Int) := by push_cast; rfl
 rw [this]
 exact wrap64 _ h
theorem ev_shl7 (x y : Operand) (c i : Nat) (h : c * 2 ^ (7 * i) < 2 ^ 64) (hi : i ≤ 9) : lift2 Tryz.prog (opB .shl 136 x y) (.sc (.int .u64 (c : Int))) (num ((7 * i : Nat) : Int)) = some (u64V (c * 2 ^ (7 * i))) := by
 rw [show num ((7 * i : Nat) : Int) = V.sc (.int .i64 ((7 * i : Nat) : Int)) from rfl, ev_shl 136 x y .u64 .i64 _ _ (by omega), shl7 c i h hi]; rfl
theorem from_get {s : ByteArray} {a : Nat} {c : UInt8} (h : s[a]? = some c) : from_ s a = c :: from_ s (a + 1) := by
 have h1 := byte_get h
 unfold from_
 obtain ⟨h2, h3⟩ := List.getElem?_eq_some_iff.1 h1
 rw [List.drop_eq_getElem_cons h2, h3]
theorem from_end {s : ByteArray} {a : Nat} (h : s.size ≤ a) : from_ s a = [] := List.drop_eq_nil_of_le (by rw [Array.length_toList]; exact h)
theorem pow_split (i : Nat) : 2 ^ (7 * (i + 1)) = 128 * 2 ^ (7 * i) := by rw [show (128 : Nat) = 2 ^ 7 from rfl, ← Nat.pow_add]; congr 1; omega
def ScR (s : ByteArray) (a : Nat) (r : V) : Prop := ∃ (n j : Nat) (ok : Bool), r = .tup [u64V n, num j, bl ok] ∧ n < 2 ^ 64 ∧ j ≤ s.size ∧ (ok = (scanL (from_ s a) 0 0).isSome) ∧ ∀ n' k, scanL (from_ s a) 0 0 = some (n', k) → n = n' ∧ j = a + k
theorem ScR.no {s : ByteArray} {a : Nat} (h : scanL (from_ s a) 0 0 = none) : ScR s a (.tup [u64V 0, num (0 : Nat), bl false]) := ⟨0, 0, false, rfl, by decide, Nat.zero_le _, by rw [h]; rfl, fun _ _ h' => by rw [h] at h'; cases h'⟩
theorem sc_bd {i m c : Nat} (hi : i ≤ 9) (hm : m < 2 ^ (7 * i)) (hc : c < 128) (h9 : i = 9 → c ≤ 1) : m + c * 2 ^ (7 * i) < 2 ^ 64 ∧ (i + 1 ≤ 9 → m + c * 2 ^ (7 * i) < 2 ^ (7 * (i + 1))) ∧ c * 2 ^ (7 * i) < 2 ^ 64 := by
 by_cases h : i = 9
 ·subst h
  have := h9 rfl
  refine ⟨?_, by omega, ?_⟩ <;> omega
 ·have h1 : c * 2 ^ (7 * i) ≤ 127 * 2 ^ (7 * i) := Nat.mul_le_mul_right _ (by omega)
  have h2 := pow_split i
  have h3 : 2 ^ (7 * (i + 1)) ≤ 2 ^ 63 := Nat.pow_le_pow_right (by omega) (by omega)
  refine ⟨?_, fun _ => ?_, ?_⟩ <;> omega
theorem ScR.yes {s : ByteArray} {a i m : Nat} {c : UInt8} {ok : Bool} (hsc : scanL (from_ s a) 0 0 = if i = 0 ∨ 0 < c.toNat then some (m + c.toNat * 2 ^ (7 * i), i + 1) else none) (hc : c.toNat < 128) (h64 : m + c.toNat % 128 * 2 ^ (7 * i) < 2 ^ 64) (hj : a + i + 1 ≤ s.size) (hok : ok = decide (i = 0 ∨ 0 < c.toNat)) :
  ScR s a (.tup [u64V (m + c.toNat % 128 * 2 ^ (7 * i)), num (a + i + 1 : Nat), bl ok]) := by
 refine ⟨_, _, _, rfl, h64, hj, ?_, fun n' k h => ?_⟩
 ·rw [hsc, hok]; split <;> simp_all
 ·rw [hsc] at h
  split at h
  ·simp only [Option.some.injEq,Prod.mk.injEq] at h
   rw [Nat.mod_eq_of_lt hc]
   exact ⟨h.1, by rw [← h.2, Nat.add_assoc]⟩
  ·cases h
def SzR (s : ByteArray) (a : Nat) (r : V) : Prop := ∃ (n : Int) (j : Nat) (ok : Bool), r = .tup [num n, num j, bl ok] ∧ j ≤ s.size ∧ (ok = (rdI s a).isSome) ∧ ∀ n' k, rdI s a = some (n', k) → n = n' ∧ j = k
def txV (s : ByteArray) (a : Nat) : V := match rdT s a with | some (t, j) => .tup [str t, num j, bl true] | none => .tup [str ⟨#[]⟩, num 0, bl false]
theorem scan_ok (s : ByteArray) (hs : s.size ≤ 1073741824) (a a0 : Nat) (e : Int) (ha : a ≤ s.size) : ∃ r_, ScR s a r_ ∧ FnOkS Tryz.prog 131 [.ptr 0 0, num a] ([.box [str s, num a0, num e]]) r_ ([.box [str s, num a0, num e]]) := by
 refine fns_ex tt_ok (fn := Tryz.f131) Tryz.func131 rfl Tryz.call131 (rfl) ?_
 simp only [ltb,startSt,Tryz.ntmps131,List.length_cons,List.length_nil,reduceAdd,reduceSub,List.replicate_succ,List.replicate_zero]
 have hT9 : Tryz.prog.underlying 9 = some .string := by kernel_rfl
 have sl : ∀ (a : ByteArray) (ty : TypeId), liftL Tryz.prog (Builtin.len_ #[9] ty) [.sc (.string a)] = some (num a.size) := fun a ty => ev_slen (P := Tryz.prog) (tt := tt) (T := 9) a hT9 ty
 have hT5 : Tryz.prog.underlying 5 = some (.int .u8) := by kernel_rfl
 have hT136 : Tryz.prog.underlying 136 = some (.int .u64) := by kernel_rfl
 have hT3 : Tryz.prog.underlying 3 = some (.int .i64) := by kernel_rfl
 have cv1 := fun (k : IntKind) (n : Int) => ev_conv (P := Tryz.prog) (src := 136) (dst := 5) hT136 hT5 k n
 have cv2 := fun (k : IntKind) (n : Int) => ev_conv (P := Tryz.prog) (src := 3) (dst := 136) hT3 hT136 k n
 have cv3 := fun (k : IntKind) (n : Int) => ev_conv (P := Tryz.prog) (src := 5) (dst := 136) hT5 hT136 k n
 have ea := fun x y (b : UInt8) => ev_and Tryz.prog 5 x y .u8 b.toNat 127
 have ea2 : ∀ b : UInt8, andI .u8 (b.toNat : Int) 127 = ((b.toNat % 128 : Nat) : Int) := fun b => and127 _ b.toNat_lt
 have ea3 : ∀ b : UInt8, IntKind.u64.wrap ((b.toNat % 128 : Nat) : Int) = ((b.toNat % 128 : Nat) : Int) := fun b => wrap64 _ (by omega)
 refine ex_region_w tt_ok 54 [0,0,0,0,2,2,2] [] rfl rfl fun K hK => ?_
 simp only [ltb,go_sem]
 refine hK _ _ rfl ?_
 simp only [mwb,reduceAdd,reduceEqDiff]
 refine ex_region_w tt_ok 54 [0,0,0,0,0,0,0,2] [] rfl rfl fun K hK => ?_
 simp only [ltb,go_sem]
 refine hK _ _ rfl ?_
 simp only [mwb,reduceAdd]
 refine ex_seq ?_
 refine ex_region_w tt_ok 54 (rp 8 0 [2]) [] rfl rfl fun K hK => ?_
 simp only [ltb,go_sem]
 refine hK _ _ rfl ?_
 simp only [mwb,reduceAdd]
 refine ex_block ?_
 refine ex_loopF (fun b : Nat × Nat => { fr := [.ptr 0 0, num (a + b.1 : Nat), .undef, .undef, .undef, .undef, .undef, u64V b.2, num (7 * b.1 : Nat), .undef, .undef, .undef, .undef, .undef, .undef, .undef, .undef, .undef, .undef, .undef, .undef, .undef, .undef, .undef, .undef, .undef, .undef, .undef, .undef, .undef, .undef, .undef, .undef, .undef, .undef, .undef, .undef, .undef, .undef, .undef, .undef, .undef, .undef, .undef, .undef, .undef, .undef, .undef, .undef, .undef, .undef, .undef, .undef, .undef], mem := [.box [str s, num a0, num e]] }) (fun b => 10 - b.1) (fun b => b.1 ≤ 10 ∧ a + b.1 ≤ s.size ∧ b.2 < 2 ^ 64 ∧ (b.1 ≤ 9 → b.2 < 2 ^ (7 * b.1)) ∧ scanL (from_ s a) 0 0 = scanL (from_ s (a + b.1)) b.1 b.2) ((0, 0)) 1 [true,true,false,false,false,false,false,true,true] (by omega) (by simp only [maskFr,belowV,reduceLT,mkb]) (by simp only [List.all_cons,List.all_nil,belowV,belowB,Bool.and_self,List.take_succ_cons,List.take_nil]) (by simp only [u64V,maskFr,u64V,Nat.mul_zero,Nat.add_zero,mkb] <;> rfl) (⟨by decide, ha, by decide, fun _ => by decide, rfl⟩) ?_
 rintro ⟨i, m⟩ ⟨hi, hai, hm64, hm, hsc⟩
 dsimp only at hi hai hm64 hm hsc
 dsimp only [u64V]
 have hw := i64_succ (a + i) (by omega)
 have hw7 : IntKind.i64.wrap (((7 * i : Nat) : Int) + 7) = ((7 * (i + 1) : Nat) : Int) := by rw [IntWalk.i64_in _ (by omega)]; omega
 refine ex_seq ?_
 refine ex_region_w tt_ok 54 (rp 10 0 (rp 10 1 [2])) [(7, 17)] rfl rfl fun K hK => ?_
 refine runX_cut 8 fun K1 hK1 => ?_
 simp only [ltb]
 simp only [sl,go_sem,reduceAdd,reduceLT,reduceLeDiff,reduceEqDiff,reduceCtorEq]
 refine hK1 _ ?_
 refine runX_case 17 (by rfl) fun b hb3_7 => ?_
 cases b
 ·have hge : s.size ≤ a + i := by have := of_decide_eq_false hb3_7; omega
  rw [from_end hge, scanL] at hsc
  have hR := ScR.no hsc
  simp only [ltb,go_sem,reduceLT,reduceEqDiff]
  refine hK _ _ rfl ?_
  simp only [mwb,reduceAdd,reduceEqDiff]
  refine ex_cond rfl ?_
  refine ex_exit ?_
  show Go.Eng.Ex _ _ _ _ _ _
  refine ex_region_w tt_ok 54 [0,0,0,0,2,2,2] [] rfl rfl fun K hK => ?_
  simp only [ltb,go_sem]
  refine hK _ _ rfl ?_
  simp only [mwb,reduceAdd,reduceEqDiff]
  exact ex_ret ⟨.inl rfl, _, hR, rfl, rfl, rfl⟩
 ·have hlt : a + i < s.size := by have := of_decide_eq_true hb3_7; omega
  obtain ⟨c, hcb⟩ := get_byte (s := s) (i := a + i) hlt
  have hix := ev_index (P := Tryz.prog) s hT9 .i64 ((a + i : Nat) : Int) (by omega) (c := c) (show s[((a + i : Nat) : Int).toNat]? = some c from hcb)
  have hfr := from_get hcb
  rw [hfr, scanL] at hsc
  have hcl := c.toNat_lt
  simp only [ltb,go_sem,reduceLT,reduceEqDiff]
  refine hK _ _ rfl ?_
  simp only [mwb,reduceAdd,reduceEqDiff]
  refine ex_if rfl (fun hc20 => ?_) (fun hc20 => ?_)
  ·have hi9 : i ≤ 9 := by have := of_decide_eq_true hc20; omega
   have hmi := hm hi9
   refine ex_skip ?_
   show Go.Eng.Ex _ _ _ _ _ _
   refine ex_seq ?_
   refine ex_block ?_
   refine ex_region_w tt_ok 54 (rp 9 0 (2::(rp 13 0 [1,1,1,1,1,1]))) [] rfl rfl fun K hK => ?_
   try simp only [ltb]
   simp only [hix,go_sem,reduceAdd,reduceLT,reduceLeDiff,reduceEqDiff]
   refine hK _ _ rfl ?_
   simp only [mwb,reduceAdd,reduceEqDiff]
   refine ex_region_w tt_ok 54 (0::2::(rp 27 0 [1,1])) [] rfl rfl fun K hK => ?_
   try simp only [ltb]
   simp only [hw,go_sem,reduceLT,reduceEqDiff]
   refine hK _ _ rfl ?_
   simp only [mwb,reduceAdd,reduceEqDiff]
   refine ex_seq ?_
   refine ex_region_w tt_ok 54 (rp 31 0 [1,1,1,1,1,2]) [(2, 33)] rfl rfl fun K hK => ?_
   refine runX_cut 3 fun K1 hK1 => ?_
   simp only [ltb,go_sem,reduceLT,reduceEqDiff]
   refine hK1 _ ?_
   refine runX_case 33 (by rfl) fun b hb7_2 => ?_
   cases b
   ·simp only [ltb,go_sem,reduceLT,reduceEqDiff]
    refine hK _ _ rfl ?_
    simp only [mwb,reduceAdd,reduceEqDiff]
    refine ex_cond rfl ?_
    refine ex_skip ?_
    show Go.Eng.Ex _ _ _ _ _ _
    have h9 : i = 9 → c.toNat ≤ 1 := by first | (intro _; have := of_decide_eq_false hc36; omega) | (intro h; have := of_decide_eq_false hb7_2; omega)
    obtain ⟨hs1, hs2, hs3⟩ := sc_bd (c := c.toNat % 128) hi9 hmi (by omega) (fun h => by have := h9 h; omega)
    have hsl := fun x y => ev_shl7 x y (c.toNat % 128) i hs3 hi9
    have hba := bitOr_add m (c.toNat % 128) (7 * i) hmi hs1
    rw [if_neg (by omega)] at hsc
    refine ex_region_w tt_ok 54 (0::0::0::0::0::0::0::2::(rp 29 0 [1,1,1,1,1,1,1])) [] rfl rfl fun K hK => ?_
    try simp only [ltb]
    simp only [hsl,hba,cv3,ea,ea2,ea3,ev_or,u64V,go_sem,reduceLT,reduceEqDiff]
    refine hK _ _ rfl ?_
    simp only [mwb,reduceAdd,reduceEqDiff]
    refine ex_region_w tt_ok 54 (rp 44 0 [1,2]) [] rfl rfl fun K hK => ?_
    simp only [ltb,go_sem,reduceLT]
    refine hK _ _ rfl ?_
    simp only [mwb,reduceAdd,reduceEqDiff]
    refine ex_if rfl (fun hc45 => ?_) (fun hc45 => ?_)
    ·have hc128 : c.toNat < 128 := by have := of_decide_eq_true hc45; omega
     rw [if_pos hc128] at hsc
     refine ex_region_w tt_ok 54 (0::0::0::0::2::2::2::(rp 39 0 (rp 8 1 []))) [(4, 50)] rfl rfl fun K hK => ?_
     refine runX_cut 5 fun K1 hK1 => ?_
     simp only [ltb,go_sem,reduceLT,reduceEqDiff]
     refine hK1 _ ?_
     refine runX_case 50 (by rfl) fun b hb11_4 => ?_
     cases b
     ·have hR := ScR.yes (ok := decide (((7 * i : Nat) : Int) = 0)) hsc hc128 hs1 (by omega) (by have := of_decide_eq_false hb11_4; rw [decide_eq_decide]; omega)
      simp only [ltb,go_sem,reduceLT,reduceEqDiff]
      refine hK _ _ rfl ?_
      simp only [mwb,reduceAdd,reduceEqDiff]
      exact ex_ret ⟨.inl rfl, _, hR, rfl, rfl, rfl⟩
     ·have hR := ScR.yes (ok := true) hsc hc128 hs1 (by omega) (by have := of_decide_eq_true hb11_4; simp; omega)
      simp only [ltb,go_sem,reduceLT,reduceEqDiff]
      refine hK _ _ rfl ?_
      simp only [mwb,reduceAdd,reduceEqDiff]
      exact ex_ret ⟨.inl rfl, _, hR, rfl, rfl, rfl⟩
    ·have hc128 : ¬ c.toNat < 128 := by have := of_decide_eq_false hc45; omega
     rw [if_neg hc128, show c.toNat - 128 = c.toNat % 128 by omega] at hsc
     have hnext : i + 1 ≤ 10 ∧ a + (i + 1) ≤ s.size ∧ m + c.toNat % 128 * 2 ^ (7 * i) < 2 ^ 64 ∧ (i + 1 ≤ 9 → m + c.toNat % 128 * 2 ^ (7 * i) < 2 ^ (7 * (i + 1))) ∧ scanL (from_ s a) 0 0 = scanL (from_ s (a + (i + 1))) (i + 1) (m + c.toNat % 128 * 2 ^ (7 * i)) := ⟨by omega, by omega, hs1, hs2, hsc⟩
     refine ex_skip ?_
     show Go.Eng.Ex _ _ _ _ _ _
     refine ex_last_region_w tt_ok 54 (rp 8 0 (2::(rp 12 0 [2,2]))) [] (by kernel_rfl) rfl rfl fun K hK => ?_
     try simp only [ltb]
     simp only [hw7,go_sem,reduceLT,reduceEqDiff]
     refine hK _ _ rfl ?_
     simp only [mwb,reduceAdd,reduceEqDiff]
     refine ⟨(i + 1, m + c.toNat % 128 * 2 ^ (7 * i)), ?_, ?_, 1, [true,true,false,false,false,false,false,true,true], by omega, by simp only [maskFr,belowV,reduceLT,mkb], by simp only [List.all_cons,List.all_nil,belowV,belowB,Bool.and_self,List.take_succ_cons,List.take_nil], by (simp only [Nat.add_assoc,maskFr,mkb])⟩
     ·exact hnext
     ·dsimp only; omega
   ·simp only [ltb,go_sem,reduceLT,reduceEqDiff]
    refine hK _ _ rfl ?_
    simp only [mwb,reduceAdd,reduceEqDiff]
    refine ex_if rfl (fun hc36 => ?_) (fun hc36 => ?_)
    ·have hR : ScR s a (.tup [u64V 0, num (0 : Nat), bl false]) := by
      rw [if_pos (.inr ⟨by have := of_decide_eq_true hb7_2; omega, by have := of_decide_eq_true hc36; omega⟩)] at hsc
      exact ScR.no hsc
     refine ex_region_w tt_ok 54 [0,0,0,0,2,2,2] [] rfl rfl fun K hK => ?_
     simp only [ltb,go_sem]
     refine hK _ _ rfl ?_
     simp only [mwb,reduceAdd,reduceEqDiff]
     exact ex_ret ⟨.inl rfl, _, hR, rfl, rfl, rfl⟩
    ·refine ex_skip ?_
     show Go.Eng.Ex _ _ _ _ _ _
     have h9 : i = 9 → c.toNat ≤ 1 := by first | (intro _; have := of_decide_eq_false hc36; omega) | (intro h; have := of_decide_eq_false hb7_2; omega)
     obtain ⟨hs1, hs2, hs3⟩ := sc_bd (c := c.toNat % 128) hi9 hmi (by omega) (fun h => by have := h9 h; omega)
     have hsl := fun x y => ev_shl7 x y (c.toNat % 128) i hs3 hi9
     have hba := bitOr_add m (c.toNat % 128) (7 * i) hmi hs1
     rw [if_neg (by omega)] at hsc
     refine ex_region_w tt_ok 54 (0::0::0::0::0::0::0::2::(rp 29 0 [1,1,1,1,1,1,1])) [] rfl rfl fun K hK => ?_
     try simp only [ltb]
     simp only [hsl,hba,cv3,ea,ea2,ea3,ev_or,u64V,go_sem,reduceLT,reduceEqDiff]
     refine hK _ _ rfl ?_
     simp only [mwb,reduceAdd,reduceEqDiff]
     refine ex_region_w tt_ok 54 (rp 44 0 [1,2]) [] rfl rfl fun K hK => ?_
     simp only [ltb,go_sem,reduceLT]
     refine hK _ _ rfl ?_
     simp only [mwb,reduceAdd,reduceEqDiff]
     refine ex_if rfl (fun hc45 => ?_) (fun hc45 => ?_)
     ·have hc128 : c.toNat < 128 := by have := of_decide_eq_true hc45; omega
      rw [if_pos hc128] at hsc
      refine ex_region_w tt_ok 54 (0::0::0::0::2::2::2::(rp 39 0 (rp 8 1 []))) [(4, 50)] rfl rfl fun K hK => ?_
      refine runX_cut 5 fun K1 hK1 => ?_
      simp only [ltb,go_sem,reduceLT,reduceEqDiff]
      refine hK1 _ ?_
      refine runX_case 50 (by rfl) fun b hb11_4 => ?_
      cases b
      ·have hR := ScR.yes (ok := decide (((7 * i : Nat) : Int) = 0)) hsc hc128 hs1 (by omega) (by have := of_decide_eq_false hb11_4; rw [decide_eq_decide]; omega)
       simp only [ltb,go_sem,reduceLT,reduceEqDiff]
       refine hK _ _ rfl ?_
       simp only [mwb,reduceAdd,reduceEqDiff]
       exact ex_ret ⟨.inl rfl, _, hR, rfl, rfl, rfl⟩
      ·have hR := ScR.yes (ok := true) hsc hc128 hs1 (by omega) (by have := of_decide_eq_true hb11_4; simp; omega)
       simp only [ltb,go_sem,reduceLT,reduceEqDiff]
       refine hK _ _ rfl ?_
       simp only [mwb,reduceAdd,reduceEqDiff]
       exact ex_ret ⟨.inl rfl, _, hR, rfl, rfl, rfl⟩
     ·have hc128 : ¬ c.toNat < 128 := by have := of_decide_eq_false hc45; omega
      rw [if_neg hc128, show c.toNat - 128 = c.toNat % 128 by omega] at hsc
      have hnext : i + 1 ≤ 10 ∧ a + (i + 1) ≤ s.size ∧ m + c.toNat % 128 * 2 ^ (7 * i) < 2 ^ 64 ∧ (i + 1 ≤ 9 → m + c.toNat % 128 * 2 ^ (7 * i) < 2 ^ (7 * (i + 1))) ∧ scanL (from_ s a) 0 0 = scanL (from_ s (a + (i + 1))) (i + 1) (m + c.toNat % 128 * 2 ^ (7 * i)) := ⟨by omega, by omega, hs1, hs2, hsc⟩
      refine ex_skip ?_
      show Go.Eng.Ex _ _ _ _ _ _
      refine ex_last_region_w tt_ok 54 (rp 8 0 (2::(rp 12 0 [2,2]))) [] (by kernel_rfl) rfl rfl fun K hK => ?_
      try simp only [ltb]
      simp only [hw7,go_sem,reduceLT,reduceEqDiff]
      refine hK _ _ rfl ?_
      simp only [mwb,reduceAdd,reduceEqDiff]
      refine ⟨(i + 1, m + c.toNat % 128 * 2 ^ (7 * i)), ?_, ?_, 1, [true,true,false,false,false,false,false,true,true], by omega, by simp only [maskFr,belowV,reduceLT,mkb], by simp only [List.all_cons,List.all_nil,belowV,belowB,Bool.and_self,List.take_succ_cons,List.take_nil], by (simp only [Nat.add_assoc,maskFr,mkb])⟩
      ·exact hnext
      ·dsimp only; omega
  ·have h10 : i = 10 := by have := of_decide_eq_false hc20; omega
   rw [if_pos (.inl (by omega))] at hsc
   have hR := ScR.no hsc
   refine ex_exit ?_
   show Go.Eng.Ex _ _ _ _ _ _
   refine ex_region_w tt_ok 54 [0,0,0,0,2,2,2] [] rfl rfl fun K hK => ?_
   simp only [ltb,go_sem]
   refine hK _ _ rfl ?_
   simp only [mwb,reduceAdd,reduceEqDiff]
   exact ex_ret ⟨.inl rfl, _, hR, rfl, rfl, rfl⟩
end Go.Proofs.YtnfeacnbgbggfaaGreatDoor
end

section
namespace Go.Proofs.YtnfeacnbgbggfaaGreatDoor
open Go.Eng
open Nat (reduceAdd reduceLT reduceLeDiff reduceMul reduceEqDiff reduceSub)
variable [Glob]
set_option maxHeartbeats 4000000
set_option maxRecDepth 100000
attribute [local irreducible] runM stepM valD stepOp stepD callF callS
theorem SzR.of {s : ByteArray} {a n j : Nat} {ok ok2 : Bool} (hn : n < 2 ^ 64) (hj : j ≤ s.size) (hok : ok = (scanL (from_ s a) 0 0).isSome) (hsc : ∀ n' k, scanL (from_ s a) 0 0 = some (n', k) → n = n' ∧ j = a + k) (h2 : ok2 = (ok && decide (n < 9223372036854775808))) : SzR s a (.tup [num (IntKind.i64.wrap (n : Int)), num j, bl ok2]) := by
 refine ⟨_, _, _, rfl, hj, ?_, fun n' k h => ?_⟩
 ·unfold rdI
  cases hs : scanL (from_ s a) 0 0 with
  | none => rw [hs] at hok; rw [h2, hok]; rfl
  | some p =>
   obtain ⟨n0, k0⟩ := p
   obtain ⟨rfl, rfl⟩ := hsc _ _ hs
   rw [hs] at hok
   rw [h2, hok]
   dsimp only
   by_cases h9 : n < 9223372036854775808 <;> simp [h9]
 ·unfold rdI at h
  cases hs : scanL (from_ s a) 0 0 with
  | none => rw [hs] at h; cases h
  | some p =>
   obtain ⟨n0, k0⟩ := p
   obtain ⟨rfl, rfl⟩ := hsc _ _ hs
   rw [hs] at h
   dsimp only at h
   split at h
   ·simp only [Option.some.injEq,Prod.mk.injEq] at h
    obtain ⟨rfl, rfl⟩ := h
    exact ⟨IntWalk.i64_in _ (by omega), rfl⟩
   ·cases h
theorem shr63 (x y : Operand) (k' : IntKind) (n : Nat) : lift2 Tryz.prog (opB .shr 136 x y) (.sc (.int .u64 (n : Int))) (.sc (.int k' 63)) = some (u64V (n / 9223372036854775808)) := by
 rw [ev_shr Tryz.prog 136 x y .u64 k' n 63 (by omega)]
 have : ((n : Int)).fdiv (2 ^ min (63 : Int).toNat IntKind.u64.bits) = ((n / 9223372036854775808 : Nat) : Int) := by
  show ((n : Int)).fdiv ((9223372036854775808 : Nat) : Int) = _
  rw [Int.fdiv_eq_ediv_of_nonneg _ (by omega)]; omega
 rw [this]; rfl
theorem rdI_bd {s : ByteArray} {a n j : Nat} (h : rdI s a = some (n, j)) : n < 9223372036854775808 ∧ j ≤ s.size := ⟨(of_rdI h).2.1, (of_rdI h).2.2.2.1⟩
theorem size_ok (s : ByteArray) (hs : s.size ≤ 1073741824) (a a0 : Nat) (e : Int) (ha : a ≤ s.size) : ∃ r_, SzR s a r_ ∧ FnOkS Tryz.prog 105 [.ptr 0 0, num a] ([.box [str s, num a0, num e]]) r_ ([.box [str s, num a0, num e]]) := by
 refine fns_ex tt_ok (fn := Tryz.f105) Tryz.func105 rfl Tryz.call105 (rfl) ?_
 simp only [ltb,startSt,Tryz.ntmps105,List.length_cons,List.length_nil,reduceAdd,reduceSub,List.replicate_succ,List.replicate_zero]
 have hT5 : Tryz.prog.underlying 5 = some (.int .u8) := by kernel_rfl
 have hT136 : Tryz.prog.underlying 136 = some (.int .u64) := by kernel_rfl
 have hT3 : Tryz.prog.underlying 3 = some (.int .i64) := by kernel_rfl
 have cv1 := fun (k : IntKind) (n : Int) => ev_conv (P := Tryz.prog) (src := 136) (dst := 5) hT136 hT5 k n
 have cv2 := fun (k : IntKind) (n : Int) => ev_conv (P := Tryz.prog) (src := 3) (dst := 136) hT3 hT136 k n
 have cv4 := fun (k : IntKind) (n : Int) => ev_conv (P := Tryz.prog) (src := 136) (dst := 3) hT136 hT3 k n
 refine ex_region_w tt_ok 26 [0,0,0,0,2,2,2] [] rfl rfl fun K hK => ?_
 simp only [ltb,go_sem]
 refine hK _ _ rfl ?_
 simp only [mwb,reduceAdd,reduceEqDiff]
 refine ex_region_w tt_ok 26 [0,0,0,0,0,0,0,2,2,2,1,1,1,1,1,1,1] [] rfl rfl fun K hK => ?_
 refine runX_cut 3 fun K1 hK1 => ?_
 simp only [ltb,go_sem,reduceLT,reduceEqDiff]
 refine callS_ex (scan_ok s hs a a0 e ha) ?_
 rintro _ ⟨n, j, ok, rfl, hn64, hjs, hok, hsc⟩
 try simp only [u64V,go_sem]
 have hsr := fun x y k => shr63 x y k n
 refine hK1 _ ?_
 simp only [ltb,go_sem,reduceLT,reduceEqDiff]
 refine hK _ _ rfl ?_
 simp only [mwb,reduceAdd,reduceEqDiff]
 refine ex_region_w tt_ok 26 (0::0::0::0::2::2::2::(rp 10 0 (rp 9 1 []))) [(4, 21)] rfl rfl fun K hK => ?_
 refine runX_cut 5 fun K1 hK1 => ?_
 simp only [ltb]
 simp only [cv4,go_sem,reduceLT,reduceEqDiff]
 refine hK1 _ ?_
 refine runX_case 21 (by rfl) fun b hb2_4 => ?_
 cases b
 ·have hR := SzR.of (ok2 := false) hn64 hjs hok hsc (by rw [hb2_4]; rfl)
  simp only [ltb,go_sem,reduceLT,reduceEqDiff]
  refine hK _ _ rfl ?_
  simp only [mwb,reduceAdd,reduceEqDiff]
  exact ex_ret ⟨.inl rfl, _, hR, rfl, rfl, rfl⟩
 ·have hR := SzR.of (ok2 := decide (((n / 9223372036854775808 : Nat) : Int) = 0)) hn64 hjs hok hsc (by rw [hb2_4, Bool.true_and, decide_eq_decide]; omega)
  try simp only [ltb]
  simp only [hsr,u64V,go_sem,reduceLT,reduceEqDiff]
  refine hK _ _ rfl ?_
  simp only [mwb,reduceAdd,reduceEqDiff]
  exact ex_ret ⟨.inl rfl, _, hR, rfl, rfl, rfl⟩
theorem text100_ok (s : ByteArray) (hs : s.size ≤ 1073741824) (a a0 : Nat) (e : Int) (ha : a ≤ s.size) : ∃ r_, (fun w => w = txV s a) r_ ∧ FnOkS Tryz.prog 100 [.ptr 0 0, num a] ([.box [str s, num a0, num e]]) r_ ([.box [str s, num a0, num e]]) := by
 refine fns_ex tt_ok (fn := Tryz.f100) Tryz.func100 rfl Tryz.call100 (rfl) ?_
 simp only [ltb,startSt,Tryz.ntmps100,List.length_cons,List.length_nil,reduceAdd,reduceSub,List.replicate_succ,List.replicate_zero]
 have hT9 : Tryz.prog.underlying 9 = some .string := by kernel_rfl
 have sl : ∀ (a : ByteArray) (ty : TypeId), liftL Tryz.prog (Builtin.len_ #[9] ty) [.sc (.string a)] = some (num a.size) := fun a ty => ev_slen (P := Tryz.prog) (tt := tt) (T := 9) a hT9 ty
 refine ex_region_w tt_ok 42 [0,0,0,0,2,2,2] [] rfl rfl fun K hK => ?_
 simp only [ltb,go_sem]
 refine hK _ _ rfl ?_
 simp only [mwb,reduceAdd,reduceEqDiff]
 refine ex_region_w tt_ok 42 [0,0,0,0,0,0,0,2,2,2,1,1,1,1,1,1,1] [] rfl rfl fun K hK => ?_
 refine runX_cut 3 fun K1 hK1 => ?_
 simp only [ltb,go_sem,reduceLT,reduceEqDiff]
 refine callS_ex (size_ok s hs a a0 e ha) ?_
 rintro _ ⟨n, j, ok, rfl, hjs, hok, hsc⟩
 try simp only [go_sem]
 refine hK1 _ ?_
 simp only [ltb,go_sem,reduceLT,reduceEqDiff]
 refine hK _ _ rfl ?_
 simp only [mwb,reduceAdd,reduceEqDiff]
 refine ex_seq ?_
 refine ex_region_w tt_ok 42 (rp 17 0 (rp 12 1 [2])) [(2, 19)] rfl rfl fun K hK => ?_
 refine runX_cut 3 fun K1 hK1 => ?_
 simp only [ltb,go_sem,reduceLT,reduceEqDiff]
 refine hK1 _ ?_
 refine runX_case 19 (by rfl) fun b hb2_2 => ?_
 cases b
 ·have hoT : ok = true := by simpa using hb2_2
  obtain ⟨n0, j0, hr⟩ : ∃ n0 j0, rdI s a = some (n0, j0) := by
   cases hr : rdI s a with
   | none => rw [hoT, hr] at hok; cases hok
   | some p => exact ⟨p.1, p.2, rfl⟩
  obtain ⟨rfl, rfl⟩ := hsc _ _ hr
  have hbd := rdI_bd hr
  have hws : IntKind.i64.wrap ((s.size : Int) - (j : Int)) = (s.size : Int) - (j : Int) := IntWalk.i64_in _ (by omega)
  refine runX_cut 8 fun K1 hK1 => ?_
  simp only [ltb]
  simp only [hws,sl,go_sem,reduceAdd,reduceLT,reduceLeDiff,reduceEqDiff,reduceCtorEq]
  refine hK1 _ ?_
  simp only [ltb,go_sem,reduceLT,reduceEqDiff]
  refine hK _ _ rfl ?_
  simp only [mwb,reduceAdd,reduceEqDiff]
  refine ex_if rfl (fun hc29 => ?_) (fun hc29 => ?_)
  ·have hR : txV s a = .tup [str ⟨#[]⟩, num 0, bl false] := by
    first
    | exact hR
    | (unfold txV rdT; rw [hr]; dsimp only; rw [if_neg (by have := of_decide_eq_true hc29; omega)])
   refine ex_region_w tt_ok 42 [0,0,0,0,2,2,2] [] rfl rfl fun K hK => ?_
   simp only [ltb,go_sem]
   refine hK _ _ rfl ?_
   simp only [mwb,reduceAdd,reduceEqDiff]
   exact ex_ret ⟨.inl rfl, _, hR.symm, rfl, rfl, rfl⟩
  ·have hle : n0 ≤ s.size - j := by have := of_decide_eq_false hc29; omega
   have hR : txV s a = .tup [str (s.extract j (j + n0)), num ((j + n0 : Nat) : Int), bl true] := by unfold txV rdT; rw [hr]; dsimp only; rw [if_pos hle]
   have hwa : IntKind.i64.wrap ((j : Int) + (n0 : Int)) = ((j + n0 : Nat) : Int) := by rw [IntWalk.i64_in _ (by omega)]; omega
   have hcm : lift2 Tryz.prog (fun a l => Instr.sliceAt 9 a (some l) (some (.int .i64 (((j + n0 : Nat) : Int)))) none) (.sc (.string s)) (.sc (.int .i64 ((j : Int)))) = some (.sc (.string (s.extract ((j : Int) : Int).toNat (((j + n0 : Nat) : Int) : Int).toNat))) := ev_cutmid (P := Tryz.prog) (tt := tt) (mem := []) (T := 9) s hT9 .i64 .i64 ((j : Int)) (((j + n0 : Nat) : Int)) (by omega) (by omega) (by omega)
   rw [Int.toNat_natCast, Int.toNat_natCast] at hcm
   refine ex_skip ?_
   show Go.Eng.Ex _ _ _ _ _ _
   refine ex_region_w tt_ok 42 (0::0::0::0::2::2::2::(rp 23 0 (rp 12 1 []))) [] rfl rfl fun K hK => ?_
   refine runX_cut 8 fun K1 hK1 => ?_
   simp only [ltb]
   simp only [hwa,go_sem,reduceAdd,reduceLT,reduceLeDiff,reduceEqDiff]
   refine hK1 _ ?_
   try simp only [ltb]
   simp only [hwa,hcm,toVal,go_sem,reduceLT,reduceEqDiff]
   refine hK _ _ rfl ?_
   simp only [mwb,reduceAdd,reduceEqDiff]
   exact ex_ret ⟨.inl rfl, _, hR.symm, rfl, rfl, rfl⟩
 ·have hoF : ok = false := by simpa using hb2_2
  have hR : txV s a = .tup [str ⟨#[]⟩, num 0, bl false] := by
   unfold txV rdT
   cases hr : rdI s a with
   | none => rfl
   | some p => rw [hoF, hr] at hok; cases hok
  refine runX_cut 8 fun K1 hK1 => ?_
  simp only [ltb,go_sem,reduceLT,reduceEqDiff]
  refine hK1 _ ?_
  simp only [ltb,go_sem,reduceLT,reduceEqDiff]
  refine hK _ _ rfl ?_
  simp only [mwb,reduceAdd,reduceEqDiff]
  refine ex_cond rfl ?_
  refine ex_region_w tt_ok 42 [0,0,0,0,2,2,2] [] rfl rfl fun K hK => ?_
  simp only [ltb,go_sem]
  refine hK _ _ rfl ?_
  simp only [mwb,reduceAdd,reduceEqDiff]
  exact ex_ret ⟨.inl rfl, _, hR.symm, rfl, rfl, rfl⟩
theorem size_at (s : ByteArray) (hs : s.size ≤ 1073741824) (a a0 : Nat) (e : Int) (ha : a ≤ s.size) (M : List Blk) (k : Nat) (hk : M[k]? = some (.box [str s, num a0, num e])) : ∃ r_, SzR s a r_ ∧ FnOkS Tryz.prog 105 [.ptr k 0, num a] M r_ M := by
 obtain ⟨r, hr, h⟩ := size_ok s hs a a0 e ha
 have hr' := hr
 obtain ⟨n, j, ok, rfl, -⟩ := hr'
 have h3 := fnOkS_at1 h M k (by simp [belowV]) (by simp [belowB, belowV]) (by simp [belowV, belowL]) (by simp [belowB, belowV]) (fun σ => by simp [renB, renL, renV]) (fun σ => by simp [renB, renL, renV]) hk
 rw [set_same hk] at h3
 exact ⟨_, hr, by simpa [renL, renV] using h3⟩
def stI (s : ByteArray) (a : Nat) (e : Int) : Nat × Nat × Int := if e ≠ 0 then (0, a, e) else match rdI s a with | some (n, j) => (n, j, 0) | none => (0, a, 9)
def stT (s : ByteArray) (a : Nat) (e : Int) : ByteArray × Nat × Int := if e ≠ 0 then (⟨#[]⟩, a, e) else match rdT s a with | some (t, j) => (t, j, 0) | none => (⟨#[]⟩, a, 9)
def stC (most : Int) (s : ByteArray) (a : Nat) (e : Int) : Nat × Nat × Int := if e ≠ 0 then (0, a, e) else match rdI s a with | some (n, j) => if (n : Int) ≤ most then (n, j, 0) else (0, a, 9) | none => (0, a, 9)
def CtR (most : Int) (s : ByteArray) (a : Nat) (r : V) : Prop := ∃ (n : Int) (j : Nat) (ok : Bool), r = .tup [num n, num j, bl ok] ∧ (ok = match rdI s a with | some (n', _) => decide ((n' : Int) ≤ most) | none => false) ∧ ∀ n' k, rdI s a = some (n', k) → n = n' ∧ j = k
theorem cnt106_ok (s : ByteArray) (hs : s.size ≤ 1073741824) (most : Int) (a a0 : Nat) (e : Int) (ha : a ≤ s.size) : ∃ r_, CtR most s a r_ ∧ FnOkS Tryz.prog 106 [num a, .ptr 1 0, .ptr 2 0] ([.box [str s, num a0, num e], .box [.ptr 0 0], .box [num most]]) r_ ([.box [str s, num a0, num e], .box [.ptr 0 0], .box [num most]]) := by
 refine fns_ex tt_ok (fn := Tryz.f106) Tryz.func106 rfl Tryz.call106 (rfl) ?_
 simp only [ltb,startSt,Tryz.ntmps106,List.length_cons,List.length_nil,reduceAdd,reduceSub,List.replicate_succ,List.replicate_zero]
 refine ex_region_w tt_ok 25 [0,0,0,0,2,2,2] [] rfl rfl fun K hK => ?_
 simp only [ltb,go_sem,reduceAdd]
 refine hK _ _ rfl ?_
 simp only [mwb,reduceAdd,reduceEqDiff]
 refine ex_region_w tt_ok 25 [0,0,0,0,0,0,0,2,2,2,1,1,1,1,1,1,1] [] rfl rfl fun K hK => ?_
 refine runX_cut 3 fun K1 hK1 => ?_
 simp only [ltb,go_sem,reduceAdd,reduceLT,reduceEqDiff,reduceCtorEq]
 refine callS_ex (size_at s hs a a0 e ha _ 0 rfl) ?_
 rintro _ ⟨n, j, ok, rfl, hjs, hok, hsc⟩
 try simp only [go_sem]
 refine hK1 _ ?_
 simp only [ltb,go_sem,reduceAdd,reduceLT,reduceEqDiff]
 refine hK _ _ rfl ?_
 simp only [mwb,reduceAdd,reduceEqDiff]
 refine ex_mixed_w tt_ok mixed_ok 25 [0,0,0,0,2,2,2,0,0,0,0,0,0,0,0,0,0,1,1,1,1,1,1,1,1] (by kernel_rfl) [⟨.n, 0, [], [], []⟩, ⟨.n, 0, [], [], []⟩, ⟨.n, 0, [], [], []⟩, ⟨.n, 0, [], [], []⟩, ⟨.n, 0, [], [], []⟩, ⟨.r, 0, [], [], []⟩, ⟨.n, 0, [], [], []⟩, ⟨.n, 0, [], [], []⟩, ⟨.n, 0, [], [], []⟩, ⟨.n, 0, [], [], []⟩, ⟨.n, 0, [], [], []⟩] 0 (by kernel_rfl) fun K hK => ?_
 try simp only [ltb,List.replicate_zero]
 refine runM_cut 4 (by simp) (by simp) fun K1 hK1 => ?_
 simp only [ltb,go_sem,reduceAdd,reduceLT,reduceEqDiff]
 refine hK1 _ ?_
 refine runM_case 20 (by rfl) fun b hb2_3 => ?_
 cases b
 ·have hR : CtR most s a (.tup [num n, num j, bl false]) := by
   refine ⟨_, _, _, rfl, ?_, hsc⟩
   cases hr : rdI s a with
   | none => rfl
   | some p => rw [hr] at hok; rw [hok] at hb2_3; cases hb2_3
  refine runM_cut 6 (by simp) (by simp) fun K1 hK1 => ?_
  simp only [ltb,go_sem,reduceAdd,reduceLT,reduceEqDiff]
  refine hK1 _ ?_
  simp only [ltb,go_sem,reduceAdd,reduceLT,reduceEqDiff]
  refine hK _ _ rfl ?_
  simp only [mwb,reduceAdd,reduceEqDiff]
  exact ex_ret ⟨.inl rfl, _, hR, rfl, rfl, rfl⟩
 ·have hR : CtR most s a (.tup [num n, num j, bl (decide (n ≤ most))]) := by
   refine ⟨_, _, _, rfl, ?_, hsc⟩
   cases hr : rdI s a with
   | none => rw [hr] at hok; rw [hok] at hb2_3; cases hb2_3
   | some p => obtain ⟨n0, j0⟩ := p; obtain ⟨rfl, rfl⟩ := hsc _ _ hr; rfl
  refine runM_cut 6 (by simp) (by simp) fun K1 hK1 => ?_
  simp only [ltb,go_sem,reduceAdd,reduceLT,reduceEqDiff]
  refine hK1 _ ?_
  simp only [ltb,go_sem,reduceAdd,reduceLT,reduceEqDiff]
  refine hK _ _ rfl ?_
  simp only [mwb,reduceAdd,reduceEqDiff]
  exact ex_ret ⟨.inl rfl, _, hR, rfl, rfl, rfl⟩
theorem takeI_ok (s : ByteArray) (hs : s.size ≤ 1073741824) (a : Nat) (e : Int) (ha : a ≤ s.size) : ∃ r_ m_, (fun r m => r = num (stI s a e).1 ∧ m = [.box [str s, num (stI s a e).2.1, num (stI s a e).2.2]]) r_ m_ ∧ FnOkS Tryz.prog 104 [.ptr 0 0, .clo (.func 105) [.ptr 0 0] []] ([.box [str s, num a, num e]]) r_ m_ := by
 refine fnw_ex tt_ok (fn := Tryz.f104) (1) (by simp) Tryz.func104 rfl Tryz.call104 ?_
 simp only [ltb,startSt,Tryz.ntmps104,List.length_cons,List.length_nil,reduceAdd,reduceSub,List.replicate_succ,List.replicate_zero]
 obtain ⟨σ, hσ⟩ : ∃ x, x = stI s a e := ⟨_, rfl⟩
 rw [← hσ]
 refine ex_region_w tt_ok 36 [0,0,0,0,2] [] rfl rfl fun K hK => ?_
 simp only [ltb,go_sem]
 refine hK _ _ rfl ?_
 simp only [mwb,reduceAdd]
 refine ex_region_w tt_ok 36 [0,0,0,0,0,2] [] rfl rfl fun K hK => ?_
 simp only [ltb,go_sem]
 refine hK _ _ rfl ?_
 simp only [mwb,reduceAdd]
 refine ex_seq ?_
 refine ex_region_w tt_ok 36 (rp 9 0 [1,1,1,1,2]) [] rfl rfl fun K hK => ?_
 simp only [ltb,go_sem,reduceLT,reduceEqDiff]
 refine hK _ _ rfl ?_
 simp only [mwb,reduceAdd,reduceEqDiff]
 refine ex_if rfl (fun hc13 => ?_) (fun hc13 => ?_)
 ·have he : e ≠ 0 := by simpa using hc13
  have hs2 : σ = (0, a, e) := by rw [hσ]; unfold stI; rw [if_pos he]
  subst hs2
  refine ex_region_w tt_ok 36 [0,0,0,0,2,0,0,0,0,0,0,0,0,0,1] [] rfl rfl fun K hK => ?_
  simp only [ltb,go_sem,reduceLT]
  refine hK _ _ rfl ?_
  simp only [mwb,reduceAdd,reduceEqDiff]
  exact ex_ret ⟨.inl rfl, _, ⟨rfl, rfl⟩, rfl, rfl, rfl⟩
 ·have he : e = 0 := by simpa using hc13
  subst he
  refine ex_skip ?_
  show Go.Eng.Ex _ _ _ _ _ _
  refine ex_region_w tt_ok 36 [0,0,0,0,0,0,2,2,2,0,0,0,0,0,0,1,1,1,1,1,1,1,1,1,1] [] rfl rfl fun K hK => ?_
  refine runX_cut 6 fun K1 hK1 => ?_
  simp only [ltb,go_sem,reduceAdd,reduceLT,reduceLeDiff,reduceEqDiff,reduceCtorEq]
  refine callS_ex (size_ok s hs a a 0 ha) ?_
  rintro _ ⟨n, j, ok, rfl, hjs, hok, hsc⟩
  try simp only [go_sem]
  refine hK1 _ ?_
  simp only [ltb,go_sem,reduceLT,reduceEqDiff]
  refine hK _ _ rfl ?_
  simp only [mwb,reduceAdd,reduceEqDiff]
  refine ex_seq ?_
  refine ex_region_w tt_ok 36 (rp 25 0 [1,2]) [] rfl rfl fun K hK => ?_
  simp only [ltb,go_sem,reduceLT]
  refine hK _ _ rfl ?_
  simp only [mwb,reduceAdd,reduceEqDiff]
  refine ex_if rfl (fun hc26 => ?_) (fun hc26 => ?_)
  ·have hoF : ok = false := by simpa using hc26
   have hr : rdI s a = none := by
    cases hr : rdI s a with
    | none => rfl
    | some p => rw [hoF, hr] at hok; cases hok
   have hs2 : σ = (0, a, 9) := by rw [hσ]; unfold stI; rw [if_neg (by simp), hr]
   subst hs2
   refine ex_region_w tt_ok 36 (rp 27 0 [1,1,1]) [] rfl rfl fun K hK => ?_
   simp only [ltb,go_sem,reduceAdd,reduceLT,reduceEqDiff]
   refine hK _ _ rfl ?_
   simp only [mwb]
   refine ex_region_w tt_ok 36 (0::0::0::0::2::(rp 25 0 [1])) [] rfl rfl fun K hK => ?_
   simp only [ltb,go_sem,reduceLT]
   refine hK _ _ rfl ?_
   simp only [mwb,reduceAdd,reduceEqDiff]
   exact ex_ret ⟨.inl rfl, _, ⟨rfl, rfl⟩, rfl, rfl, rfl⟩
  ·have hoT : ok = true := by simpa using hc26
   obtain ⟨n0, j0, hr⟩ : ∃ n0 j0, rdI s a = some (n0, j0) := by
    cases hr : rdI s a with
    | none => rw [hoT, hr] at hok; cases hok
    | some p => exact ⟨p.1, p.2, rfl⟩
   obtain ⟨rfl, rfl⟩ := hsc _ _ hr
   have hs2 : σ = (n0, j, 0) := by rw [hσ]; unfold stI; rw [if_neg (by simp), hr]
   subst hs2
   refine ex_skip ?_
   show Go.Eng.Ex _ _ _ _ _ _
   refine ex_region_w tt_ok 36 (rp 31 0 [1,1,1,1]) [] rfl rfl fun K hK => ?_
   simp only [ltb,go_sem,reduceAdd,reduceLT,reduceLeDiff,reduceEqDiff]
   refine hK _ _ rfl ?_
   simp only [mwb]
   refine ex_region_w tt_ok 36 (0::0::0::0::2::(rp 30 0 [1])) [] rfl rfl fun K hK => ?_
   simp only [ltb,go_sem,reduceLT]
   refine hK _ _ rfl ?_
   simp only [mwb,reduceAdd,reduceEqDiff]
   exact ex_ret ⟨.inl rfl, _, ⟨rfl, rfl⟩, rfl, rfl, rfl⟩
theorem takeC_ok (s : ByteArray) (hs : s.size ≤ 1073741824) (most : Int) (a : Nat) (e : Int) (ha : a ≤ s.size) : ∃ r_ m_, (fun r m => r = num (stC most s a e).1 ∧ m = [.box [str s, num (stC most s a e).2.1, num (stC most s a e).2.2], .box [.ptr 0 0], .box [num most]]) r_ m_ ∧ FnOkS Tryz.prog 104 [.ptr 0 0, .clo (.func 106) [] [.ptr 1 0, .ptr 2 0]] ([.box [str s, num a, num e], .box [.ptr 0 0], .box [num most]]) r_ m_ := by
 refine fnw_ex tt_ok (fn := Tryz.f104) (3) (by simp) Tryz.func104 rfl Tryz.call104 ?_
 simp only [ltb,startSt,Tryz.ntmps104,List.length_cons,List.length_nil,reduceAdd,reduceSub,List.replicate_succ,List.replicate_zero]
 obtain ⟨σ, hσ⟩ : ∃ x, x = stC most s a e := ⟨_, rfl⟩
 rw [← hσ]
 refine ex_region_w tt_ok 36 [0,0,0,0,2] [] rfl rfl fun K hK => ?_
 simp only [ltb,go_sem,reduceAdd]
 refine hK _ _ rfl ?_
 simp only [mwb,reduceAdd]
 refine ex_region_w tt_ok 36 [0,0,0,0,0,2] [] rfl rfl fun K hK => ?_
 simp only [ltb,go_sem,reduceAdd]
 refine hK _ _ rfl ?_
 simp only [mwb,reduceAdd]
 refine ex_seq ?_
 refine ex_region_w tt_ok 36 (rp 9 0 [1,1,1,1,2]) [] rfl rfl fun K hK => ?_
 simp only [ltb,go_sem,reduceAdd,reduceLT,reduceEqDiff]
 refine hK _ _ rfl ?_
 simp only [mwb,reduceAdd,reduceEqDiff]
 refine ex_if rfl (fun hc13 => ?_) (fun hc13 => ?_)
 ·have he : e ≠ 0 := by simpa using hc13
  have hs2 : σ = (0, a, e) := by rw [hσ]; unfold stC; rw [if_pos he]
  subst hs2
  refine ex_region_w tt_ok 36 [0,0,0,0,2,0,0,0,0,0,0,0,0,0,1] [] rfl rfl fun K hK => ?_
  simp only [ltb,go_sem,reduceAdd,reduceLT]
  refine hK _ _ rfl ?_
  simp only [mwb,reduceAdd,reduceEqDiff]
  exact ex_ret ⟨.inl rfl, _, ⟨rfl, rfl⟩, rfl, rfl, rfl⟩
 ·have he : e = 0 := by simpa using hc13
  subst he
  refine ex_skip ?_
  show Go.Eng.Ex _ _ _ _ _ _
  refine ex_region_w tt_ok 36 [0,0,0,0,0,0,2,2,2,0,0,0,0,0,0,1,1,1,1,1,1,1,1,1,1] [] rfl rfl fun K hK => ?_
  refine runX_cut 6 fun K1 hK1 => ?_
  simp only [ltb,go_sem,reduceAdd,reduceLT,reduceLeDiff,reduceEqDiff,reduceCtorEq]
  refine callS_ex (cnt106_ok s hs most a a 0 ha) ?_
  rintro _ ⟨n, j, ok, rfl, hok, hsc⟩
  try simp only [go_sem]
  refine hK1 _ ?_
  simp only [ltb,go_sem,reduceAdd,reduceLT,reduceEqDiff]
  refine hK _ _ rfl ?_
  simp only [mwb,reduceAdd,reduceEqDiff]
  refine ex_seq ?_
  refine ex_region_w tt_ok 36 (rp 25 0 [1,2]) [] rfl rfl fun K hK => ?_
  simp only [ltb,go_sem,reduceAdd,reduceLT]
  refine hK _ _ rfl ?_
  simp only [mwb,reduceAdd,reduceEqDiff]
  refine ex_if rfl (fun hc26 => ?_) (fun hc26 => ?_)
  ·have hoF : ok = false := by simpa using hc26
   have hs2 : σ = (0, a, 9) := by
    rw [hσ]; unfold stC; rw [if_neg (by simp)]
    cases hr : rdI s a with
    | none => rfl
    | some p =>
     obtain ⟨n0, j0⟩ := p
     rw [hoF, hr] at hok
     exact if_neg (of_decide_eq_false hok.symm)
   subst hs2
   refine ex_region_w tt_ok 36 (rp 27 0 [1,1,1]) [] rfl rfl fun K hK => ?_
   simp only [ltb,go_sem,reduceAdd,reduceLT,reduceEqDiff]
   refine hK _ _ rfl ?_
   simp only [mwb]
   refine ex_region_w tt_ok 36 (0::0::0::0::2::(rp 25 0 [1])) [] rfl rfl fun K hK => ?_
   simp only [ltb,go_sem,reduceAdd,reduceLT]
   refine hK _ _ rfl ?_
   simp only [mwb,reduceAdd,reduceEqDiff]
   exact ex_ret ⟨.inl rfl, _, ⟨rfl, rfl⟩, rfl, rfl, rfl⟩
  ·have hoT : ok = true := by simpa using hc26
   obtain ⟨n0, j0, hr⟩ : ∃ n0 j0, rdI s a = some (n0, j0) := by
    cases hr : rdI s a with
    | none => rw [hoT, hr] at hok; cases hok
    | some p => exact ⟨p.1, p.2, rfl⟩
   obtain ⟨rfl, rfl⟩ := hsc _ _ hr
   rw [hoT, hr] at hok
   have hs2 : σ = (n0, j, 0) := by rw [hσ]; unfold stC; rw [if_neg (by simp), hr]; exact if_pos (of_decide_eq_true hok.symm)
   subst hs2
   refine ex_skip ?_
   show Go.Eng.Ex _ _ _ _ _ _
   refine ex_region_w tt_ok 36 (rp 31 0 [1,1,1,1]) [] rfl rfl fun K hK => ?_
   simp only [ltb,go_sem,reduceAdd,reduceLT,reduceLeDiff,reduceEqDiff]
   refine hK _ _ rfl ?_
   simp only [mwb]
   refine ex_region_w tt_ok 36 (0::0::0::0::2::(rp 30 0 [1])) [] rfl rfl fun K hK => ?_
   simp only [ltb,go_sem,reduceAdd,reduceLT]
   refine hK _ _ rfl ?_
   simp only [mwb,reduceAdd,reduceEqDiff]
   exact ex_ret ⟨.inl rfl, _, ⟨rfl, rfl⟩, rfl, rfl, rfl⟩
theorem tx_ex (s : ByteArray) (hs : s.size ≤ 1073741824) (a a0 : Nat) (e : Int) (ha : a ≤ s.size) : ∃ r_, (∃ (t : ByteArray) (j : Nat) (ok : Bool), r_ = .tup [str t, num j, bl ok] ∧ (ok = true → rdT s a = some (t, j)) ∧ (ok = false → rdT s a = none)) ∧ FnOkS Tryz.prog 100 [.ptr 0 0, num a] [.box [str s, num a0, num e]] r_ [.box [str s, num a0, num e]] := by
 obtain ⟨r, rfl, h⟩ := text100_ok s hs a a0 e ha
 refine ⟨_, ?_, h⟩
 unfold txV
 cases hr : rdT s a with
 | none => exact ⟨_, 0, _, rfl, (fun h => by cases h), fun _ => rfl⟩
 | some p => obtain ⟨t, j⟩ := p; exact ⟨_, _, _, rfl, (fun _ => rfl), fun h => by cases h⟩
theorem takeT_ok (s : ByteArray) (hs : s.size ≤ 1073741824) (a : Nat) (e : Int) (ha : a ≤ s.size) : ∃ r_ m_, (fun r m => r = str (stT s a e).1 ∧ m = [.box [str s, num (stT s a e).2.1, num (stT s a e).2.2]]) r_ m_ ∧ FnOkS Tryz.prog 99 [.ptr 0 0, .clo (.func 100) [.ptr 0 0] []] ([.box [str s, num a, num e]]) r_ m_ := by
 refine fnw_ex tt_ok (fn := Tryz.f99) (1) (by simp) Tryz.func99 rfl Tryz.call99 ?_
 simp only [ltb,startSt,Tryz.ntmps99,List.length_cons,List.length_nil,reduceAdd,reduceSub,List.replicate_succ,List.replicate_zero]
 obtain ⟨σ, hσ⟩ : ∃ x, x = stT s a e := ⟨_, rfl⟩
 rw [← hσ]
 refine ex_region_w tt_ok 36 [0,0,0,0,2] [] rfl rfl fun K hK => ?_
 simp only [ltb,go_sem]
 refine hK _ _ rfl ?_
 simp only [mwb,reduceAdd]
 refine ex_region_w tt_ok 36 [0,0,0,0,0,2] [] rfl rfl fun K hK => ?_
 simp only [ltb,go_sem]
 refine hK _ _ rfl ?_
 simp only [mwb,reduceAdd]
 refine ex_seq ?_
 refine ex_region_w tt_ok 36 (rp 9 0 [1,1,1,1,2]) [] rfl rfl fun K hK => ?_
 simp only [ltb,go_sem,reduceLT,reduceEqDiff]
 refine hK _ _ rfl ?_
 simp only [mwb,reduceAdd,reduceEqDiff]
 refine ex_if rfl (fun hc13 => ?_) (fun hc13 => ?_)
 ·have he : e ≠ 0 := by simpa using hc13
  have hs2 : σ = (⟨#[]⟩, a, e) := by rw [hσ]; unfold stT; rw [if_pos he]
  subst hs2
  refine ex_region_w tt_ok 36 [0,0,0,0,2,0,0,0,0,0,0,0,0,0,1] [] rfl rfl fun K hK => ?_
  simp only [ltb,go_sem,reduceLT]
  refine hK _ _ rfl ?_
  simp only [mwb,reduceAdd,reduceEqDiff]
  exact ex_ret ⟨.inl rfl, _, ⟨rfl, rfl⟩, rfl, rfl, rfl⟩
 ·have he : e = 0 := by simpa using hc13
  subst he
  refine ex_skip ?_
  show Go.Eng.Ex _ _ _ _ _ _
  refine ex_region_w tt_ok 36 [0,0,0,0,0,0,2,2,2,0,0,0,0,0,0,1,1,1,1,1,1,1,1,1,1] [] rfl rfl fun K hK => ?_
  refine runX_cut 6 fun K1 hK1 => ?_
  simp only [ltb,go_sem,reduceAdd,reduceLT,reduceLeDiff,reduceEqDiff,reduceCtorEq]
  refine callS_ex (tx_ex s hs a a 0 ha) ?_
  rintro _ ⟨t, j, ok, rfl, hok, hno⟩
  try simp only [go_sem]
  refine hK1 _ ?_
  simp only [ltb,go_sem,reduceLT,reduceEqDiff]
  refine hK _ _ rfl ?_
  simp only [mwb,reduceAdd,reduceEqDiff]
  refine ex_seq ?_
  refine ex_region_w tt_ok 36 (rp 25 0 [1,2]) [] rfl rfl fun K hK => ?_
  simp only [ltb,go_sem,reduceLT]
  refine hK _ _ rfl ?_
  simp only [mwb,reduceAdd,reduceEqDiff]
  refine ex_if rfl (fun hc26 => ?_) (fun hc26 => ?_)
  ·have hoF : ok = false := by simpa using hc26
   have hr := hno hoF
   have hs2 : σ = (⟨#[]⟩, a, 9) := by rw [hσ]; unfold stT; rw [if_neg (by simp), hr]
   subst hs2
   refine ex_region_w tt_ok 36 (rp 27 0 [1,1,1]) [] rfl rfl fun K hK => ?_
   simp only [ltb,go_sem,reduceAdd,reduceLT,reduceEqDiff]
   refine hK _ _ rfl ?_
   simp only [mwb]
   refine ex_region_w tt_ok 36 (0::0::0::0::2::(rp 25 0 [1])) [] rfl rfl fun K hK => ?_
   simp only [ltb,go_sem,reduceLT]
   refine hK _ _ rfl ?_
   simp only [mwb,reduceAdd,reduceEqDiff]
   exact ex_ret ⟨.inl rfl, _, ⟨rfl, rfl⟩, rfl, rfl, rfl⟩
  ·have hoT : ok = true := by simpa using hc26
   have hr := hok hoT
   have hs2 : σ = (t, j, 0) := by rw [hσ]; unfold stT; rw [if_neg (by simp), hr]
   subst hs2
   refine ex_skip ?_
   show Go.Eng.Ex _ _ _ _ _ _
   refine ex_region_w tt_ok 36 (rp 31 0 [1,1,1,1]) [] rfl rfl fun K hK => ?_
   simp only [ltb,go_sem,reduceAdd,reduceLT,reduceLeDiff,reduceEqDiff]
   refine hK _ _ rfl ?_
   simp only [mwb]
   refine ex_region_w tt_ok 36 (0::0::0::0::2::(rp 30 0 [1])) [] rfl rfl fun K hK => ?_
   simp only [ltb,go_sem,reduceLT]
   refine hK _ _ rfl ?_
   simp only [mwb,reduceAdd,reduceEqDiff]
   exact ex_ret ⟨.inl rfl, _, ⟨rfl, rfl⟩, rfl, rfl, rfl⟩
end Go.Proofs.YtnfeacnbgbggfaaGreatDoor
end

section
namespace Go.Proofs.YtnfeacnbgbggfaaGreatDoor
open Go.Eng
open Nat (reduceAdd reduceLT reduceLeDiff reduceMul reduceEqDiff reduceSub)
variable [Glob]
set_option maxHeartbeats 4000000
set_option maxRecDepth 100000
attribute [local irreducible] runM stepM valD stepOp stepD callF callS
def endE (s : ByteArray) (a : Nat) (e : Int) : Int := if e = 0 ∧ a < s.size then 9 else e
theorem rtext_ok (s : ByteArray) (hs : s.size ≤ 1073741824) (a : Nat) (e : Int) (ha : a ≤ s.size) : ∃ r_ m_, (fun r m => r = str (stT s a e).1 ∧ m = [.box [str s, num (stT s a e).2.1, num (stT s a e).2.2]]) r_ m_ ∧ FnOkS Tryz.prog 64 [.ptr 0 0] ([.box [str s, num a, num e]]) r_ m_ := by
 refine fnw_ex tt_ok (fn := Tryz.f64) (1) (by simp) Tryz.func64 rfl Tryz.call64 ?_
 simp only [ltb,startSt,Tryz.ntmps64,List.length_cons,List.length_nil,reduceAdd,reduceSub,List.replicate_succ,List.replicate_zero]
 refine ex_region_w tt_ok 7 [0,0,2] [] rfl rfl fun K hK => ?_
 simp only [ltb,go_sem]
 refine hK _ _ rfl ?_
 simp only [mwb,reduceAdd]
 refine ex_region_w tt_ok 7 [0,0,2,1,1,1,1] [] rfl rfl fun K hK => ?_
 refine runX_cut 4 fun K1 hK1 => ?_
 simp only [ltb,go_sem,reduceLT,reduceEqDiff,reduceCtorEq]
 refine callS_w (takeT_ok s hs a e ha) ?_
 rintro _ _ ⟨rfl, rfl⟩
 try simp only [go_sem]
 refine hK1 _ ?_
 simp only [ltb,go_sem,reduceLT,reduceEqDiff]
 refine hK _ _ rfl ?_
 simp only [mwb,reduceAdd,reduceEqDiff]
 exact ex_ret ⟨.inl rfl, _, ⟨rfl, rfl⟩, rfl, rfl, rfl⟩
theorem ruint_ok (s : ByteArray) (hs : s.size ≤ 1073741824) (a : Nat) (e : Int) (ha : a ≤ s.size) : ∃ r_ m_, (fun r m => r = num (stI s a e).1 ∧ m = [.box [str s, num (stI s a e).2.1, num (stI s a e).2.2]]) r_ m_ ∧ FnOkS Tryz.prog 66 [.ptr 0 0] ([.box [str s, num a, num e]]) r_ m_ := by
 refine fnw_ex tt_ok (fn := Tryz.f66) (1) (by simp) Tryz.func66 rfl Tryz.call66 ?_
 simp only [ltb,startSt,Tryz.ntmps66,List.length_cons,List.length_nil,reduceAdd,reduceSub,List.replicate_succ,List.replicate_zero]
 refine ex_region_w tt_ok 7 [0,0,2] [] rfl rfl fun K hK => ?_
 simp only [ltb,go_sem]
 refine hK _ _ rfl ?_
 simp only [mwb,reduceAdd]
 refine ex_region_w tt_ok 7 [0,0,2,1,1,1,1] [] rfl rfl fun K hK => ?_
 refine runX_cut 4 fun K1 hK1 => ?_
 simp only [ltb,go_sem,reduceLT,reduceEqDiff,reduceCtorEq]
 refine callS_w (takeI_ok s hs a e ha) ?_
 rintro _ _ ⟨rfl, rfl⟩
 try simp only [go_sem]
 refine hK1 _ ?_
 simp only [ltb,go_sem,reduceLT,reduceEqDiff]
 refine hK _ _ rfl ?_
 simp only [mwb,reduceAdd,reduceEqDiff]
 exact ex_ret ⟨.inl rfl, _, ⟨rfl, rfl⟩, rfl, rfl, rfl⟩
theorem rcount_ok (s : ByteArray) (hs : s.size ≤ 1073741824) (most : Int) (a : Nat) (e : Int) (ha : a ≤ s.size) : ∃ r_ m_, (fun r m => r = num (stC most s a e).1 ∧ m = [.box [str s, num (stC most s a e).2.1, num (stC most s a e).2.2]]) r_ m_ ∧ FnOkS Tryz.prog 67 [.ptr 0 0, num most] ([.box [str s, num a, num e]]) r_ m_ := by
 refine fnw_ex tt_ok (fn := Tryz.f67) (1) (by simp) Tryz.func67 rfl Tryz.call67 ?_
 simp only [ltb,startSt,Tryz.ntmps67,List.length_cons,List.length_nil,reduceAdd,reduceSub,List.replicate_succ,List.replicate_zero]
 refine ex_region_w tt_ok 8 [0,0,2,2,2] [] rfl rfl fun K hK => ?_
 simp only [ltb,go_sem,reduceAdd,reduceLT,reduceEqDiff]
 refine hK _ _ rfl ?_
 simp only [mwb,reduceAdd,reduceEqDiff]
 refine ex_region_w tt_ok 8 [0,0,0,0,2,1,1,1] [] rfl rfl fun K hK => ?_
 refine runX_cut 3 fun K1 hK1 => ?_
 simp only [ltb,go_sem,reduceAdd,reduceLT,reduceEqDiff]
 refine callS_w (takeC_ok s hs most a e ha) ?_
 rintro _ _ ⟨rfl, rfl⟩
 try simp only [go_sem]
 refine hK1 _ ?_
 simp only [ltb,go_sem,reduceAdd,reduceLT,reduceEqDiff]
 refine hK _ _ rfl ?_
 simp only [mwb,reduceAdd,reduceEqDiff]
 exact ex_ret ⟨.inl rfl, _, ⟨rfl, rfl⟩, rfl, rfl, rfl⟩
theorem rtext_at (s : ByteArray) (hs : s.size ≤ 1073741824) (a : Nat) (e : Int) (ha : a ≤ s.size) (M : List Blk) (k : Nat) (hk : M[k]? = some (.box [str s, num a, num e])) :
  ∃ r_ m_, (fun r m => r = str (stT s a e).1 ∧ m = M.set k (.box [str s, num (stT s a e).2.1, num (stT s a e).2.2])) r_ m_ ∧ FnOkS Tryz.prog 64 [.ptr k 0] M r_ m_ := by
 obtain ⟨r, m, ⟨rfl, rfl⟩, h⟩ := rtext_ok s hs a e ha
 have h3 := fnOkS_at1 h M k (by simp [belowV]) (by simp [belowB, belowV]) (by simp [belowV]) (by simp [belowB, belowV]) (fun σ => by simp [renB, renL, renV]) (fun σ => by simp [renB, renL, renV]) hk
 exact ⟨_, _, ⟨rfl, rfl⟩, by simpa [renL, renV] using h3⟩
theorem ruint_at (s : ByteArray) (hs : s.size ≤ 1073741824) (a : Nat) (e : Int) (ha : a ≤ s.size) (M : List Blk) (k : Nat) (hk : M[k]? = some (.box [str s, num a, num e])) :
  ∃ r_ m_, (fun r m => r = num (stI s a e).1 ∧ m = M.set k (.box [str s, num (stI s a e).2.1, num (stI s a e).2.2])) r_ m_ ∧ FnOkS Tryz.prog 66 [.ptr k 0] M r_ m_ := by
 obtain ⟨r, m, ⟨rfl, rfl⟩, h⟩ := ruint_ok s hs a e ha
 have h3 := fnOkS_at1 h M k (by simp [belowV]) (by simp [belowB, belowV]) (by simp [belowV]) (by simp [belowB, belowV]) (fun σ => by simp [renB, renL, renV]) (fun σ => by simp [renB, renL, renV]) hk
 exact ⟨_, _, ⟨rfl, rfl⟩, by simpa [renL, renV] using h3⟩
theorem ruint_at_e (s : ByteArray) (hs : s.size ≤ 1073741824) (a : Nat) (e : Int) (ha : a ≤ s.size) (k : Nat) :
  ∃ r_ B, (fun r B => r = num (stI s a e).1 ∧ B = .box [str s, num (stI s a e).2.1, num (stI s a e).2.2]) r_ B ∧ B.ver = 0 ∧ ∀ M : List Blk, M[k]? = some (.box [str s, num a, num e]) → FnOkS Tryz.prog 66 [.ptr k 0] M r_ (M.set k B) :=
 ⟨_, _, ⟨rfl, rfl⟩, rfl, fun M hk => by obtain ⟨r, m, ⟨rfl, rfl⟩, h⟩ := ruint_at s hs a e ha M k hk; exact h⟩
theorem rcount_at (s : ByteArray) (hs : s.size ≤ 1073741824) (most : Int) (a : Nat) (e : Int) (ha : a ≤ s.size) (M : List Blk) (k : Nat) (hk : M[k]? = some (.box [str s, num a, num e])) :
  ∃ r_ m_, (fun r m => r = num (stC most s a e).1 ∧ m = M.set k (.box [str s, num (stC most s a e).2.1, num (stC most s a e).2.2])) r_ m_ ∧ FnOkS Tryz.prog 67 [.ptr k 0, num most] M r_ m_ := by
 obtain ⟨r, m, ⟨rfl, rfl⟩, h⟩ := rcount_ok s hs most a e ha
 have h3 := fnOkS_at1 h M k (by simp [belowV]) (by simp [belowB, belowV]) (by simp [belowV]) (by simp [belowB, belowV]) (fun σ => by simp [renB, renL, renV]) (fun σ => by simp [renB, renL, renV]) hk
 exact ⟨_, _, ⟨rfl, rfl⟩, by simpa [renL, renV] using h3⟩
theorem rerror_ok (s : ByteArray) (hs : s.size ≤ 1073741824) (a : Nat) (e : Int) : ∃ r_, (fun w => w = num e) r_ ∧ FnOkS Tryz.prog 68 [.ptr 0 0] ([.box [str s, num a, num e]]) r_ ([.box [str s, num a, num e]]) := by
 refine fns_ex tt_ok (fn := Tryz.f68) Tryz.func68 rfl Tryz.call68 (rfl) ?_
 simp only [ltb,startSt,Tryz.ntmps68,List.length_cons,List.length_nil,reduceAdd,reduceSub,List.replicate_succ,List.replicate_zero]
 refine ex_region_w tt_ok 7 [0,0,2] [] rfl rfl fun K hK => ?_
 simp only [ltb,go_sem]
 refine hK _ _ rfl ?_
 simp only [mwb,reduceAdd]
 refine ex_region_w tt_ok 7 [0,0,2,1,1,1,1] [] rfl rfl fun K hK => ?_
 simp only [ltb,go_sem,reduceLT,reduceEqDiff]
 refine hK _ _ rfl ?_
 simp only [mwb,reduceAdd,reduceEqDiff]
 exact ex_ret ⟨.inl rfl, _, rfl, rfl, rfl, rfl⟩
theorem rend_ok (s : ByteArray) (hs : s.size ≤ 1073741824) (a : Nat) (e : Int) : ∃ r_, (fun w => w = num (endE s a e)) r_ ∧ FnOkS Tryz.prog 69 [.ptr 0 0] ([.box [str s, num a, num e]]) r_ ([.box [str s, num a, num e]]) := by
 refine fns_ex tt_ok (fn := Tryz.f69) Tryz.func69 rfl Tryz.call69 (rfl) ?_
 simp only [ltb,startSt,Tryz.ntmps69,List.length_cons,List.length_nil,reduceAdd,reduceSub,List.replicate_succ,List.replicate_zero]
 have hT9 : Tryz.prog.underlying 9 = some .string := by kernel_rfl
 have sl : ∀ (a : ByteArray) (ty : TypeId), liftL Tryz.prog (Builtin.len_ #[9] ty) [.sc (.string a)] = some (num a.size) := fun a ty => ev_slen (P := Tryz.prog) (tt := tt) (T := 9) a hT9 ty
 refine ex_region_w tt_ok 24 [0,0,2] [] rfl rfl fun K hK => ?_
 simp only [ltb,go_sem]
 refine hK _ _ rfl ?_
 simp only [mwb,reduceAdd]
 refine ex_seq ?_
 refine ex_mixed_w tt_ok mixed_ok 24 [0,0,0,1,1,1,1,1,1,1,1,1,1,1,1,1,1,1,1,2] (by kernel_rfl) [⟨.n, 0, [], [], []⟩, ⟨.n, 0, [], [], []⟩, ⟨.n, 0, [], [], []⟩, ⟨.r, 0, [], [], []⟩, ⟨.n, 0, [], [], []⟩, ⟨.n, 0, [], [], []⟩, ⟨.n, 0, [], [], []⟩, ⟨.n, 0, [], [], []⟩, ⟨.n, 0, [], [], []⟩, ⟨.r, 0, [], [], []⟩, ⟨.n, 0, [], [], []⟩, ⟨.n, 0, [], [], []⟩, ⟨.n, 0, [], [], []⟩, ⟨.r, 0, [], [], []⟩, ⟨.n, 0, [], [], []⟩, ⟨.n, 0, [], [], []⟩, ⟨.n, 0, [], [], []⟩] 0 (by kernel_rfl) fun K hK => ?_
 try simp only [ltb,List.replicate_zero]
 refine runM_cut 6 (by simp) (by simp) fun K1 hK1 => ?_
 simp only [ltb,go_sem,reduceLT,reduceEqDiff]
 refine hK1 _ ?_
 refine runM_case 8 (by rfl) fun b hb1_5 => ?_
 cases b
 ·have he : ¬ e = 0 := by simpa using hb1_5
  have hR : e = endE s a e := by unfold endE; rw [if_neg (by simp [he])]
  refine runM_cut 6 (by simp) (by simp) fun K1 hK1 => ?_
  simp only [ltb,go_sem,reduceLT,reduceEqDiff]
  refine hK1 _ ?_
  simp only [ltb,go_sem,reduceLT,reduceEqDiff]
  refine hK _ _ rfl ?_
  simp only [mwb,reduceAdd,reduceEqDiff]
  refine ex_cond rfl ?_
  refine ex_skip ?_
  show Go.Eng.Ex _ _ _ _ _ _
  refine ex_region_w tt_ok 24 (0::0::2::(rp 17 0 [1,1,1,1])) [] rfl rfl fun K hK => ?_
  simp only [ltb,go_sem,reduceLT,reduceEqDiff]
  refine hK _ _ rfl ?_
  simp only [mwb,reduceAdd,reduceEqDiff]
  exact ex_ret ⟨.inl rfl, _, congrArg num hR, rfl, rfl, rfl⟩
 ·have he : e = 0 := by simpa using hb1_5
  refine runM_cut 6 (by simp) (by simp) fun K1 hK1 => ?_
  simp only [ltb,go_sem,reduceLT,reduceEqDiff,reduceCtorEq]
  refine hK1 _ ?_
  try simp only [ltb]
  simp only [sl,go_sem,reduceLT,reduceEqDiff]
  refine hK _ _ rfl ?_
  simp only [mwb,reduceAdd,reduceEqDiff]
  refine ex_if rfl (fun hc19 => ?_) (fun hc19 => ?_)
  ·have hR : (9 : Int) = endE s a e := by unfold endE; rw [if_pos ⟨he, by have := of_decide_eq_true hc19; omega⟩]
   refine ex_region_w tt_ok 24 [0,0,2] [] rfl rfl fun K hK => ?_
   simp only [ltb,go_sem]
   refine hK _ _ rfl ?_
   simp only [mwb,reduceAdd]
   exact ex_ret ⟨.inl rfl, _, congrArg num hR, rfl, rfl, rfl⟩
  ·have hR : e = endE s a e := by first | exact hR | (unfold endE; rw [if_neg (fun h => by have := of_decide_eq_false hc19; omega)])
   refine ex_skip ?_
   show Go.Eng.Ex _ _ _ _ _ _
   refine ex_region_w tt_ok 24 (0::0::2::(rp 17 0 [1,1,1,1])) [] rfl rfl fun K hK => ?_
   simp only [ltb,go_sem,reduceLT,reduceEqDiff]
   refine hK _ _ rfl ?_
   simp only [mwb,reduceAdd,reduceEqDiff]
   exact ex_ret ⟨.inl rfl, _, congrArg num hR, rfl, rfl, rfl⟩
theorem newReader_ok (s : ByteArray) : ∃ r_ m_, (fun r m => r = .ptr 0 0 ∧ m = [.box [str s, num (0 : Nat), num 0]]) r_ m_ ∧ FnOkS Tryz.prog 63 [str s] ([]) r_ m_ := by
 refine fnw_ex tt_ok (fn := Tryz.f63) (1) (by decide) Tryz.func63 rfl Tryz.call63 ?_
 simp only [ltb,startSt,Tryz.ntmps63,List.length_cons,List.length_nil,reduceAdd,reduceSub,List.replicate_succ,List.replicate_zero]
 refine ex_region_w tt_ok 6 [0,0,2] [] rfl rfl fun K hK => ?_
 simp only [ltb,go_sem]
 refine hK _ _ rfl ?_
 simp only [mwb,reduceAdd]
 refine ex_region_w tt_ok 6 [0,0,2,1,1,1] [] rfl rfl fun K hK => ?_
 simp only [ltb,go_sem,reduceAdd,reduceLT,reduceLeDiff,reduceEqDiff,reduceCtorEq]
 refine hK _ _ rfl ?_
 simp only [mwb,reduceAdd,reduceEqDiff]
 exact ex_ret ⟨.inl rfl, _, ⟨rfl, rfl⟩, rfl, rfl, rfl⟩
theorem rerror_at (s : ByteArray) (hs : s.size ≤ 1073741824) (a : Nat) (e : Int) (M : List Blk) (k : Nat) (hk : M[k]? = some (.box [str s, num a, num e])) : ∃ r_, (fun w => w = num e) r_ ∧ FnOkS Tryz.prog 68 [.ptr k 0] M r_ M := by
 obtain ⟨r, rfl, h⟩ := rerror_ok s hs a e
 have h3 := fnOkS_at1 h M k (by simp [belowV]) (by simp [belowB, belowV]) (by simp [belowV]) (by simp [belowB, belowV]) (fun σ => by simp [renB, renL, renV]) (fun σ => by simp [renB, renL, renV]) hk
 rw [set_same hk] at h3
 exact ⟨_, rfl, by simpa [renL, renV] using h3⟩
theorem rend_at (s : ByteArray) (hs : s.size ≤ 1073741824) (a : Nat) (e : Int) (M : List Blk) (k : Nat) (hk : M[k]? = some (.box [str s, num a, num e])) : ∃ r_, (fun w => w = num (endE s a e)) r_ ∧ FnOkS Tryz.prog 69 [.ptr k 0] M r_ M := by
 obtain ⟨r, rfl, h⟩ := rend_ok s hs a e
 have h3 := fnOkS_at1 h M k (by simp [belowV]) (by simp [belowB, belowV]) (by simp [belowV]) (by simp [belowB, belowV]) (fun σ => by simp [renB, renL, renV]) (fun σ => by simp [renB, renL, renV]) hk
 rw [set_same hk] at h3
 exact ⟨_, rfl, by simpa [renL, renV] using h3⟩
theorem newReader_at (s : ByteArray) (M : List Blk) : ∃ r_ m_, (fun r m => r = .ptr M.length 0 ∧ m = M ++ [.box [str s, num (0 : Nat), num 0]]) r_ m_ ∧ FnOkS Tryz.prog 63 [str s] M r_ m_ := by
 obtain ⟨r, m, ⟨rfl, rfl⟩, h⟩ := newReader_ok s
 have h2 := h.ren M (fun j => M.length + j) 0 rfl (by simp [belowV]) rfl (by simp [belowV]) (by simp [belowB, belowV]) (Nat.zero_le _) (fun i B hi => by simp at hi) (fun i j hi => by omega) (fun j _ => by omega)
 refine ⟨_, _, ⟨rfl, rfl⟩, ?_⟩
 simpa [renL, renV, renB, putR, setAll] using h2
end Go.Proofs.YtnfeacnbgbggfaaGreatDoor
end

section
namespace Go.Proofs.YtnfeacnbgbggfaaGreatDoor
open Go.Eng
open Nat (reduceAdd reduceLT reduceLeDiff reduceMul reduceEqDiff reduceSub)
variable [Glob]
set_option maxHeartbeats 4000000
set_option maxRecDepth 100000
attribute [local irreducible] runM stepM valD stepOp stepD callF callS
theorem check_nil (hG : Glob.g = some 0) (l : List Rl) (hb : IxB l) (rows : List V) : ∃ r_, (fun w => w = num (ixE l)) r_ ∧ FnOk Tryz.prog 22 [.agg [encRls l, .slice rows]] r_ := check_ok hG l rows hb
theorem ix_one (r : Rl) : ixE [r] = rlE r := by
 unfold ixE
 rw [if_neg (by simp)]
 unfold ixFrom
 split
 ·rfl
 ·rename_i h; have h0 : rlE r = 0 := by simpa using h
  simp [ixFrom, h0]
theorem mstep_spn {P : Spn → Prop} (hP : ∀ y z : Spn, P y → P z → P ⟨y.lo, max y.hi z.hi⟩) {o : List Spn} {x : Spn} (ho : ∀ y ∈ o, P y) (hx : P x) : ∀ y ∈ mstep o x, P y := by
 intro y hy
 unfold mstep at hy
 split at hy
 ·rename_i z hz
  have hzm := List.mem_of_getLast? hz
  split at hy
  ·rcases List.mem_append.1 hy with h | h
   ·exact ho y (List.dropLast_subset _ h)
   ·rw [List.mem_singleton] at h; subst h; exact hP z x (ho z hzm) hx
  ·rcases List.mem_append.1 hy with h | h
   ·exact ho y h
   ·rw [List.mem_singleton] at h; subst h; exact hx
 ·rw [List.mem_singleton] at hy; subst hy; exact hx
def SpnB (x : Spn) : Prop := 0 ≤ x.lo ∧ x.lo < x.hi ∧ x.hi ≤ 1000000
theorem canon_bds (s : List Spn) : ∀ x ∈ canon s, SpnB x := by
 have h1 : ∀ (l o : List Spn), (∀ y ∈ l, SpnB y) → (∀ y ∈ o, SpnB y) → ∀ y ∈ l.foldl mstep o, SpnB y := by
  intro l
  induction l with
  | nil => intro o _ ho; exact ho
  | cons a t ih =>
   intro o hl ho
   rw [List.foldl_cons]
   exact ih _ (fun y hy => hl y (by simp [hy])) (mstep_spn (fun y z hy hz => by unfold SpnB at *; dsimp only; omega) ho (hl a (by simp)))
 unfold canon merge
 refine h1 _ _ (fun y hy => ?_) (fun y hy => by simp at hy)
 have h2 := (foldl_insS (clip s) [] List.Pairwise.nil).2.subset hy
 exact clip_ok y (by simpa using h2)
def RqW (q : Rq) : Prop := majE q.path = 0 ∧ q.set = canon q.set ∧ q.set ≠ []
structure RlW (r : Rl) : Prop where
 path : majE r.path = 0
 mj : r.ver.mj = majN r.path
 ver : r.ver.ok = true
 len : r.reqs.length ≤ 16
 ar : dig r.ar = true
 itf : dig r.itf = true
 ce : dig r.ce = true
 reqs : ∀ q ∈ r.reqs, RqW q
theorem ite10 {c : Prop} [Decidable c] (h : (if c then (1 : Int) else 0) = 0) : ¬ c := fun hc => by rw [if_pos hc] at h; cases h
theorem rqsFrom_w : ∀ (l : List Rq) (b : Option Rq), rqsFrom b l = 0 → ∀ q ∈ l, RqW q
 | [], b, _, q, hq => by simp at hq
 | a :: t, b, h, q, hq => by
  rw [rqsFrom] at h
  split at h
  ·rename_i h1; exact absurd h h1
  ·rename_i h1
   rcases List.mem_cons.1 hq with rfl | hq
   ·have h2 : rqE q b = 0 := by simpa using h1
    unfold rqE at h2
    split at h2
    ·omega
    ·rename_i h3
     have h4 := ite10 h2
     simp only [Bool.or_eq_true,not_or,decide_eq_true_eq,Bool.not_eq_true',decide_eq_false_iff_not,Classical.not_not] at h4
     exact ⟨by simpa using h3, h4.1.2, fun e => h4.1.1 (by rw [e]; rfl)⟩
   ·exact rqsFrom_w t _ h q hq
theorem rl_wf {r : Rl} (h : rlE r = 0) : RlW r := by
 unfold rlE at h
 split at h
 ·omega
 ·rename_i h1
  split at h
  ·omega
  ·rename_i h2
   split at h
   ·rename_i h3; exact absurd h h3
   ·rename_i h3
    split at h
    ·rename_i h4
     have h3' : rqsE r.reqs = 0 := by simpa using h3
     unfold rqsE at h3'
     split at h3'
     ·omega
     ·rename_i h5
      simp only [Bool.or_eq_true,not_or,Bool.not_eq_true',Bool.not_eq_false,decide_eq_true_eq] at h2
      simp only [Bool.and_eq_true] at h4
      exact ⟨by simpa using h1, by simpa using h2.2, h2.1, by omega, h4.1, h4.2.1, h4.2.2, rqsFrom_w _ _ h3'⟩
    ·omega
theorem dig_size {s : ByteArray} (h : dig s = true) : s.size ≤ 32 := by
 unfold dig at h
 simp only [Bool.or_eq_true,decide_eq_true_eq] at h
 omega
theorem ver_bds {v : Ver} (h : v.ok = true) : (0 ≤ v.mj ∧ v.mj ≤ 999) ∧ (0 ≤ v.mn ∧ v.mn ≤ 999) ∧ 0 ≤ v.pt ∧ v.pt ≤ 999 := by
 unfold Ver.ok okPart at h
 simp only [Bool.and_eq_true,decide_eq_true_eq] at h
 omega
def spB (x : Spn) : List UInt8 := uvI x.lo ++ uvI x.hi
def rqB (q : Rq) : List UInt8 := (eT q.path ++ uvI (q.set.length : Int)) ++ q.set.flatMap spB
def ykN (r : Rl) : Int := if r.yk = true then 1 else 0
def hdB (r : Rl) : List UInt8 := ((eT r.path ++ (uvI r.ver.mn ++ (uvI r.ver.pt ++ uvI (ykN r)))) ++ (eT r.ar ++ (eT r.itf ++ eT r.ce))) ++ uvI (r.reqs.length : Int)
def manB (r : Rl) : List UInt8 := hdB r ++ r.reqs.flatMap rqB
def manV (r : Rl) : V := if ixE [r] = 0 then .tup [str (bs (manB r)), num 0] else .tup [str (bs []), num (ixE [r])]
theorem ykN_bd (r : Rl) : 0 ≤ ykN r ∧ ykN r ≤ 1 := by unfold ykN; split <;> omega
theorem spB_len {x : Spn} (h : SpnB x) : (spB x).length ≤ 20 := by
 have h1 := uvI_len (n := x.lo) (by unfold SpnB at h; omega) (by unfold SpnB at h; omega)
 have h2 := uvI_len (n := x.hi) (by unfold SpnB at h; omega) (by unfold SpnB at h; omega)
 unfold spB
 simp only [List.length_append]; omega
theorem canon_of_w {q : Rq} (h : RqW q) : ∀ x ∈ q.set, SpnB x := by
 rw [h.2.1]; exact canon_bds _
theorem set_len {l : List Spn} (h : ∀ x ∈ l, SpnB x) : (l.flatMap spB).length ≤ 20 * l.length := flat_len fun x hx => spB_len (h x hx)
theorem rqB_len {q : Rq} (h : RqW q) (hb : RqB q) : (rqB q).length ≤ 22020190 := by
 have h1 := set_len (canon_of_w h)
 have h2 := uvI_len (n := (q.set.length : Int)) (by omega) (by have := hb.2; omega)
 have h3 := eT_len q.path hb.1
 have h4 := hb.2
 unfold rqB
 simp only [List.length_append]
 omega
theorem hdB_len {r : Rl} (h : RlW r) (hb : RlB r) : (hdB r).length ≤ 8388608 := by
 have h1 := eT_len r.path hb.1
 have h2 := eT_len r.ar (by have := dig_size h.ar; omega)
 have h3 := eT_len r.itf (by have := dig_size h.itf; omega)
 have h4 := eT_len r.ce (by have := dig_size h.ce; omega)
 have hv := ver_bds h.ver
 have h5 := uvI_len (n := r.ver.mn) (by omega) (by omega)
 have h6 := uvI_len (n := r.ver.pt) (by omega) (by omega)
 have h7 := uvI_len (n := ykN r) (by have := ykN_bd r; omega) (by have := ykN_bd r; omega)
 have h8 := uvI_len (n := (r.reqs.length : Int)) (by omega) (by have := h.len; omega)
 unfold hdB
 simp only [List.length_append]
 omega
theorem reqs_len {r : Rl} (h : RlW r) (hb : RlB r) (i : Nat) : ((r.reqs.take i).flatMap rqB).length ≤ 352323040 := by
 have h1 := flat_len (g := rqB) (l := r.reqs.take i) (k := 22020190) fun q hq => rqB_len (h.reqs q (List.mem_of_mem_take hq)) (hb.2.2 q (List.mem_of_mem_take hq))
 have h2 := h.len
 rw [List.length_take] at h1
 have : min i r.reqs.length ≤ 16 := by omega
 have := Nat.mul_le_mul_left 22020190 this
 omega
theorem manifest_ok (hG : Glob.g = some 0) (r : Rl) (hb : RlB r) : ∃ r_, (fun w => w = manV r) r_ ∧ FnOk Tryz.prog 17 [encRl r] r_ := by
 refine fn_ex tt_ok (fn := Tryz.f17) Tryz.func17 rfl Tryz.call17 ?_
 simp only [ltb,startSt,Tryz.ntmps17,List.length_cons,List.length_nil,reduceAdd,reduceSub,List.replicate_succ,List.replicate_zero]
 simp only [encRl,rlCells,encRqs]
 have hw1 := ix_one r
 have hbx : IxB [r] := ⟨by simp, fun x hx => by rw [List.mem_singleton] at hx; exact hx ▸ hb⟩
 have hman : ∀ (mem : List Blk) (ks : List (Nat × Nat)) (n : Int), memAfter mem ks (num n) = mem := fun _ _ _ => rfl
 refine ex_region_w tt_ok 89 [0,2,2,2] [] rfl rfl fun K hK => ?_
 simp only [ltb,go_sem,reduceLT]
 refine hK _ _ rfl ?_
 simp only [mwb,reduceAdd,reduceEqDiff]
 refine ex_seq ?_
 refine ex_region_w tt_ok 89 [0,0,0,0,2,0,0,0,0,0,0,0,0,1,1,1,1] [] rfl rfl fun K hK => ?_
 refine runX_cut 4 fun K1 hK1 => ?_
 simp only [ltb]
 simp only [List.flatMap_nil,List.append_nil,go_sem,reduceAdd,reduceLT,reduceLeDiff,reduceMul,reduceEqDiff,reduceCtorEq]
 refine callF_ex (by have h := check_nil hG [r] hbx []; simp only [encRls,List.map_cons,List.map_nil,encRl,rlCells,encRqs] at h; exact h) ?_
 rintro _ rfl
 try simp only [hman,go_sem]
 refine hK1 _ ?_
 simp only [ltb,go_sem,reduceAdd,reduceLT,reduceEqDiff]
 refine hK _ _ rfl ?_
 simp only [mwb,reduceAdd,reduceEqDiff]
 refine ex_region_w tt_ok 89 (rp 17 0 [1,2]) [] rfl rfl fun K hK => ?_
 simp only [ltb,go_sem,reduceAdd,reduceLT]
 refine hK _ _ rfl ?_
 simp only [mwb,reduceAdd,reduceEqDiff]
 refine ex_if rfl (fun hc18 => ?_) (fun hc18 => ?_)
 ·have hne : ixE [r] ≠ 0 := by simpa using hc18
  have hres : V.tup [str ⟨#[]⟩, num (ixE [r])] = manV r := by unfold manV; rw [if_neg hne]; rfl
  refine ex_region_w tt_ok 89 (0::0::2::2::(rp 15 0 [1])) [] rfl rfl fun K hK => ?_
  simp only [ltb,go_sem,reduceAdd,reduceLT,reduceEqDiff]
  refine hK _ _ rfl ?_
  simp only [mwb,reduceAdd,reduceEqDiff]
  exact ex_ret ⟨.inl rfl, _, hres, rfl⟩
 ·have hix : ixE [r] = 0 := by simpa using hc18
  have hwf := rl_wf (hw1 ▸ hix)
  have hv := ver_bds hwf.ver
  have hyb := ykN_bd r
  have hld := hdB_len hwf hb
  have hlr := reqs_len hwf hb
  have hla : (eT r.path).length ≤ 8388608 ∧ (uvI r.ver.mn).length + ((uvI r.ver.pt).length + (uvI (ykN r)).length) ≤ 8388608 ∧ (eT r.ar).length + ((eT r.itf).length + (eT r.ce).length) ≤ 8388608 := by
   have h := hld
   unfold hdB at h
   simp only [List.length_append] at h
   omega
  have hn3 : ∀ x ∈ [r.ver.mn, r.ver.pt, ykN r], 0 ≤ x ∧ x < 9223372036854775808 := by intro x hx; simp at hx; rcases hx with rfl | rfl | rfl <;> omega
  have ht3 : ∀ x ∈ [r.ar, r.itf, r.ce], x.size ≤ 1048576 := by
   have h1 := dig_size hwf.ar
   have h2 := dig_size hwf.itf
   have h3 := dig_size hwf.ce
   intro x hx; simp at hx; rcases hx with rfl | rfl | rfl <;> omega
  have hrl := hwf.len
  have hres : V.tup [str (bs (hdB r ++ r.reqs.flatMap rqB)), num 0] = manV r := by unfold manV; rw [if_pos hix]; rfl
  refine ex_skip ?_
  show Go.Eng.Ex _ _ _ _ _ _
  refine ex_region_w tt_ok 89 [0,0,0,0,0,2] [] rfl rfl fun K hK => ?_
  simp only [ltb,go_sem,reduceAdd,reduceLT]
  refine hK _ _ rfl ?_
  simp only [mwb,reduceAdd]
  refine ex_region_w tt_ok 89 (0::0::0::0::0::0::2::(rp 13 0 [1])) [] rfl rfl fun K hK => ?_
  simp only [ltb,go_sem,reduceAdd,reduceLT]
  refine hK _ _ rfl ?_
  simp only [mwb,reduceAdd,reduceEqDiff]
  refine ex_region_w tt_ok 89 (0::0::0::0::0::0::0::2::(rp 13 0 [1])) [] rfl rfl fun K hK => ?_
  simp only [ltb,go_sem,reduceAdd,reduceLT]
  refine hK _ _ rfl ?_
  simp only [mwb,reduceAdd,reduceEqDiff]
  refine ex_region_w tt_ok 89 (rp 22 0 [1,1,1,1,1]) [] rfl rfl fun K hK => ?_
  simp only [ltb,go_sem,reduceAdd,reduceLT,reduceLeDiff,reduceMul,reduceEqDiff]
  refine callS_w (texts_at [] [r.path] (by simp) (by simp) (by simpa using hb.1) _ 2 3 rfl rfl (by decide)) ?_
  rintro _ _ ⟨rfl, rfl⟩
  try simp only [List.flatMap_nil,List.append_nil,go_sem]
  try simp only [List.set_cons_zero,List.set_cons_succ]
  refine hK _ _ rfl ?_
  simp only [mwb]
  refine ex_region_w tt_ok 89 (rp 8 0 [2]) [] rfl rfl fun K hK => ?_
  simp only [ltb,go_sem,reduceAdd]
  refine hK _ _ rfl ?_
  simp only [mwb,reduceAdd]
  refine ex_seq_joinK [8] 4 (rp 9 true (false::false::false::false::(rp 13 true []))) (fun vs => vs = [num (ykN r)]) ?_ ?_
  ·refine ex_region_w tt_ok 89 (rp 27 0 [1,2]) [] rfl rfl fun K hK => ?_
   simp only [ltb,go_sem,reduceAdd,reduceLT]
   refine hK _ _ rfl ?_
   simp only [mwb,reduceAdd,reduceEqDiff]
   refine ex_if rfl (fun hc28 => ?_) (fun hc28 => ?_)
   ·refine ex_last_region_w tt_ok 89 (rp 8 0 [2]) [] (by kernel_rfl) rfl rfl fun K hK => ?_
    simp only [ltb,go_sem,reduceAdd]
    refine hK _ _ rfl ?_
    simp only [mwb,reduceAdd]
    refine ⟨[_], ?_, 4, (rp 9 true (false::false::false::false::(rp 13 true []))), by omega, by simp only [maskFr,belowV,belowL,reduceLT,mkb], by simp only [List.all_cons,List.all_nil,belowV,belowB,Bool.and_self,List.take_succ_cons,List.take_nil], by simp only [maskFr,putAll,List.set_cons_zero,List.set_cons_succ,mkb]; rfl⟩
    simp_all [ykN]
   ·refine ex_skip ?_
    refine ⟨[_], ?_, 4, (rp 9 true (false::false::false::false::(rp 13 true []))), by omega, by simp only [maskFr,belowV,belowL,reduceLT,mkb], by simp only [List.all_cons,List.all_nil,belowV,belowB,Bool.and_self,List.take_succ_cons,List.take_nil], by simp only [maskFr,putAll,List.set_cons_zero,List.set_cons_succ,mkb]; rfl⟩
    simp_all [ykN]
  ·intro vs hJ
   obtain rfl := hJ
   simp only [maskFr,putAll,List.set_cons_zero,List.set_cons_succ,mkb]
   refine ex_region_w tt_ok 89 (rp 29 0 (rp 10 1 [])) [] rfl rfl fun K hK => ?_
   refine runX_cut 8 fun K1 hK1 => ?_
   simp only [ltb,go_sem,reduceAdd,reduceLT,reduceLeDiff,reduceEqDiff]
   refine hK1 _ ?_
   simp only [ltb,go_sem,reduceAdd,reduceLT,reduceLeDiff,reduceMul,reduceEqDiff]
   refine callS_w (nums_at (eT r.path) [r.ver.mn, r.ver.pt, ykN r] (by simp) (by (try simp only [List.length_append]); omega) hn3 _ 2 4 rfl rfl (by decide)) ?_
   rintro _ _ ⟨rfl, rfl⟩
   try simp only [List.flatMap_nil,List.append_nil,go_sem]
   try simp only [List.set_cons_zero,List.set_cons_succ]
   refine hK _ _ rfl ?_
   simp only [mwb]
   refine ex_region_w tt_ok 89 (rp 39 0 (rp 9 1 [])) [] rfl rfl fun K hK => ?_
   refine runX_cut 8 fun K1 hK1 => ?_
   simp only [ltb,go_sem,reduceAdd,reduceLT,reduceLeDiff,reduceMul,reduceEqDiff]
   refine hK1 _ ?_
   simp only [ltb,go_sem,reduceAdd,reduceLT,reduceEqDiff]
   refine callS_w (texts_at (eT r.path ++ (uvI r.ver.mn ++ (uvI r.ver.pt ++ uvI (ykN r)))) [r.ar, r.itf, r.ce] (by simp) (by (try simp only [List.length_append]); omega) ht3 _ 2 5 rfl rfl (by decide)) ?_
   rintro _ _ ⟨rfl, rfl⟩
   try simp only [List.flatMap_nil,List.append_nil,go_sem]
   try simp only [List.set_cons_zero,List.set_cons_succ]
   refine hK _ _ rfl ?_
   simp only [mwb]
   refine ex_region_w tt_ok 89 (rp 48 0 [1,1,1,1,1,1]) [] rfl rfl fun K hK => ?_
   try simp only [ltb]
   simp only [List.length_map,go_sem,reduceAdd,reduceLT,reduceLeDiff,reduceMul,reduceEqDiff]
   refine callS_w (nums_at ((eT r.path ++ (uvI r.ver.mn ++ (uvI r.ver.pt ++ uvI (ykN r)))) ++ (eT r.ar ++ (eT r.itf ++ eT r.ce))) [(r.reqs.length : Int)] (by simp) (by (try simp only [List.length_append]); omega) (by simp; omega) _ 2 6 rfl rfl (by decide)) ?_
   rintro _ _ ⟨rfl, rfl⟩
   try simp only [List.flatMap_nil,List.append_nil,go_sem]
   try simp only [List.set_cons_zero,List.set_cons_succ]
   refine hK _ _ rfl ?_
   simp only [mwb]
   refine ex_seq ?_
   refine ex_region_w tt_ok 89 (rp 54 0 [1,2,2,2]) [] rfl rfl fun K hK => ?_
   try simp only [ltb]
   simp only [List.length_map,go_sem,reduceAdd,reduceLT,reduceLeDiff,reduceEqDiff]
   refine hK _ _ rfl ?_
   simp only [mwb,reduceAdd,reduceEqDiff]
   refine ex_block ?_
   refine ex_loopF (fun i : Nat => { fr := [.undef, .undef, .undef, .undef, .undef, .ptr 2 0, .clo (.func 55) [] [.ptr 2 0], .clo (.func 57) [] [.ptr 2 0], .undef, .undef, .undef, .undef, .undef, .undef, .undef, .undef, .undef, .undef, .undef, .undef, .undef, .undef, .undef, .undef, .undef, .undef, .undef, .undef, .undef, .undef, .undef, .undef, .undef, .undef, .undef, .undef, .undef, .undef, .undef, .undef, .undef, .undef, .undef, .undef, .undef, .undef, .undef, .undef, .undef, .undef, .undef, .undef, .undef, .undef, .undef, .slice (r.reqs.map encRq), num r.reqs.length, num i, .undef, .undef, .undef, .undef, .undef, .undef, .undef, .undef, .undef, .undef, .undef, .undef, .undef, .undef, .undef, .undef, .undef, .undef, .undef, .undef, .undef, .undef, .undef, .undef, .undef, .undef, .undef, .undef, .undef, .undef, .undef], mem := [.box [str r.path, num r.ver.mj, num r.ver.mn, num r.ver.pt, .slice (r.reqs.map encRq), str r.ar, str r.itf, str r.ce, bl r.yk], .rows 0 9 [.agg [str r.path, num r.ver.mj, num r.ver.mn, num r.ver.pt, .slice (r.reqs.map encRq), str r.ar, str r.itf, str r.ce, bl r.yk]], .box [str (bs (hdB r ++ (r.reqs.take i).flatMap rqB))], .rows 0 1 [str r.path], .rows 0 1 [num r.ver.mn, num r.ver.pt, num (ykN r)], .rows 0 1 [str r.ar, str r.itf, str r.ce], .rows 0 1 [num r.reqs.length]] }) (fun i => r.reqs.length - i) (fun i => i ≤ r.reqs.length) (0) 7 (false::false::false::false::false::true::true::true::(rp 47 false [true,true,true])) (by omega) (by simp only [maskFr,belowV,belowL,reduceLT,mkb]) (by simp only [List.all_cons,List.all_nil,belowV,belowB,Bool.and_self,List.take_succ_cons,List.take_nil]) (by simp only [maskFr,List.flatMap_nil,List.append_nil,mkb] <;> rfl) (Nat.zero_le _) ?_
   intro i hi
   refine ex_region_w tt_ok 89 (rp 58 0 [2]) [] rfl rfl fun K hK => ?_
   simp only [ltb,go_sem,reduceAdd,reduceLT]
   refine hK _ _ rfl ?_
   simp only [mwb,reduceAdd]
   refine ex_seq ?_
   refine ex_if rfl (fun hc58 => ?_) (fun hc58 => ?_)
   ·have hlt : i < r.reqs.length := by simpa using hc58
    rw [hc58]
    have hltI : (i : Int) < (r.reqs.length : Int) := by omega
    have hw := i64_succ i (by omega)
    obtain ⟨q, hx⟩ : ∃ q, r.reqs[i]? = some q := ⟨_, List.getElem?_eq_getElem hlt⟩
    have hqm := List.mem_of_getElem? hx
    have hqb := hb.2.2 q hqm
    have hqw := hwf.reqs q hqm
    have hsp := canon_of_w hqw
    have hft := flat_take rqB hx
    have hlri := hlr i
    have hlp := eT_len q.path hqb.1
    have hql := hqb.2
    have hls := uvI_len (n := (q.set.length : Int)) (by omega) (by omega)
    refine ex_skip ?_
    show Go.Eng.Ex _ _ _ _ _ _
    refine ex_seq ?_
    refine ex_block ?_
    refine ex_region_w tt_ok 89 (rp 10 0 (2::(rp 48 0 [1,1]))) [] rfl rfl fun K hK => ?_
    try simp only [ltb]
    simp only [List.getElem?_map,hx,Option.map_some,encRq,encSet,Int.natCast_nonneg,go_sem,reduceAdd,reduceLT,reduceEqDiff]
    refine hK _ _ rfl ?_
    simp only [mwb,reduceAdd,reduceEqDiff]
    refine ex_region_w tt_ok 89 (rp 61 0 [1,1,1,1,1]) [] rfl rfl fun K hK => ?_
    simp only [ltb,go_sem,reduceAdd,reduceLT,reduceLeDiff,reduceMul,reduceEqDiff]
    refine callS_w (texts_at (hdB r ++ (r.reqs.take i).flatMap rqB) [q.path] (by simp) (by rw [List.length_append]; omega) (by simpa using hqb.1) _ 2 8 rfl rfl (by decide)) ?_
    rintro _ _ ⟨rfl, rfl⟩
    try simp only [List.flatMap_nil,List.append_nil,go_sem]
    try simp only [List.set_cons_zero,List.set_cons_succ]
    refine hK _ _ rfl ?_
    simp only [mwb]
    refine ex_region_w tt_ok 89 (rp 66 0 [1,1,1,1,1,1]) [] rfl rfl fun K hK => ?_
    try simp only [ltb]
    simp only [List.length_map,go_sem,reduceAdd,reduceLT,reduceLeDiff,reduceMul,reduceEqDiff]
    refine callS_w (nums_at ((hdB r ++ (r.reqs.take i).flatMap rqB) ++ eT q.path) [(q.set.length : Int)] (by simp) (by (try simp only [List.length_append]); omega) (by simp; omega) _ 2 9 rfl rfl (by decide)) ?_
    rintro _ _ ⟨rfl, rfl⟩
    try simp only [List.flatMap_nil,List.append_nil,go_sem]
    try simp only [List.set_cons_zero,List.set_cons_succ]
    refine hK _ _ rfl ?_
    simp only [mwb]
    refine ex_region_w tt_ok 89 (rp 72 0 [1,2,2,2]) [] rfl rfl fun K hK => ?_
    try simp only [ltb]
    simp only [List.length_map,go_sem,reduceAdd,reduceLT,reduceEqDiff]
    refine hK _ _ rfl ?_
    simp only [mwb,reduceAdd,reduceEqDiff]
    refine ex_block ?_
    refine ex_loopF (fun j : Nat => { fr := [.undef, .undef, .undef, .undef, .undef, .ptr 2 0, .clo (.func 55) [] [.ptr 2 0], .clo (.func 57) [] [.ptr 2 0], .undef, .undef, .undef, .undef, .undef, .undef, .undef, .undef, .undef, .undef, .undef, .undef, .undef, .undef, .undef, .undef, .undef, .undef, .undef, .undef, .undef, .undef, .undef, .undef, .undef, .undef, .undef, .undef, .undef, .undef, .undef, .undef, .undef, .undef, .undef, .undef, .undef, .undef, .undef, .undef, .undef, .undef, .undef, .undef, .undef, .undef, .undef, .slice (r.reqs.map encRq), num r.reqs.length, num i, .undef, .undef, .undef, .undef, .undef, .undef, .undef, .undef, .undef, .undef, .undef, .undef, .undef, .undef, .undef, .slice (q.set.map encSpn), num q.set.length, num j, .undef, .undef, .undef, .undef, .undef, .undef, .undef, .undef, .undef, .undef, .undef, .undef, .undef], mem := [.box [str r.path, num r.ver.mj, num r.ver.mn, num r.ver.pt, .slice (r.reqs.map encRq), str r.ar, str r.itf, str r.ce, bl r.yk], .rows 0 9 [.agg [str r.path, num r.ver.mj, num r.ver.mn, num r.ver.pt, .slice (r.reqs.map encRq), str r.ar, str r.itf, str r.ce, bl r.yk]], .box [str (bs ((((hdB r ++ (r.reqs.take i).flatMap rqB) ++ eT q.path) ++ uvI (q.set.length : Int)) ++ (q.set.take j).flatMap spB))], .rows 0 1 [str r.path], .rows 0 1 [num r.ver.mn, num r.ver.pt, num (ykN r)], .rows 0 1 [str r.ar, str r.itf, str r.ce], .rows 0 1 [num r.reqs.length], .box [str q.path, .slice (q.set.map encSpn)], .rows 0 1 [str q.path], .rows 0 1 [num q.set.length]] }) (fun j => q.set.length - j) (fun j => j ≤ q.set.length) (0) 10 (false::false::false::false::false::true::true::true::(rp 47 false (true::true::true::(rp 15 false [true,true,true])))) (by omega) (by simp only [maskFr,belowV,belowL,reduceLT,mkb]) (by simp only [List.all_cons,List.all_nil,belowV,belowB,Bool.and_self,List.take_succ_cons,List.take_nil]) (by simp only [maskFr,List.flatMap_nil,List.append_nil,mkb] <;> rfl) (Nat.zero_le _) ?_
    intro j hj
    refine ex_region_w tt_ok 89 (rp 76 0 [2]) [] rfl rfl fun K hK => ?_
    simp only [ltb,go_sem,reduceAdd,reduceLT]
    refine hK _ _ rfl ?_
    simp only [mwb,reduceAdd]
    refine ex_seq ?_
    refine ex_if rfl (fun hc76 => ?_) (fun hc76 => ?_)
    ·have hlt2 : j < q.set.length := by simpa using hc76
     rw [hc76]
     have hltJ : (j : Int) < (q.set.length : Int) := by omega
     have hw2 := i64_succ j (by omega)
     obtain ⟨x, hxj⟩ : ∃ x, q.set[j]? = some x := ⟨_, List.getElem?_eq_getElem hlt2⟩
     have hxb := hsp x (List.mem_of_getElem? hxj)
     have hft2 := flat_take spB hxj
     have hx2 : ∀ y ∈ [x.lo, x.hi], 0 ≤ y ∧ y < 9223372036854775808 := by unfold SpnB at hxb; intro y hy; simp at hy; rcases hy with rfl | rfl <;> omega
     have hlj := set_len (l := q.set.take j) fun y hy => hsp y (List.mem_of_mem_take hy)
     rw [List.length_take] at hlj
     refine ex_skip ?_
     show Go.Eng.Ex _ _ _ _ _ _
     refine ex_seq ?_
     refine ex_block ?_
     refine ex_region_w tt_ok 89 (rp 12 0 (2::(rp 64 0 [1,1]))) [] rfl rfl fun K hK => ?_
     try simp only [ltb]
     simp only [List.getElem?_map,Option.map_some,Int.natCast_nonneg,List.getElem?_map,hxj,Option.map_some,encSpn,Int.natCast_nonneg,go_sem,reduceAdd,reduceLT,reduceEqDiff]
     refine hK _ _ rfl ?_
     simp only [mwb,reduceAdd,reduceEqDiff]
     refine ex_last_region_w tt_ok 89 (rp 79 0 [2,2,2,2,2,2,2]) [] (by kernel_rfl) rfl rfl fun K hK => ?_
     simp only [ltb,go_sem,reduceAdd,reduceLT,reduceLeDiff,reduceMul,reduceEqDiff]
     refine callS_w (nums_at ((((hdB r ++ (r.reqs.take i).flatMap rqB) ++ eT q.path) ++ uvI (q.set.length : Int)) ++ (q.set.take j).flatMap spB) [x.lo, x.hi] (by simp) (by (try simp only [List.length_append]); omega) hx2 _ 2 11 rfl rfl (by decide)) ?_
     rintro _ _ ⟨rfl, rfl⟩
     try simp only [List.flatMap_nil,List.append_nil,go_sem]
     try simp only [List.set_cons_zero,List.set_cons_succ]
     refine hK _ _ rfl ?_
     simp only [mwb,reduceAdd,reduceEqDiff]
     show Go.Eng.Ex _ _ _ _ _ _
     refine ex_last_region_w tt_ok 89 (rp 75 0 (2::(rp 10 0 [2]))) [] (by kernel_rfl) rfl rfl fun K hK => ?_
     try simp only [ltb]
     simp only [hw2,go_sem,reduceAdd,reduceLT]
     refine hK _ _ rfl ?_
     simp only [mwb,reduceAdd,reduceEqDiff]
     refine ⟨j + 1, ?_, ?_, 10, (false::false::false::false::false::true::true::true::(rp 47 false (true::true::true::(rp 15 false [true,true,true])))), by omega, by simp only [maskFr,belowV,belowL,reduceLT,mkb], by simp only [ltb,List.all_cons,List.all_nil,belowV,belowB,Bool.and_self], by (simp only [hft2,spB,List.append_assoc,maskFr,mkb])⟩
     ·exact hlt2
     ·omega
    ·have hge2 : ¬ j < q.set.length := by simpa using hc76
     have hjl : j = q.set.length := by omega
     subst hjl
     rw [List.take_length]
     refine ex_exit ?_
     show Go.Eng.Ex _ _ _ _ _ _
     refine ex_last_region_w tt_ok 89 (rp 57 0 (2::(rp 29 0 [2]))) [] (by kernel_rfl) rfl rfl fun K hK => ?_
     try simp only [ltb]
     simp only [hw,go_sem,reduceAdd,reduceLT]
     refine hK _ _ rfl ?_
     simp only [mwb,reduceAdd,reduceEqDiff]
     refine ⟨i + 1, ?_, ?_, 7, (false::false::false::false::false::true::true::true::(rp 47 false [true,true,true])), by omega, by simp only [maskFr,belowV,belowL,reduceLT,mkb], by simp only [ltb,List.all_cons,List.all_nil,belowV,belowB,Bool.and_self], by (simp only [hft,rqB,List.append_assoc,maskFr,mkb])⟩
     ·exact hlt
     ·omega
   ·have hge : ¬ i < r.reqs.length := by simpa using hc58
    have hil : i = r.reqs.length := by omega
    subst hil
    rw [List.take_length]
    refine ex_exit ?_
    show Go.Eng.Ex _ _ _ _ _ _
    refine ex_region_w tt_ok 89 (0::0::2::2::(rp 84 0 [1])) [] rfl rfl fun K hK => ?_
    simp only [ltb,go_sem,reduceAdd,reduceLT]
    refine hK _ _ rfl ?_
    simp only [mwb,reduceAdd,reduceEqDiff]
    exact ex_ret ⟨.inl rfl, _, hres, rfl⟩
end Go.Proofs.YtnfeacnbgbggfaaGreatDoor
end
