/-
  CONTRACTS: slices.SortFunc at uses with the program's comparing function, by the kit's contract.
-/
import Derived.Test.YtefbaladomfccaaGreatDoorH8
set_option linter.all false
section
namespace Go.Eng
variable [Glob]
theorem Sim.repl {E : Env} {w w' : World} {a : Act} {st : St} (hs : Sim E w a st) {b v e g c : Nat} {rs rs' : List V} {T : TypeId} {ys : Array Value} (hm : st.mem[b]? = some (.rows v e rs)) (hb : E.blk b v = some (g, e, c)) (hF : ∀ o, E.F ⟨g, o, none⟩ = none)
  (hos : w'.os = w.os) (htape : w'.tape = w.tape) (hout : w'.output = w.output) (hsz : w.heap.size ≤ w'.heap.size) (hh : w'.heap[g]? = some (.cells ys T (0, 0))) (hother : ∀ k, k < w.heap.size → k ≠ g → w'.heap[k]? = w.heap[k]?)
  (hy1 : ys.size = c * e) (hy2 : rs'.length ≤ c) (hy3 : RowsOk E.pure e rs' (fun o => ys[o]?)) : Sim E w' a { st with mem := st.mem.set b (.rows v e rs') } ∧ Evo E w E w' := by
 have hlt := (List.getElem?_eq_some_iff.1 hm).1
 have hFg : ∀ ad x, E.F ad = some x → ad.block ≠ g := fun ad x h e => by
  have hc := hs.F ad x h
  obtain ⟨blk, off, spot⟩ := ad
  obtain rfl : blk = g := e
  have hsp : spot = none := by
   unfold World.cell? at hc
   split at hc
   ·dsimp only at hc
    cases spot with
    | none => rfl
    | some s => simp at hc
   ·cases hc
  subst hsp
  rw [hF] at h; cases h
 refine ⟨⟨fun ad x h => ?_, fun k v g e c h => Nat.lt_of_lt_of_le (hs.lt _ _ _ _ _ h) hsz, fun k B hk => ?_, fun k hk => hs.top k (by simpa using hk), fun k B hk v hv => ?_, hs.apart, hs.fr⟩,
  ⟨E.le_refl, fun k v g e c h => .inl ⟨k, v, e, c, h⟩, fun _ _ h => .inl h, hos, htape, hout, hsz, fun k hk hne => hother k hk fun e => by subst e; exact hne _ _ _ _ hb⟩⟩
 ·have h1 := hs.F ad x h
  have h2 := World.block_lt_of_cell? w ad h1
  rw [← h1]
  unfold World.cell?
  rw [hother _ h2 (hFg ad x h)]
 ·rw [List.getElem?_set] at hk
  split at hk
  ·rename_i he; subst he
   cases hk
   exact .inr ⟨g, T, ys, c, hb, hh, hy1, hy2, hy3, hF⟩
  ·rename_i hne
   refine (hs.mem k B hk).mono E.le_refl (fun _ h => h) (fun g' e' c' h => hother g' (hs.lt _ _ _ _ _ h) fun e => ?_) fun _ _ _ _ _ h => h
   subst e
   exact hne (hs.apart _ _ _ _ _ _ _ _ _ hb h)
 ·rw [List.getElem?_set] at hk
  split at hk
  ·rename_i he; subst he
   cases hk
   exact hs.ver b _ hm v hv
  ·exact hs.ver k B hk v hv
end Go.Eng
namespace Go.Proofs.YtefbaladomfccaaGreatDoor
open Go.Eng
open Go.Sort (SWO grow flatK HoldsK PermIn SortedIn)
variable [Glob]
def encK (u : Us) : List Value := [.string u.1, .string u.2]
theorem flat_get (d : Array Us) (i j : Nat) (hi : i < d.size) (hj : j < 2) : (flatK encK 2 d)[i * 2 + j]! = (encK d[i]!)[j]! := by
 rw [Go.Sort.get_flatK _ _ _ _ (by omega)]
 rw [show (i * 2 + j) / 2 = i by omega, show (i * 2 + j) % 2 = j by omega]
theorem sortU_ok (g : Nat) (cf : Us → Us → Int) (hO : SWO (ltOf cf)) (eg : ∀ args w, (callFunc g args).run Tryz.prog w = .ok (.enter g args) w)
  (hcl : ∀ (x y : Us) (W : World), Calls Tryz.prog g #[.agg #[.string x.1, .string x.2], .agg #[.string y.1, .string y.2]] W fun e w' => e = .returned (.int .i64 (cf x y)) ∧ ∃ q os', w' = grow (W.drewN q) os')
  (m : List Blk) (b v : Nat) (l : List Us) (hb : m[b]? = some (.rows v 2 (l.map encU))) (h0 : 0 < l.length) (hl : l.length ≤ 1048576) :
  FnOkR Tryz.prog 126 [.ms b v 0 l.length, .sc (.func (.func g) #[] #[])] m fun r m' => r = .sc (.tuple #[]) ∧ ∃ l' : List Us, l'.Perm l ∧ (∀ (i j : Nat) (x y : Us), i < j → l'[i]? = some x → l'[j]? = some y → ltOf cf y x = false) ∧ m' = m.set b (.rows v 2 (l'.map encU)) := by
 refine ⟨Tryz.call126, fun E w xs hs hx => ?_⟩
 obtain ⟨x, ys, hxs, hr, hrest⟩ := hx.of_cons
 obtain ⟨f, zs, hys, hrf, hz⟩ := hrest.of_cons
 have hzs := hz.of_nil
 subst hzs
 have hf := rep_sc hrf
 subst hf
 obtain rfl : xs = #[x, .func (.func g) #[] #[]] := by rw [← Array.toArray_toList (xs := xs), hxs, hys]
 rcases hs.mem b _ hb with ⟨hnil, -⟩ | ⟨gb, T, cs, c, hblk, hh, hcs, hlc, hrows, hF⟩
 ·rw [List.map_eq_nil_iff] at hnil; subst hnil; simp at h0
 rw [List.length_map] at hlc
 obtain ⟨cap, rfl⟩ : ∃ cap, x = .slice (some ⟨gb, 0, none⟩) l.length cap := by
  clear hrest hx hxs hrows hl
  generalize l.length = nl at hr h0 hlc ⊢
  cases hr with
  | ms _ _ _ _ _ g' e' c' a cap hb' hl' h0' hc' =>
   rw [hblk] at hb'; cases hb'
   obtain ⟨rfl, -⟩ := h0' rfl
   exact ⟨cap, rfl⟩
  | msnil => exact absurd h0 (Nat.lt_irrefl _)
 have hcell : ∀ (i : Nat) (u : Us), l[i]? = some u → cs[i * 2]? = some (.string u.1) ∧ cs[i * 2 + 1]? = some (.string u.2) := fun i u hu => by
  obtain ⟨-, h2⟩ := hrows i (encU u) (by rw [List.getElem?_map, hu]; rfl)
  constructor
  ·obtain ⟨y, hy, -, hyr⟩ := h2 0 (str u.1) rfl
   rw [rep_sc hyr] at hy; exact hy
  ·obtain ⟨y, hy, -, hyr⟩ := h2 1 (str u.2) rfl
   rw [rep_sc hyr] at hy; exact hy
 have hgw : gb < w.heap.size := (Array.getElem?_eq_some_iff.1 hh).1
 have hget : ∀ i, i < l.length → l[i]? = some (l.toArray[i]!) := fun i hi => by
  rw [getElem!_pos l.toArray i (by simpa using hi)]
  simp [List.getElem?_eq_getElem hi]
 have hH : HoldsK encK 2 w gb 0 l.toArray := fun t ht => by
  have ht' : t < l.length * 2 := by simpa using ht
  obtain ⟨i, j, hi, hj, rfl⟩ : ∃ i j, i < l.length ∧ j < 2 ∧ t = i * 2 + j := ⟨t / 2, t % 2, by omega, by omega, by omega⟩
  have hc := hcell i _ (hget i hi)
  refine ⟨?_, by simp [World.frozen?, hh]⟩
  rw [cell_at hh, Nat.zero_add, flat_get _ _ _ (by simpa using hi) hj]
  obtain rfl | rfl : j = 0 ∨ j = 1 := by omega
  ·exact hc.1
  ·exact hc.2
 have call := AnyQ.slices_SortFunc sortUs 2 Tryz.isAgg78 Tryz.sizeOf78 encK (fun _ => rfl) (fun x v hv => by simp [encK] at hv; rcases hv with rfl | rfl <;> rfl) cf hO g #[] gb 0 cap l.toArray w eg (fun _ _ _ _ x y => hcl x y _) hH hgw (by simp; omega)
 have e1 : l.toArray.size = l.length := List.size_toArray
 rw [e1] at call
 change Calls Tryz.prog 126 _ _ _ at call
 refine call.mono ?_
 rintro e w' ⟨rfl, d', n, os, hp, hsrt, rfl⟩
 have hsize : d'.size = l.length := by rw [hp.1]; simp
 have hheap : (sortWorldK encK 2 w gb 0 n d' os).heap[gb]? = some (.cells (Go.Sort.putCells id 0 (flatK encK 2 d') cs) T (0, 0)) := by
  show (_ ++ os)[gb]? = _
  rw [Array.getElem?_append_left (by simpa [Go.Sort.putRowK] using hgw)]
  show ((w.heap.modify gb _))[gb]? = _
  rw [Array.getElem?_modify, if_pos rfl, hh]; rfl
 obtain ⟨h1, h2⟩ := hs.repl (w' := sortWorldK encK 2 w gb 0 n d' os) (rs' := d'.toList.map encU) hb hblk hF rfl rfl rfl (by
   show _ ≤ (_ ++ os).size
   rw [Array.size_append]
   show _ ≤ (w.heap.modify gb _).size + _
   rw [Array.size_modify]; omega) hheap (fun k hk hne => by
   show (_ ++ os)[k]? = _
   rw [Array.getElem?_append_left (by simpa [Go.Sort.putRowK] using hk)]
   show ((w.heap.modify gb _))[k]? = _
   rw [Array.getElem?_modify, if_neg (fun e => hne e.symm)]) (by simp [Go.Sort.putCells, hcs]) (by simp [hsize]; exact hlc) (fun i row hi => by
   rw [List.getElem?_map, Option.map_eq_some_iff] at hi
   obtain ⟨u, hu, rfl⟩ := hi
   have hid : i < d'.size := by simpa using (List.getElem?_eq_some_iff.1 hu).1
   have hu' : d'[i]! = u := by
    rw [getElem!_pos d' i hid]
    have := (List.getElem?_eq_some_iff.1 hu).2
    simpa using this
   have key : ∀ j, j < 2 → (Go.Sort.putCells id 0 (flatK encK 2 d') cs)[i * 2 + j]? = some ((encK u)[j]!) := fun j hj => by
    have hlt : i * 2 + j < cs.size := by rw [hcs]; omega
    unfold Go.Sort.putCells
    rw [Array.getElem?_mapIdx, Array.getElem?_eq_getElem hlt, Option.map_some, if_pos ⟨Nat.zero_le _, by simp; omega⟩]
    simp only [id,Nat.sub_zero]
    rw [flat_get _ _ _ hid hj, hu']
   refine ⟨rfl, fun j cc hj => ?_⟩
   match j, hj with
   | 0, hj => cases hj; exact ⟨.string u.1, by simpa [encK] using key 0 (by omega), rfl, .sc _ _⟩
   | 1, hj => cases hj; exact ⟨.string u.2, by simpa [encK] using key 1 (by omega), rfl, .sc _ _⟩
   | j + 2, hj => simp [encU, V.cells] at hj)
 refine ⟨E, _, _, _, rfl, ⟨rfl, d'.toList, ?_, ?_, rfl⟩, h2, h1, .sc _ _⟩
 ·have := hp.2.2
  simpa [hsize, Array.extract_eq_self_of_le] using this
 ·intro i j x y hij hxi hyj
  have hj : j < d'.size := by simpa using (List.getElem?_eq_some_iff.1 hyj).1
  have ex : d'[i]! = x := by
   rw [getElem!_pos d' i (by omega)]
   have := (List.getElem?_eq_some_iff.1 hxi).2
   simpa using this
  have ey : d'[j]! = y := by
   rw [getElem!_pos d' j hj]
   have := (List.getElem?_eq_some_iff.1 hyj).2
   simpa using this
  have := hsrt i j (Nat.zero_le _) hij (by simpa [hsize] using hj)
  rw [ex, ey] at this
  exact this
theorem tl_eq {a b : ByteArray} (h : a.toList = b.toList) : a = b := by
 rw [ByteArray.toList_eq, ByteArray.toList_eq] at h
 exact ByteArray.ext (Array.toList_inj.1 h)
def cf127 (x y : Us) : Int := if cmpS x.1 y.1 = 0 then cmpS x.2 y.2 else cmpS x.1 y.1
theorem ltO127 (x y : Us) : ltOf cf127 x y = ltU x y := by
 have key : ∀ a b : ByteArray, decide (cmpS a b < 0) = ltB a b := fun a b => cmpS_ltS
 show decide (cf127 x y < 0) = ltU x y
 unfold ltU
 by_cases h : cmpS x.1 y.1 = 0
 ·have e1 : x.1 = y.1 := tl_eq (cmpS_eq.1 h)
  have e2 : ltB x.1 y.1 = false := by rw [e1]; exact lin_str.irrefl _
  have e3 : cf127 x y = cmpS x.2 y.2 := if_pos h
  rw [e3, key, e2, decide_eq_true e1]; rfl
 ·have e1 : ¬ x.1 = y.1 := fun e => h (cmpS_eq.2 (by rw [e]))
  have e3 : cf127 x y = cmpS x.1 y.1 := if_neg h
  rw [e3, key, decide_eq_false e1, Bool.false_and, Bool.or_false]
theorem lin_swo {α : Type} {lt : α → α → Bool} (h : Lin lt) : Go.Sort.SWO lt := by
 refine ⟨h.irrefl, h.trans, fun x y z h1 h2 => ?_⟩
 cases h3 : lt x z with
 | false => rfl
 | true =>
  cases h4 : lt y x with
  | true => have := h.trans y x z h4 h3; rw [h2] at this; cases this
  | false => rw [h.tri x y h1 h4, h2] at h3; cases h3
theorem ltO_eq : ltOf cf127 = ltU := by funext x y; exact ltO127 x y
theorem noOrcA : OrcOk Tryz.prog (fun _ _ => none) := fun f vs r h => by cases h
theorem noNatA : NatFOk Tryz.prog (fun _ _ => none) := fun f vs r h => by cases h
theorem sortNil_ok : FnOk Tryz.prog 126 [.slice [], .sc (.func (.func 127) #[] #[])] (.tup []) := ev_call noOrcA noNatA 3000 (by kernel_rfl)
end Go.Proofs.YtefbaladomfccaaGreatDoor
namespace Go.Eng
variable [Glob]
theorem FnOk.none_rows {P : Program} {f : FuncId} {args : List V} {m : List Blk} {b v : Nat} (h : FnOk P f (.slice [] :: args) (.tup [])) (hp : ∀ E xs, RepL E args xs → RepL E.pure args xs) : FnOkS P f (.ms b v 0 0 :: args) m (.sc (.tuple #[])) m := by
 refine ⟨h.1, fun E w xs hs hx => ?_⟩
 obtain ⟨x, ys, hxs, hr, hrest⟩ := hx.of_cons
 have hr' : Rep E.pure (.slice []) x := by
  cases hr with
  | ms _ _ _ _ _ g e c a cap hb hl h0 hc => exact .slice _ [] a cap 0 ⟨0, 0, none⟩ (fun _ _ => undef) (fun h => absurd rfl h) (Nat.zero_le _) (fun i row h => by simp at h) (fun i row j c h => by simp at h) (fun i row j c h => by simp at h) (fun i row j c h => by simp at h)
  | msnil => exact .slice _ [] none 0 0 ⟨0, 0, none⟩ (fun _ _ => undef) (fun h => absurd rfl h) (Nat.le_refl _) (fun i row h => by simp at h) (fun i row j c h => by simp at h) (fun i row j c h => by simp at h) (fun i row j c h => by simp at h)
 have hx' : RepL E.pure (.slice [] :: args) xs.toList := by rw [hxs]; exact RepL.cons hr' (hp E _ hrest)
 refine (h.2 E.F E.gl w xs hs.F hx').mono ?_
 rintro e w' ⟨F', y, rfl, -, -, -, ⟨hg', hy⟩, hbel⟩
 have hy : y = .tuple #[] := by
  cases hy with
  | tup _ _ zs hl hh => exact congrArg Value.tuple (Array.eq_empty_of_size_eq_zero (xs := zs) (by simpa using hl.symm))
 obtain ⟨h1, h2⟩ := hs.below hbel
 exact ⟨E, y, rfl, h2, h1, by rw [hy]; exact .sc _ _⟩
end Go.Eng
namespace Go.Proofs.YtefbaladomfccaaGreatDoor
open Go.Eng
open Go.Sort (SWO grow flatK HoldsK PermIn SortedIn)
variable [Glob]
theorem sortC_ok (m : List Blk) (b v : Nat) (l : List Us) (hb : m[b]? = some (.rows v 2 (l.map encU))) (hl : l.length ≤ 1048576) :
  FnOkR Tryz.prog 126 [.ms b v 0 l.length, .sc (.func (.func 127) #[] #[])] m fun r m' => r = .sc (.tuple #[]) ∧ ∃ l' : List Us, l'.Perm l ∧ (∀ (i j : Nat) (x y : Us), i < j → l'[i]? = some x → l'[j]? = some y → ltU y x = false) ∧ m' = m.set b (.rows v 2 (l'.map encU)) := by
 rcases Nat.eq_zero_or_pos l.length with h0 | h0
 ·obtain rfl : l = [] := List.length_eq_zero_iff.1 h0
  refine (FnOk.none_rows (m := m) (b := b) (v := v) sortNil_ok fun E xs h => ?_).rel.mono fun r m' ⟨h1, h2⟩ => ⟨h1, [], List.Perm.refl _, fun i j x y _ h => by simp at h, by rw [h2, set_same hb]⟩
  obtain ⟨y, ys, rfl, hr, hy⟩ := h.of_cons
  rw [hy.of_nil]
  have := rep_sc hr
  subst this
  exact RepL.cons (.sc _ _) (.nil _)
 ·have h := sortU_ok 127 cf127 (by rw [ltO_eq]; exact lin_swo lin_us) Tryz.call127 (fun x y W => closure83 x.1 x.2 y.1 y.2 W) m b v l hb h0 hl
  rw [ltO_eq] at h
  exact h
end Go.Proofs.YtefbaladomfccaaGreatDoor
end
