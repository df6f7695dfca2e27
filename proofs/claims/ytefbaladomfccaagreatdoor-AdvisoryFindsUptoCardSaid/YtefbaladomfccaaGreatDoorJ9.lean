/-
  CONTRACTS: slices.SortFunc at uses with the program's comparing function, by the kit's contract.
-/
import Derived.Test.YtefbaladomfccaaGreatDoorJ8
set_option linter.all false
section
namespace Go.Eng
variable [aK]
theorem bc.S4 {E : Env} {w w' : World} {a : Act} {st : St} (hs : bc E w a st) {b v e g c : Nat} {rs rs' : List V} {T : TypeId} {ys : Array Value} (hm : st.mem[b]? = some (.rows v e rs)) (hb : E.aM b v = some (g, e, c)) (hF : ∀ o, E.F ⟨g, o, none⟩ = none)
  (Y7 : w'.os = w.os) (S5 : w'.tape = w.tape) (WY : w'.output = w.output) (jW : w.heap.size ≤ w'.heap.size) (hh : w'.heap[g]? = some (.cells ys T (0, 0))) (rR : ∀ k, k < w.heap.size → k ≠ g → w'.heap[k]? = w.heap[k]?)
  (hy1 : ys.size = c * e) (hy2 : rs'.length ≤ c) (hy3 : fS E.pure e rs' (fun o => ys[o]?)) : bc E w' a { st with mem := st.mem.set b (.rows v e rs') } ∧ dO E w E w' := by
 have aL := (List.getElem?_eq_some_iff.1 hm).1
 have hFg : ∀ ad x, E.F ad = some x → ad.block ≠ g := fun ad x h e => by
  have hc := hs.F ad x h
  obtain ⟨aM, off, spot⟩ := ad
  obtain rfl : aM = g := e
  have rm : spot = none := by
   unfold World.cell? at hc
   split at hc
   ·dsimp only at hc
    cases spot with
    | none => rfl
    | some s => simp at hc
   ·cases hc
  subst rm
  rw [hF] at h; cases h
 refine ⟨⟨fun ad x h => ?_, fun k v g e c h => Nat.lt_of_lt_of_le (hs.lt _ _ _ _ _ h) jW, fun k B hk => ?_, fun k hk => hs.top k (by simpa using hk), fun k B hk v hv => ?_, hs.apart, hs.fr⟩,
  ⟨E.le_refl, fun k v g e c h => .inl ⟨k, v, e, c, h⟩, fun _ _ h => .inl h, Y7, S5, WY, jW, fun k hk bL => rR k hk fun e => by subst e; exact bL _ _ _ _ hb⟩⟩
 ·have h1 := hs.F ad x h
  have h2 := World.block_lt_of_cell? w ad h1
  rw [← h1]
  unfold World.cell?
  rw [rR _ h2 (hFg ad x h)]
 ·rw [List.getElem?_set] at hk
  split at hk
  ·rename_i he; subst he
   cases hk
   exact .inr ⟨g, T, ys, c, hb, hh, hy1, hy2, hy3, hF⟩
  ·rename_i bL
   refine (hs.mem k B hk).mono E.le_refl (fun _ h => h) (fun g' e' c' h => rR g' (hs.lt _ _ _ _ _ h) fun e => ?_) fun _ _ _ _ _ h => h
   subst e
   exact bL (hs.apart _ _ _ _ _ _ _ _ _ hb h)
 ·rw [List.getElem?_set] at hk
  split at hk
  ·rename_i he; subst he
   cases hk
   exact hs.bW b _ hm v hv
  ·exact hs.bW k B hk v hv
end Go.Eng
namespace Go.Proofs.YtefbaladomfccaaGreatDoor
open Go.Eng
open Go.Sort (SWO grow flatK HoldsK PermIn SortedIn)
variable [aK]
def q9 (u : Us) : List Value := [.string u.1, .string u.2]
theorem zi (d : Array Us) (i j : Nat) (hi : i < d.size) (hj : j < 2) : (flatK q9 2 d)[i * 2 + j]! = (q9 d[i]!)[j]! := by
 rw [Go.Sort.get_flatK _ _ _ _ (by omega)]
 rw [show (i * 2 + j) / 2 = i by omega, show (i * 2 + j) % 2 = j by omega]
theorem HQ (g : Nat) (cf : Us → Us → Int) (hO : SWO (ltOf cf)) (eg : ∀ args w, (callFunc g args).run Tryz.prog w = .ok (.enter g args) w)
  (gj : ∀ (x y : Us) (W : World), Calls Tryz.prog g #[.agg #[.string x.1, .string x.2], .agg #[.string y.1, .string y.2]] W fun e w' => e = .returned (.int .i64 (cf x y)) ∧ ∃ q WX, w' = grow (W.drewN q) WX)
  (m : List aC) (b v : Nat) (l : List Us) (hb : m[b]? = some (.rows v 2 (l.map az))) (h0 : 0 < l.length) (hl : l.length ≤ 1048576) :
  fm Tryz.prog 126 [.ms b v 0 l.length, .sc (.func (.func g) #[] #[])] m fun r m' => r = .sc (.tuple #[]) ∧ ∃ l' : List Us, l'.Perm l ∧ (∀ (i j : Nat) (x y : Us), i < j → l'[i]? = some x → l'[j]? = some y → ltOf cf y x = false) ∧ m' = m.set b (.rows v 2 (l'.map az)) := by
 refine ⟨Tryz.call126, fun E w xs hs hx => ?_⟩
 obtain ⟨x, ys, kG, hr, pb⟩ := hx.of_cons
 obtain ⟨f, zs, KF, WZ, hz⟩ := pb.of_cons
 have D8 := hz.of_nil
 subst D8
 have hf := bS WZ
 subst hf
 obtain rfl : xs = #[x, .func (.func g) #[] #[]] := by rw [← Array.toArray_toList (xs := xs), kG, KF]
 rcases hs.mem b _ hb with ⟨vW, -⟩ | ⟨gb, T, cs, c, hblk, hh, pC, Gv, eD, hF⟩
 ·rw [List.map_eq_nil_iff] at vW; subst vW; simp at h0
 rw [List.length_map] at Gv
 obtain ⟨cap, rfl⟩ : ∃ cap, x = .slice (some ⟨gb, 0, none⟩) l.length cap := by
  clear pb hx kG eD hl
  generalize l.length = nl at hr h0 Gv ⊢
  cases hr with
  | ms _ _ _ _ _ g' e' c' a cap dt Nd QG LX =>
   rw [hblk] at dt; cases dt
   obtain ⟨rfl, -⟩ := QG rfl
   exact ⟨cap, rfl⟩
  | dg => exact absurd h0 (Nat.lt_irrefl _)
 have kf : ∀ (i : Nat) (u : Us), l[i]? = some u → cs[i * 2]? = some (.string u.1) ∧ cs[i * 2 + 1]? = some (.string u.2) := fun i u hu => by
  obtain ⟨-, h2⟩ := eD i (az u) (by rw [List.getElem?_map, hu]; rfl)
  constructor
  ·obtain ⟨y, hy, -, vL⟩ := h2 0 (str u.1) rfl
   rw [bS vL] at hy; exact hy
  ·obtain ⟨y, hy, -, vL⟩ := h2 1 (str u.2) rfl
   rw [bS vL] at hy; exact hy
 have KX : gb < w.heap.size := (Array.getElem?_eq_some_iff.1 hh).1
 have eC : ∀ i, i < l.length → l[i]? = some (l.toArray[i]!) := fun i hi => by
  rw [getElem!_pos l.toArray i (by simpa using hi)]
  simp [List.getElem?_eq_getElem hi]
 have hH : HoldsK q9 2 w gb 0 l.toArray := fun t ht => by
  have ht' : t < l.length * 2 := by simpa using ht
  obtain ⟨i, j, hi, hj, rfl⟩ : ∃ i j, i < l.length ∧ j < 2 ∧ t = i * 2 + j := ⟨t / 2, t % 2, by omega, by omega, by omega⟩
  have hc := kf i _ (eC i hi)
  refine ⟨?_, by simp [World.frozen?, hh]⟩
  rw [gM hh, Nat.zero_add, zi _ _ _ (by simpa using hi) hj]
  obtain rfl | rfl : j = 0 ∨ j = 1 := by omega
  ·exact hc.1
  ·exact hc.2
 have call := AnyQ.slices_SortFunc OZ 2 Tryz.isAgg78 Tryz.sizeOf78 q9 (fun _ => rfl) (fun x v hv => by simp [q9] at hv; rcases hv with rfl | rfl <;> rfl) cf hO g #[] gb 0 cap l.toArray w eg (fun _ _ _ _ x y => gj x y _) hH KX (by simp; omega)
 have e1 : l.toArray.size = l.length := List.size_toArray
 rw [e1] at call
 change Calls Tryz.prog 126 _ _ _ at call
 refine call.mono ?_
 rintro e w' ⟨rfl, d', n, os, hp, O0, rfl⟩
 have ni : d'.size = l.length := by rw [hp.1]; simp
 have lN : (sortWorldK q9 2 w gb 0 n d' os).heap[gb]? = some (.cells (Go.Sort.putCells id 0 (flatK q9 2 d') cs) T (0, 0)) := by
  show (_ ++ os)[gb]? = _
  rw [Array.getElem?_append_left (by simpa [Go.Sort.putRowK] using KX)]
  show ((w.heap.modify gb _))[gb]? = _
  rw [Array.getElem?_modify, if_pos rfl, hh]; rfl
 obtain ⟨h1, h2⟩ := hs.S4 (w' := sortWorldK q9 2 w gb 0 n d' os) (rs' := d'.toList.map az) hb hblk hF rfl rfl rfl (by
   show _ ≤ (_ ++ os).size
   rw [Array.size_append]
   show _ ≤ (w.heap.modify gb _).size + _
   rw [Array.size_modify]; omega) lN (fun k hk bL => by
   show (_ ++ os)[k]? = _
   rw [Array.getElem?_append_left (by simpa [Go.Sort.putRowK] using hk)]
   show ((w.heap.modify gb _))[k]? = _
   rw [Array.getElem?_modify, if_neg (fun e => bL e.symm)]) (by simp [Go.Sort.putCells, pC]) (by simp [ni]; exact Gv) (fun i row hi => by
   rw [List.getElem?_map, Option.map_eq_some_iff] at hi
   obtain ⟨u, hu, rfl⟩ := hi
   have hid : i < d'.size := by simpa using (List.getElem?_eq_some_iff.1 hu).1
   have KY : d'[i]! = u := by
    rw [getElem!_pos d' i hid]
    have := (List.getElem?_eq_some_iff.1 hu).2
    simpa using this
   have key : ∀ j, j < 2 → (Go.Sort.putCells id 0 (flatK q9 2 d') cs)[i * 2 + j]? = some ((q9 u)[j]!) := fun j hj => by
    have aL : i * 2 + j < cs.size := by rw [pC]; omega
    unfold Go.Sort.putCells
    rw [Array.getElem?_mapIdx, Array.getElem?_eq_getElem aL, Option.map_some, if_pos ⟨Nat.zero_le _, by simp; omega⟩]
    simp only [id,Nat.sub_zero]
    rw [zi _ _ _ hid hj, KY]
   refine ⟨rfl, fun j cc hj => ?_⟩
   match j, hj with
   | 0, hj => cases hj; exact ⟨.string u.1, by simpa [q9] using key 0 (by omega), rfl, .sc _ _⟩
   | 1, hj => cases hj; exact ⟨.string u.2, by simpa [q9] using key 1 (by omega), rfl, .sc _ _⟩
   | j + 2, hj => simp [az, V.cells] at hj)
 refine ⟨E, _, _, _, rfl, ⟨rfl, d'.toList, ?_, ?_, rfl⟩, h2, h1, .sc _ _⟩
 ·have := hp.2.2
  simpa [ni, Array.extract_eq_self_of_le] using this
 ·intro i j x y qW Du Y8
  have hj : j < d'.size := by simpa using (List.getElem?_eq_some_iff.1 Y8).1
  have ex : d'[i]! = x := by
   rw [getElem!_pos d' i (by omega)]
   have := (List.getElem?_eq_some_iff.1 Du).2
   simpa using this
  have ey : d'[j]! = y := by
   rw [getElem!_pos d' j hj]
   have := (List.getElem?_eq_some_iff.1 Y8).2
   simpa using this
  have := O0 i j (Nat.zero_le _) qW (by simpa [ni] using hj)
  rw [ex, ey] at this
  exact this
theorem ME {a b : ByteArray} (h : a.toList = b.toList) : a = b := by
 rw [ByteArray.toList_eq, ByteArray.toList_eq] at h
 exact ByteArray.ext (Array.toList_inj.1 h)
def vd (x y : Us) : Int := if lC x.1 y.1 = 0 then lC x.2 y.2 else lC x.1 y.1
theorem O1 (x y : Us) : ltOf vd x y = dM x y := by
 have key : ∀ a b : ByteArray, decide (lC a b < 0) = qb a b := fun a b => HP
 show decide (vd x y < 0) = dM x y
 unfold dM
 by_cases h : lC x.1 y.1 = 0
 ·have e1 : x.1 = y.1 := ME (Dt.1 h)
  have e2 : qb x.1 y.1 = false := by rw [e1]; exact w7.irrefl _
  have e3 : vd x y = lC x.2 y.2 := if_pos h
  rw [e3, key, e2, decide_eq_true e1]; rfl
 ·have e1 : ¬ x.1 = y.1 := fun e => h (Dt.2 (by rw [e]))
  have e3 : vd x y = lC x.1 y.1 := if_neg h
  rw [e3, key, decide_eq_false e1, Bool.false_and, Bool.or_false]
theorem KZ {α : Type} {lt : α → α → Bool} (h : Ap lt) : Go.Sort.SWO lt := by
 refine ⟨h.irrefl, h.trans, fun x y z h1 h2 => ?_⟩
 cases h3 : lt x z with
 | false => rfl
 | true =>
  cases h4 : lt y x with
  | true => have := h.trans y x z h4 h3; rw [h2] at this; cases this
  | false => rw [h.Mq x y h1 h4, h2] at h3; cases h3
theorem HR : ltOf vd = dM := by funext x y; exact O1 x y
theorem O2 : l9 Tryz.prog (fun _ _ => none) := fun f vs r h => by cases h
theorem O3 : iG Tryz.prog (fun _ _ => none) := fun f vs r h => by cases h
theorem BD : aR Tryz.prog 126 [.slice [], .sc (.func (.func 127) #[] #[])] (.ch []) := er O2 O3 3000 (by kernel_rfl)
end Go.Proofs.YtefbaladomfccaaGreatDoor
namespace Go.Eng
variable [aK]
theorem aR.ve {P : Program} {f : FuncId} {args : List V} {m : List aC} {b v : Nat} (h : aR P f (.slice [] :: args) (.ch [])) (hp : ∀ E xs, aV E args xs → aV E.pure args xs) : bF P f (.ms b v 0 0 :: args) m (.sc (.tuple #[])) m := by
 refine ⟨h.1, fun E w xs hs hx => ?_⟩
 obtain ⟨x, ys, kG, hr, pb⟩ := hx.of_cons
 have uI : a8 E.pure (.slice []) x := by
  cases hr with
  | ms _ _ _ _ _ g e c a cap hb hl h0 hc => exact .slice _ [] a cap 0 ⟨0, 0, none⟩ (fun _ _ => undef) (fun h => absurd rfl h) (Nat.zero_le _) (fun i row h => by simp at h) (fun i row j c h => by simp at h) (fun i row j c h => by simp at h) (fun i row j c h => by simp at h)
  | dg => exact .slice _ [] none 0 0 ⟨0, 0, none⟩ (fun _ _ => undef) (fun h => absurd rfl h) (Nat.le_refl _) (fun i row h => by simp at h) (fun i row j c h => by simp at h) (fun i row j c h => by simp at h) (fun i row j c h => by simp at h)
 have vJ : aV E.pure (.slice [] :: args) xs.toList := by rw [kG]; exact aV.cons uI (hp E _ pb)
 refine (h.2 E.F E.gl w xs hs.F vJ).mono ?_
 rintro e w' ⟨F', y, rfl, -, -, -, ⟨JY, hy⟩, uw⟩
 have hy : y = .tuple #[] := by
  cases hy with
  | ch _ _ zs hl hh => exact congrArg Value.tuple (Array.eq_empty_of_size_eq_zero (xs := zs) (by simpa using hl.symm))
 obtain ⟨h1, h2⟩ := hs.below uw
 exact ⟨E, y, rfl, h2, h1, by rw [hy]; exact .sc _ _⟩
end Go.Eng
namespace Go.Proofs.YtefbaladomfccaaGreatDoor
open Go.Eng
open Go.Sort (SWO grow flatK HoldsK PermIn SortedIn)
variable [aK]
theorem HS (m : List aC) (b v : Nat) (l : List Us) (hb : m[b]? = some (.rows v 2 (l.map az))) (hl : l.length ≤ 1048576) :
  fm Tryz.prog 126 [.ms b v 0 l.length, .sc (.func (.func 127) #[] #[])] m fun r m' => r = .sc (.tuple #[]) ∧ ∃ l' : List Us, l'.Perm l ∧ (∀ (i j : Nat) (x y : Us), i < j → l'[i]? = some x → l'[j]? = some y → dM y x = false) ∧ m' = m.set b (.rows v 2 (l'.map az)) := by
 rcases Nat.eq_zero_or_pos l.length with h0 | h0
 ·obtain rfl : l = [] := List.length_eq_zero_iff.1 h0
  refine (aR.ve (m := m) (b := b) (v := v) BD fun E xs h => ?_).rel.mono fun r m' ⟨h1, h2⟩ => ⟨h1, [], List.Perm.refl _, fun i j x y _ h => by simp at h, by rw [h2, ig hb]⟩
  obtain ⟨y, ys, rfl, hr, hy⟩ := h.of_cons
  rw [hy.of_nil]
  have := bS hr
  subst this
  exact aV.cons (.sc _ _) (.nil _)
 ·have h := HQ 127 vd (by rw [HR]; exact KZ jr) Tryz.call127 (fun x y W => ET x.1 x.2 y.1 y.2 W) m b v l hb h0 hl
  rw [HR] at h
  exact h
end Go.Proofs.YtefbaladomfccaaGreatDoor
end
