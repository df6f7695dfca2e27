/-
  THE ENGINE, W: cuts in regions, and frames that are written lazily: a region's writes are kept as a list, and only what is read behind the region is laid into the frame.
-/
import Derived.Test.YtpjdfcigadnhcaaGreatDoorE4
set_option linter.all false
section
namespace Go.Eng
variable [Glob]
theorem runOps_split {P : Program} {tt : Table} {all : Array Oper} {K : St → Prop} : ∀ (k : Nat) (l : List Oper) (st : St), runOps P tt all (l.take k) st (fun s => runOps P tt all (l.drop k) s K) = runOps P tt all l st K
  | 0, l, st => rfl
  | k + 1, [], st => rfl
  | k + 1, o :: r, st => by
    have ih := fun s => runOps_split (P := P) (tt := tt) (all := all) (K := K) k r s
    simp only [List.take_succ_cons, List.drop_succ_cons, runOps, ih]
theorem runOps_cut {P : Program} {tt : Table} {all : Array Oper} (k : Nat) {l : List Oper} {st : St} {K : St → Prop}
    (h : ∀ K1 : St → Prop, (∀ s, runOps P tt all (l.drop k) s K → K1 s) → runOps P tt all (l.take k) st K1) : runOps P tt all l st K := by
  rw [← runOps_split k]
  exact h _ fun _ h => h

/-- What the list of writes gives at a slot, else what is given. -/
def lkF (t : Nat) (b : V) : List (Nat × V) → V
  | [] => b
  | p :: ws => if p.1 = t then p.2 else lkF t b ws
/-- A frame of n slots: the base with a list of writes, the latest first. -/
def wr (n : Nat) (l : List V) (ws : List (Nat × V)) : List V := (List.range n).map fun i => lkF i (l.getD i .undef) ws
@[congr] theorem wr_congr {n : Nat} {l : List V} {ws ws' : List (Nat × V)} (h : ws = ws') : wr n l ws = wr n l ws' := by rw [h]
theorem wr_get (n : Nat) (l : List V) (ws : List (Nat × V)) (t : Nat) : (wr n l ws)[t]? = if t < n then some (lkF t (l.getD t .undef) ws) else none := by
  unfold wr
  rw [List.getElem?_map]
  by_cases h : t < n
  · rw [if_pos h, List.getElem?_range h]; rfl
  · rw [if_neg h, List.getElem?_eq_none (by simp; omega)]; rfl
theorem wr_getD (n : Nat) (l : List V) (ws : List (Nat × V)) (t : Nat) : (wr n l ws).getD t .undef = if t < n then lkF t (l.getD t .undef) ws else .undef := by
  rw [List.getD_eq_getElem?_getD, wr_get]; split <;> rfl
theorem wr_length (n : Nat) (l : List V) (ws : List (Nat × V)) : (wr n l ws).length = n := by simp [wr]
theorem wr_set (n : Nat) (l : List V) (ws : List (Nat × V)) (d : Nat) (v : V) : (wr n l ws).set d v = wr n l ((d, v) :: ws) := by
  apply List.ext_getElem?
  intro i
  rw [List.getElem?_set, wr_get, wr_get, wr_length]
  simp only [lkF]
  by_cases h : d = i
  · subst h; simp
  · simp [h]
theorem wr_nil {n : Nat} {l : List V} (h : l.length = n) : wr n l [] = l := by
  apply List.ext_getElem?
  intro i
  rw [wr_get]
  simp only [lkF]
  split
  · rename_i hi
    rw [List.getD_eq_getElem?_getD, List.getElem?_eq_getElem (by omega)]; rfl
  · rw [List.getElem?_eq_none (by omega)]
/-- The frame behind a region by a code for each slot: 0: as it was, 1: forgotten, else: what was written. -/
def mkW (ws : List (Nat × V)) : Nat → List Nat → List V → List V
  | _, _, [] => []
  | _, [], v :: l => v :: l
  | i, c :: cs, v :: l => (match c with | 0 => v | 1 => .undef | _ => lkF i v ws) :: mkW ws (i + 1) cs l
def keysW (cs : List Nat) (ws : List (Nat × V)) : Bool := ws.all fun p => match cs[p.1]? with | some 0 => false | none => false | _ => true
theorem lkF_none {t : Nat} {b : V} : ∀ {ws : List (Nat × V)}, (∀ p ∈ ws, p.1 ≠ t) → lkF t b ws = b
  | [], _ => rfl
  | p :: ws, h => by
    simp only [lkF, if_neg (h p (by simp))]
    exact lkF_none fun q hq => h q (by simp [hq])
theorem keysW_none {cs : List Nat} {ws : List (Nat × V)} (h : keysW cs ws = true) {i : Nat} (hi : cs[i]? = some 0 ∨ cs[i]? = none) (b : V) : lkF i b ws = b := by
  refine lkF_none fun p hp e => ?_
  have := List.all_eq_true.1 h p hp
  rw [e] at this
  rcases hi with hi | hi <;> rw [hi] at this <;> cases this
theorem mkW_get (ws : List (Nat × V)) : ∀ (l : List V) (cs : List Nat) (k i : Nat), (mkW ws k cs l)[i]? = l[i]?.map fun v => match cs[i]? with | none => v | some 0 => v | some 1 => .undef | _ => lkF (k + i) v ws
  | [], cs, k, i => by simp [mkW]
  | v :: l, [], k, i => by simp [mkW]
  | v :: l, c :: cs, k, 0 => by
    simp only [mkW, List.getElem?_cons_zero, Option.map_some, Nat.add_zero]
    rcases c with _ | _ | c <;> rfl
  | v :: l, c :: cs, k, i + 1 => by
    simp only [mkW, List.getElem?_cons_succ]
    rw [mkW_get ws l cs (k + 1) i, show k + 1 + i = k + (i + 1) by omega]
theorem mkW_get' {ws : List (Nat × V)} {l : List V} {cs : List Nat} (hk : keysW cs ws = true) {i : Nat} {v : V} (h : (mkW ws 0 cs l)[i]? = some v) : v = .undef ∨ (wr l.length l ws)[i]? = some v := by
  rw [mkW_get, Option.map_eq_some_iff] at h
  obtain ⟨b, hb, hv⟩ := h
  have hi := (List.getElem?_eq_some_iff.1 hb).1
  have hd : l.getD i .undef = b := by rw [List.getD_eq_getElem?_getD, hb]; rfl
  rw [wr_get, if_pos hi, hd]
  rw [Nat.zero_add] at hv
  revert hv
  cases hc : cs[i]? with
  | none => intro hv; right; rw [keysW_none hk (.inr hc)]; exact congrArg some hv
  | some c =>
    rcases c with _ | _ | c
    · intro hv; right; rw [keysW_none hk (.inl hc)]; exact congrArg some hv
    · intro hv; left; exact hv.symm
    · intro hv; right; exact congrArg some hv
theorem mkW_length (ws : List (Nat × V)) : ∀ (l : List V) (cs : List Nat) (k : Nat), (mkW ws k cs l).length = l.length
  | [], cs, k => by simp [mkW]
  | v :: l, [], k => by simp [mkW]
  | v :: l, c :: cs, k => by simp [mkW, mkW_length ws l cs (k + 1)]
theorem mkW_rep {E : Env} {ws : List (Nat × V)} {l : List V} {cs : List Nat} {xs : List Value} (hk : keysW cs ws = true) (h : RepL E (wr l.length l ws) xs) : RepL E (mkW ws 0 cs l) xs := by
  refine ⟨by rw [mkW_length, ← h.1, wr_length], fun i v x hv hx => ?_⟩
  rcases mkW_get' hk hv with rfl | h1
  · exact .undef _ _
  · exact h.2 i v x h1 hx
theorem mkW_eq {ws : List (Nat × V)} {l : List V} {cs : List Nat} (hk : keysW cs ws = true) (h1 : cs.all (· != 1) = true) : mkW ws 0 cs l = wr l.length l ws := by
  apply List.ext_getElem?
  intro i
  rw [mkW_get, wr_get]
  by_cases hi : i < l.length
  · rw [if_pos hi, List.getElem?_eq_getElem hi, Option.map_some]
    have hd : l.getD i .undef = l[i] := by rw [List.getD_eq_getElem?_getD, List.getElem?_eq_getElem hi]; rfl
    rw [hd, Nat.zero_add]
    congr 1
    cases hc : cs[i]? with
    | none => exact (keysW_none hk (.inr hc) _).symm
    | some c =>
      rcases c with _ | _ | c
      · exact (keysW_none hk (.inl hc) _).symm
      · have := List.all_eq_true.1 h1 1 (List.mem_of_getElem? hc)
        simp at this
      · rfl
  · rw [if_neg hi, List.getElem?_eq_none (show l.length ≤ i by omega)]; rfl

/-- The slot that an operation's guard reads, by a short table. -/
def gT (j : Nat) : List (Nat × Nat) → Option Nat
  | [] => none
  | p :: r => if p.1 = j then some p.2 else gT j r
def gOk (all : Array Oper) (gl : List (Nat × Nat)) : Bool := gl.all fun p => (match (all[p.1]?).bind (·.dst) with | some d => decide (d = p.2) | none => false)
def gRead (want : Bool) : Option V → Option Bool
  | some (.sc (.bool b)) => some (b == want)
  | some (.sc _) => some false
  | some _ => none
  | none => some false
def wantedW (gl : List (Nat × Nat)) (all : Array Oper) (fr : List V) (o : Oper) : Option Bool :=
  match o.guard with
  | none => some true
  | some (j, want) => match gT j gl with
    | none => wantedV all fr o
    | some d => gRead want fr[d]?
theorem gT_ok {all : Array Oper} : ∀ {gl : List (Nat × Nat)}, gOk all gl = true → ∀ {j d : Nat}, gT j gl = some d → (all[j]?).bind (·.dst) = some d
  | [], _, j, d, h => by cases h
  | p :: r, hg, j, d, h => by
    have h1 := List.all_eq_true.1 hg p (by simp)
    simp only [gT] at h
    split at h
    · rename_i e
      cases h
      rw [e] at h1
      cases hd : (all[j]?).bind (·.dst) with
      | none => rw [hd] at h1; cases h1
      | some d => rw [hd] at h1; exact congrArg some (of_decide_eq_true h1)
    · exact gT_ok (List.all_eq_true.2 fun q hq => List.all_eq_true.1 hg q (by simp [hq])) h
theorem wantedW_eq {all : Array Oper} {gl : List (Nat × Nat)} (hg : gOk all gl = true) (fr : List V) (o : Oper) : wantedW gl all fr o = wantedV all fr o := by
  unfold wantedW
  cases ho : o.guard with
  | none => unfold wantedV; rw [ho]
  | some g =>
    obtain ⟨j, want⟩ := g
    simp only
    cases ht : gT j gl with
    | none => rfl
    | some d =>
      have := gT_ok hg ht
      unfold wantedV
      rw [ho]
      simp only [this]
      unfold gRead
      cases fr[d]? with
      | none => rfl
      | some v =>
        cases v with
        | sc x => cases x <;> rfl
        | _ => rfl
def runOpsW (P : Program) (tt : Table) (gl : List (Nat × Nat)) (all : Array Oper) : List Oper → St → (St → Prop) → Prop
  | [], st, Q => Q st
  | o :: r, st, Q => match wantedW gl all st.fr o with
    | some true => stepOp P tt st.mem.length o st fun st' => runOpsW P tt gl all r st' Q
    | some false => runOpsW P tt gl all r (st.put o.dst (.sc undef)) Q
    | none => False
@[congr] theorem runOpsW_congr {P : Program} {tt : Table} {gl : List (Nat × Nat)} {all : Array Oper} {l l' : List Oper} {st st' : St} {Q : St → Prop} (hl : l = l') (h : st = st') : runOpsW P tt gl all l st Q = runOpsW P tt gl all l' st' Q := by rw [hl, h]
theorem runOpsW_eq {P : Program} {tt : Table} {gl : List (Nat × Nat)} {all : Array Oper} (hg : gOk all gl = true) {Q : St → Prop} : ∀ (l : List Oper) (st : St), runOpsW P tt gl all l st Q = runOps P tt all l st Q
  | [], st => rfl
  | o :: r, st => by
    have ih := fun s => runOpsW_eq (P := P) (tt := tt) (Q := Q) hg r s
    simp only [runOpsW, runOps, wantedW_eq hg, ih]
    rfl
theorem runOpsW_split {P : Program} {tt : Table} {gl : List (Nat × Nat)} {all : Array Oper} {K : St → Prop} : ∀ (k : Nat) (l : List Oper) (st : St), runOpsW P tt gl all (l.take k) st (fun s => runOpsW P tt gl all (l.drop k) s K) = runOpsW P tt gl all l st K
  | 0, l, st => rfl
  | k + 1, [], st => rfl
  | k + 1, o :: r, st => by
    have ih := fun s => runOpsW_split (P := P) (tt := tt) (gl := gl) (all := all) (K := K) k r s
    simp only [List.take_succ_cons, List.drop_succ_cons, runOpsW, ih]
theorem runOpsW_cut {P : Program} {tt : Table} {gl : List (Nat × Nat)} {all : Array Oper} (k : Nat) {l : List Oper} {st : St} {K : St → Prop}
    (h : ∀ K1 : St → Prop, (∀ s, runOpsW P tt gl all (l.drop k) s K → K1 s) → runOpsW P tt gl all (l.take k) st K1) : runOpsW P tt gl all l st K := by
  rw [← runOpsW_split k]
  exact h _ fun _ h => h
section
variable {P : Program} {tt : Table} {ρ : Option Nat} {n0 : Nat} {Q : Exit → St → Prop} {l : List V} {mem : List Blk}
theorem tri_mkW {c : Code} {cs : List Nat} {ws : List (Nat × V)} (hk : keysW cs ws = true) (h : Tri P ρ n0 c { fr := mkW ws 0 cs l, mem := mem } Q) : Tri P ρ n0 c { fr := wr l.length l ws, mem := mem } Q :=
  tri_weak (st' := { fr := mkW ws 0 cs l, mem := mem }) (fun E w a hs => ⟨hs.F, hs.lt, hs.mem, hs.top, hs.ver, hs.apart, mkW_rep hk hs.fr⟩) h
theorem tri_seq_region_w (ht : TT P tt) (n : Nat) (cs : List Nat) (gl : List (Nat × Nat)) (hn : l.length = n) {id : Nat} {ops : Array Oper} {y : Code} (hg : gOk ops gl = true)
    (h : ∀ K : St → Prop, (∀ ws mem', keysW cs ws = true → Tri P ρ n0 y { fr := mkW ws 0 cs l, mem := mem' } Q → K { fr := wr n l ws, mem := mem' }) → runOpsW P tt gl ops ops.toList { fr := wr n l [], mem := mem } K) :
    Tri P ρ n0 (.seq (.region id ops false) y) { fr := l, mem := mem } Q := by
  subst hn
  refine tri_seq_region ht fun K hK => ?_
  have := h K fun ws mem' hk ht => hK _ (tri_mkW hk ht)
  rw [runOpsW_eq hg, wr_nil rfl] at this
  exact this
theorem tri_last_region_w (ht : TT P tt) (n : Nat) (cs : List Nat) (gl : List (Nat × Nat)) (hn : l.length = n) (h1 : cs.all (· != 1) = true) {id : Nat} {ops : Array Oper} (hg : gOk ops gl = true)
    (h : ∀ K : St → Prop, (∀ ws mem', keysW cs ws = true → Q .normal { fr := mkW ws 0 cs l, mem := mem' } → K { fr := wr n l ws, mem := mem' }) → runOpsW P tt gl ops ops.toList { fr := wr n l [], mem := mem } K) :
    Tri P ρ n0 (.region id ops false) { fr := l, mem := mem } Q := by
  subst hn
  refine tri_last_region ht fun K hK => ?_
  have := h K fun ws mem' hk ht => hK _ (by rw [← mkW_eq hk h1]; exact ht)
  rw [runOpsW_eq hg, wr_nil rfl] at this
  exact this
theorem tri_seq_mixed_w (ht : TT P tt) (hm : P.follows .mixedOrders = true) (n : Nat) (cs : List Nat) (hn : l.length = n) (plan : List Pl) (m : Nat) {id : Nat} {ops : Array Oper} {y : Code} (hok : mixOk ops plan = true)
    (h : ∀ K : St → Prop, (∀ ws mem', keysW cs ws = true → Tri P ρ n0 y { fr := mkW ws 0 cs l, mem := mem' } Q → K { fr := wr n l ws, mem := mem' }) → runM P tt ops mem.length ops.toList plan { fr := wr n l [], mem := mem ++ List.replicate m .hole } K) :
    Tri P ρ n0 (.seq (.region id ops true) y) { fr := l, mem := mem } Q := by
  subst hn
  refine tri_seq_mixed ht hm plan m hok fun K hK => ?_
  have := h K fun ws mem' hk ht => hK _ (tri_mkW hk ht)
  rw [wr_nil rfl] at this
  exact this
theorem tri_last_mixed_w (ht : TT P tt) (hm : P.follows .mixedOrders = true) (n : Nat) (cs : List Nat) (hn : l.length = n) (h1 : cs.all (· != 1) = true) (plan : List Pl) (m : Nat) {id : Nat} {ops : Array Oper} (hok : mixOk ops plan = true)
    (h : ∀ K : St → Prop, (∀ ws mem', keysW cs ws = true → Q .normal { fr := mkW ws 0 cs l, mem := mem' } → K { fr := wr n l ws, mem := mem' }) → runM P tt ops mem.length ops.toList plan { fr := wr n l [], mem := mem ++ List.replicate m .hole } K) :
    Tri P ρ n0 (.region id ops true) { fr := l, mem := mem } Q := by
  subst hn
  refine tri_last_mixed ht hm plan m hok fun K hK => ?_
  have := h K fun ws mem' hk ht => hK _ (by rw [← mkW_eq hk h1]; exact ht)
  rw [wr_nil rfl] at this
  exact this
end
attribute [irreducible] runOpsW
end Go.Eng
end
