/-
  THE ENGINE, W: cuts in regions, and frames that are written lazily: a region's writes are kept as a list, and only what is read behind the region is laid into the frame.
  THE ENGINE, X: outcomes that the data settle: a form of Tri under which cases may be made while the code is walked, and a result need not be named ahead.
  THE ENGINE, Y: regions that draw their order, with outcomes that the data settle.
  THE ENGINE, Z: loops over families of states; regions by the plain run.
  THE ENGINE, MP: maps with keys that are compared at once: what reading and writing come to.
  THE ENGINE, AG: two contracts of one call speak of one result; stores of which one map alone counts.
-/
import Derived.Test.YtnfeacnbgbggfaaGreatDoorE5
import Derived.Lib.Agree
set_option linter.all false
section
namespace Go.Eng
variable [Glob]

def lkF (t : Nat) (b : V) : List (Nat × V) → V
 | [] => b
 | p :: ws => if p.1 = t then p.2 else lkF t b ws
def wr (n : Nat) (l : List V) (ws : List (Nat × V)) : List V := (List.range n).map fun i => lkF i (l.getD i .undef) ws
@[congr] theorem wr_congr {n : Nat} {l : List V} {ws ws' : List (Nat × V)} (h : ws = ws') : wr n l ws = wr n l ws' := by rw [h]
theorem wr_get (n : Nat) (l : List V) (ws : List (Nat × V)) (t : Nat) : (wr n l ws)[t]? = if t < n then some (lkF t (l.getD t .undef) ws) else none := by
 unfold wr
 rw [List.getElem?_map]
 by_cases h : t < n
 ·rw [if_pos h, List.getElem?_range h]; rfl
 ·rw [if_neg h, List.getElem?_eq_none (by simp; omega)]; rfl
theorem wr_getD (n : Nat) (l : List V) (ws : List (Nat × V)) (t : Nat) : (wr n l ws).getD t .undef = if t < n then lkF t (l.getD t .undef) ws else .undef := by
 rw [List.getD_eq_getElem?_getD, wr_get]; split <;> rfl
theorem wr_length (n : Nat) (l : List V) (ws : List (Nat × V)) : (wr n l ws).length = n := by simp [wr]
theorem wr_set (n : Nat) (l : List V) (ws : List (Nat × V)) (d : Nat) (v : V) : (wr n l ws).set d v = wr n l ((d, v) :: ws) := by
 apply List.ext_getElem?
 intro i
 rw [List.getElem?_set, wr_get, wr_get, wr_length]
 simp only [lkF]
 by_cases h : d = i
 ·subst h; simp
 ·simp [h]
theorem wr_nil {n : Nat} {l : List V} (h : l.length = n) : wr n l [] = l := by
 apply List.ext_getElem?
 intro i
 rw [wr_get]
 simp only [lkF]
 split
 ·rename_i hi
  rw [List.getD_eq_getElem?_getD, List.getElem?_eq_getElem (by omega)]; rfl
 ·rw [List.getElem?_eq_none (by omega)]
def mkW (ws : List (Nat × V)) : Nat → List Nat → List V → List V
 | _, _, [] => []
 | _, [], v :: l => v :: l
 | i, c :: cs, v :: l => (match c with | 0 => v | 1 => .undef | _ => lkF i v ws) :: mkW ws (i + 1) cs l
def keysW (cs : List Nat) (ws : List (Nat × V)) : Bool := ws.all fun p => match cs[p.1]? with | some 0 => false | none => false | _ => true
theorem lkF_none {t : Nat} {b : V} : ∀ {ws : List (Nat × V)}, (∀ p ∈ ws, p.1 ≠ t) → lkF t b ws = b
 | [], _ => rfl
 | p :: ws, h => by
  simp only [lkF,if_neg (h p (by simp))]
  exact lkF_none fun q hq => h q (by simp [hq])
theorem keysW_none {cs : List Nat} {ws : List (Nat × V)} (h : keysW cs ws = true) {i : Nat} (hi : cs[i]? = some 0 ∨ cs[i]? = none) (b : V) : lkF i b ws = b := by
 refine lkF_none fun p hp e => ?_
 have := List.all_eq_true.1 h p hp
 rw [e] at this
 rcases hi with hi | hi <;> rw [hi] at this <;> cases this
theorem mkW_get (ws : List (Nat × V)) : ∀ (l : List V) (cs : List Nat) (k i : Nat), (mkW ws k cs l)[i]? = l[i]?.map fun v => match cs[i]? with | none => v | some 0 => v | some 1 => .undef | _ => lkF (k + i) v ws
 | [], cs, k, i => by simp [mkW]
 | v :: l, [], k, i => by simp [mkW]
 | v :: l, c :: cs, k, 0 => by
  simp only [mkW,List.getElem?_cons_zero,Option.map_some,Nat.add_zero]
  rcases c with _ | _ | c <;> rfl
 | v :: l, c :: cs, k, i + 1 => by
  simp only [mkW,List.getElem?_cons_succ]
  rw [mkW_get ws l cs (k + 1) i, show k + 1 + i = k + (i + 1) by omega]
theorem mkW_get' {ws : List (Nat × V)} {l : List V} {cs : List Nat} (hk : keysW cs ws = true) {i : Nat} {v : V} (h : (mkW ws 0 cs l)[i]? = some v) : v = .undef ∨ (wr l.length l ws)[i]? = some v := by
 rw [mkW_get, Option.map_eq_some_iff] at h
 obtain ⟨b, hb, hv⟩ := h
 have hi := (List.getElem?_eq_some_iff.1 hb).1
 have hd : l.getD i .undef = b := by rw [List.getD_eq_getElem?_getD, hb]; rfl
 rw [wr_get, if_pos hi, hd]
 rw [Nat.zero_add] at hv
 revert hv
 cases hc : cs[i]? with
 | none => intro hv; right; rw [keysW_none hk (.inr hc)]; exact congrArg some hv
 | some c =>
  rcases c with _ | _ | c
  ·intro hv; right; rw [keysW_none hk (.inl hc)]; exact congrArg some hv
  ·intro hv; left; exact hv.symm
  ·intro hv; right; exact congrArg some hv
theorem mkW_length (ws : List (Nat × V)) : ∀ (l : List V) (cs : List Nat) (k : Nat), (mkW ws k cs l).length = l.length
 | [], cs, k => by simp [mkW]
 | v :: l, [], k => by simp [mkW]
 | v :: l, c :: cs, k => by simp [mkW, mkW_length ws l cs (k + 1)]
theorem mkW_rep {E : Env} {ws : List (Nat × V)} {l : List V} {cs : List Nat} {xs : List Value} (hk : keysW cs ws = true) (h : RepL E (wr l.length l ws) xs) : RepL E (mkW ws 0 cs l) xs := by
 refine ⟨by rw [mkW_length, ← h.1, wr_length], fun i v x hv hx => ?_⟩
 rcases mkW_get' hk hv with rfl | h1
 ·exact .undef _ _
 ·exact h.2 i v x h1 hx
theorem mkW_eq {ws : List (Nat × V)} {l : List V} {cs : List Nat} (hk : keysW cs ws = true) (h1 : cs.all (· != 1) = true) : mkW ws 0 cs l = wr l.length l ws := by
 apply List.ext_getElem?
 intro i
 rw [mkW_get, wr_get]
 by_cases hi : i < l.length
 ·rw [if_pos hi, List.getElem?_eq_getElem hi, Option.map_some]
  have hd : l.getD i .undef = l[i] := by rw [List.getD_eq_getElem?_getD, List.getElem?_eq_getElem hi]; rfl
  rw [hd, Nat.zero_add]
  congr 1
  cases hc : cs[i]? with
  | none => exact (keysW_none hk (.inr hc) _).symm
  | some c =>
   rcases c with _ | _ | c
   ·exact (keysW_none hk (.inl hc) _).symm
   ·have := List.all_eq_true.1 h1 1 (List.mem_of_getElem? hc)
    simp at this
   ·rfl
 ·rw [if_neg hi, List.getElem?_eq_none (show l.length ≤ i by omega)]; rfl

def gT (j : Nat) : List (Nat × Nat) → Option Nat
 | [] => none
 | p :: r => if p.1 = j then some p.2 else gT j r
def gOk (all : Array Oper) (gl : List (Nat × Nat)) : Bool := gl.all fun p => (match (all[p.1]?).bind (·.dst) with | some d => decide (d = p.2) | none => false)
def gRead (want : Bool) : Option V → Option Bool
 | some (.sc (.bool b)) => some (b == want)
 | some (.sc _) => some false
 | some _ => none
 | none => some false
def wantedW (gl : List (Nat × Nat)) (all : Array Oper) (fr : List V) (o : Oper) : Option Bool :=
 match o.guard with
 | none => some true
 | some (j, want) => match gT j gl with
  | none => wantedV all fr o
  | some d => gRead want fr[d]?
theorem gT_ok {all : Array Oper} : ∀ {gl : List (Nat × Nat)}, gOk all gl = true → ∀ {j d : Nat}, gT j gl = some d → (all[j]?).bind (·.dst) = some d
 | [], _, j, d, h => by cases h
 | p :: r, hg, j, d, h => by
  have h1 := List.all_eq_true.1 hg p (by simp)
  simp only [gT] at h
  split at h
  ·rename_i e
   cases h
   rw [e] at h1
   cases hd : (all[j]?).bind (·.dst) with
   | none => rw [hd] at h1; cases h1
   | some d => rw [hd] at h1; exact congrArg some (of_decide_eq_true h1)
  ·exact gT_ok (List.all_eq_true.2 fun q hq => List.all_eq_true.1 hg q (by simp [hq])) h
theorem wantedW_eq {all : Array Oper} {gl : List (Nat × Nat)} (hg : gOk all gl = true) (fr : List V) (o : Oper) : wantedW gl all fr o = wantedV all fr o := by
 unfold wantedW
 cases ho : o.guard with
 | none => unfold wantedV; rw [ho]
 | some g =>
  obtain ⟨j, want⟩ := g
  simp only
  cases ht : gT j gl with
  | none => rfl
  | some d =>
   have := gT_ok hg ht
   unfold wantedV
   rw [ho]
   simp only [this]
   unfold gRead
   cases fr[d]? with
   | none => rfl
   | some v =>
    cases v with
    | sc x => cases x <;> rfl
    | _ => rfl
def runOpsW (P : Program) (tt : Table) (gl : List (Nat × Nat)) (all : Array Oper) : List Oper → St → (St → Prop) → Prop
 | [], st, Q => Q st
 | o :: r, st, Q => match wantedW gl all st.fr o with
  | some true => stepOp P tt st.mem.length o st fun st' => runOpsW P tt gl all r st' Q
  | some false => runOpsW P tt gl all r (st.put o.dst (.sc undef)) Q
  | none => False
theorem runOpsW_eq {P : Program} {tt : Table} {gl : List (Nat × Nat)} {all : Array Oper} (hg : gOk all gl = true) {Q : St → Prop} : ∀ (l : List Oper) (st : St), runOpsW P tt gl all l st Q = runOps P tt all l st Q
 | [], st => rfl
 | o :: r, st => by
  have ih := fun s => runOpsW_eq (P := P) (tt := tt) (Q := Q) hg r s
  simp only [runOpsW,runOps,wantedW_eq hg,ih]
  rfl
section
variable {P : Program} {tt : Table} {ρ : Option Nat} {n0 : Nat} {Q : Exit → St → Prop} {l : List V} {mem : List Blk}
theorem tri_mkW {c : Code} {cs : List Nat} {ws : List (Nat × V)} (hk : keysW cs ws = true) (h : Tri P ρ n0 c { fr := mkW ws 0 cs l, mem := mem } Q) : Tri P ρ n0 c { fr := wr l.length l ws, mem := mem } Q :=
 tri_weak (st' := { fr := mkW ws 0 cs l, mem := mem }) (fun E w a hs => ⟨hs.F, hs.lt, hs.mem, hs.top, hs.ver, hs.apart, mkW_rep hk hs.fr⟩) h
theorem tri_seq_region_w (ht : TT P tt) (n : Nat) (cs : List Nat) (gl : List (Nat × Nat)) (hn : l.length = n) {id : Nat} {ops : Array Oper} {y : Code} (hg : gOk ops gl = true)
  (h : ∀ K : St → Prop, (∀ ws mem', keysW cs ws = true → Tri P ρ n0 y { fr := mkW ws 0 cs l, mem := mem' } Q → K { fr := wr n l ws, mem := mem' }) → runOpsW P tt gl ops ops.toList { fr := wr n l [], mem := mem } K) :
  Tri P ρ n0 (.seq (.region id ops false) y) { fr := l, mem := mem } Q := by
 subst hn
 refine tri_seq_region ht fun K hK => ?_
 have := h K fun ws mem' hk ht => hK _ (tri_mkW hk ht)
 rw [runOpsW_eq hg, wr_nil rfl] at this
 exact this
theorem tri_last_region_w (ht : TT P tt) (n : Nat) (cs : List Nat) (gl : List (Nat × Nat)) (hn : l.length = n) (h1 : cs.all (· != 1) = true) {id : Nat} {ops : Array Oper} (hg : gOk ops gl = true)
  (h : ∀ K : St → Prop, (∀ ws mem', keysW cs ws = true → Q .normal { fr := mkW ws 0 cs l, mem := mem' } → K { fr := wr n l ws, mem := mem' }) → runOpsW P tt gl ops ops.toList { fr := wr n l [], mem := mem } K) :
  Tri P ρ n0 (.region id ops false) { fr := l, mem := mem } Q := by
 subst hn
 refine tri_last_region ht fun K hK => ?_
 have := h K fun ws mem' hk ht => hK _ (by rw [← mkW_eq hk h1]; exact ht)
 rw [runOpsW_eq hg, wr_nil rfl] at this
 exact this
theorem tri_seq_mixed_w (ht : TT P tt) (hm : P.follows .mixedOrders = true) (n : Nat) (cs : List Nat) (hn : l.length = n) (plan : List Pl) (m : Nat) {id : Nat} {ops : Array Oper} {y : Code} (hok : mixOk ops plan = true)
  (h : ∀ K : St → Prop, (∀ ws mem', keysW cs ws = true → Tri P ρ n0 y { fr := mkW ws 0 cs l, mem := mem' } Q → K { fr := wr n l ws, mem := mem' }) → runM P tt ops mem.length ops.toList plan { fr := wr n l [], mem := mem ++ List.replicate m .hole } K) :
  Tri P ρ n0 (.seq (.region id ops true) y) { fr := l, mem := mem } Q := by
 subst hn
 refine tri_seq_mixed ht hm plan m hok fun K hK => ?_
 have := h K fun ws mem' hk ht => hK _ (tri_mkW hk ht)
 rw [wr_nil rfl] at this
 exact this
theorem tri_last_mixed_w (ht : TT P tt) (hm : P.follows .mixedOrders = true) (n : Nat) (cs : List Nat) (hn : l.length = n) (h1 : cs.all (· != 1) = true) (plan : List Pl) (m : Nat) {id : Nat} {ops : Array Oper} (hok : mixOk ops plan = true)
  (h : ∀ K : St → Prop, (∀ ws mem', keysW cs ws = true → Q .normal { fr := mkW ws 0 cs l, mem := mem' } → K { fr := wr n l ws, mem := mem' }) → runM P tt ops mem.length ops.toList plan { fr := wr n l [], mem := mem ++ List.replicate m .hole } K) :
  Tri P ρ n0 (.region id ops true) { fr := l, mem := mem } Q := by
 subst hn
 refine tri_last_mixed ht hm plan m hok fun K hK => ?_
 have := h K fun ws mem' hk ht => hK _ (by rw [← mkW_eq hk h1]; exact ht)
 rw [wr_nil rfl] at this
 exact this
end
attribute [irreducible] runOpsW
end Go.Eng
end

section
namespace Go.Eng
variable [Glob]
def Ex (P : Program) (ρ : Option Nat) (n0 : Nat) (c : Code) (st : St) (Q : Exit → St → Prop) : Prop :=
  ∃ (e : Exit) (s : St), Q e s ∧ ∀ Q' : Exit → St → Prop, Q' e s → Tri P ρ n0 c st Q'
section
variable {P : Program} {tt : Table} {ρ : Option Nat} {n0 : Nat} {st : St} {Q : Exit → St → Prop}
theorem Ex.mono {c : Code} {Q2 : Exit → St → Prop} (h : Ex P ρ n0 c st Q) (hq : ∀ e s, Q e s → Q2 e s) : Ex P ρ n0 c st Q2 := by
  obtain ⟨e, s, h1, h⟩ := h
  exact ⟨e, s, hq _ _ h1, h⟩
theorem ex_skip (h : Q .normal st) : Ex P ρ n0 .skip st Q := ⟨_, _, h, fun _ h => tri_skip h⟩
theorem ex_ret (h : Q .ret st) : Ex P ρ n0 .ret st Q := ⟨_, _, h, fun _ h => tri_ret h⟩
theorem ex_exit {id : Nat} (h : Q (.exit id) st) : Ex P ρ n0 (.exit id) st Q := ⟨_, _, h, fun _ h => tri_exit h⟩
theorem ex_seq {x y : Code} (h : Ex P ρ n0 x st (thenQ (fun st' => Ex P ρ n0 y st' Q) Q)) : Ex P ρ n0 (.seq x y) st Q := by
  obtain ⟨e, s, hq, h⟩ := h
  cases e with
  | normal =>
    obtain ⟨e2, s2, hq2, h2⟩ := hq
    exact ⟨e2, s2, hq2, fun Q' h' => tri_seq (h _ (h2 Q' h'))⟩
  | _ => exact ⟨_, s, hq, fun Q' h' => tri_seq (h (thenQ (fun st' => Tri P ρ n0 y st' Q') Q') h')⟩
theorem ex_cond {c : Operand} {x y : Code} {b : Bool} (hc : st.eval c = .sc (.bool b)) (h : Ex P ρ n0 (if b = true then x else y) st Q) : Ex P ρ n0 (.cond c x y) st Q := by
  obtain ⟨e, s, hq, h⟩ := h
  exact ⟨e, s, hq, fun Q' h' => tri_cond hc (h Q' h')⟩
theorem ex_if {c : Operand} {x y : Code} {b : Bool} (hc : st.eval c = .sc (.bool b)) (h1 : b = true → Ex P ρ n0 x st Q) (h2 : b = false → Ex P ρ n0 y st Q) : Ex P ρ n0 (.cond c x y) st Q := by
  refine ex_cond hc ?_
  cases b with
  | true => exact h1 rfl
  | false => exact h2 rfl
theorem ex_block {id : Nat} {c : Code} (h : Ex P ρ n0 c st (blockQ id Q)) : Ex P ρ n0 (.block id c) st Q := by
  obtain ⟨e, s, hq, h⟩ := h
  cases e with
  | exit j =>
    by_cases hj : j = id
    · simp only [blockQ,if_pos hj] at hq
      exact ⟨_, s, hq, fun Q' h' => tri_block (h (blockQ id Q') (by simpa only [blockQ, if_pos hj] using h'))⟩
    · simp only [blockQ,if_neg hj] at hq
      exact ⟨_, s, hq, fun Q' h' => tri_block (h (blockQ id Q') (by simpa only [blockQ, if_neg hj] using h'))⟩
  | _ => exact ⟨_, s, hq, fun Q' h' => tri_block (h (blockQ id Q') h')⟩
theorem loopN_mask {c : Code} {m : Nat} {Q' : Exit → St → Prop} (n : Nat) (mk : List Bool) (hn : n0 ≤ n) (hf : (maskFr mk st.fr).all (belowV n) = true) (hm : (st.mem.take n).all (belowB n) = true)
    (h : LoopN P ρ n0 c m { fr := maskFr mk st.fr, mem := st.mem.take n } Q') : LoopN P ρ n0 c m st Q' := by
  cases m with
  | zero => exact h.elim
  | succ m => exact tri_mask n mk hn hf hm h
theorem ex_loop_inv {c : Code} (I : Nat → St → Prop) (N : Nat) (h0 : Trims n0 st (I N))
    (step : ∀ n st, I n st → Ex P ρ n0 c st (thenQ (fun st' => ∃ k, k < n ∧ Trims n0 st' (I k)) Q)) : Ex P ρ n0 (.loop c) st Q := by
  have key : ∀ (n : Nat) (st : St), I n st → ∃ (e : Exit) (s : St), Q e s ∧ ∀ Q' : Exit → St → Prop, Q' e s → ∃ m, LoopN P ρ n0 c m st Q' := by
    intro n
    induction n using Nat.strongRecOn with
    | _ n ih =>
      intro st hI
      obtain ⟨e, s, hq, h⟩ := step n st hI
      cases e with
      | normal =>
        obtain ⟨k, hk, n1, mk, h1, h2, h3, h4⟩ := hq
        obtain ⟨e2, s2, hq2, h5⟩ := ih k hk _ h4
        refine ⟨e2, s2, hq2, fun Q' h' => ?_⟩
        obtain ⟨m, h6⟩ := h5 Q' h'
        exact ⟨m + 1, h _ (loopN_mask n1 mk h1 h2 h3 h6)⟩
      | _ => exact ⟨_, s, hq, fun Q' h' => ⟨1, h (thenQ (fun st' => LoopN P ρ n0 c 0 st' Q') Q') h'⟩⟩
  obtain ⟨n1, mk, h1, h2, h3, h4⟩ := h0
  obtain ⟨e, s, hq, h⟩ := key N _ h4
  exact ⟨e, s, hq, fun Q' h' => tri_mask n1 mk h1 h2 h3 (tri_loop_of (h Q' h'))⟩
theorem ex_mask {c : Code} (n : Nat) (m : List Bool) (hn : n0 ≤ n) (hf : (maskFr m st.fr).all (belowV n) = true) (hm : (st.mem.take n).all (belowB n) = true)
    (h : Ex P ρ n0 c { fr := maskFr m st.fr, mem := st.mem.take n } Q) : Ex P ρ n0 c st Q := by
  obtain ⟨e, s, hq, h⟩ := h
  exact ⟨e, s, hq, fun Q' h' => tri_mask n m hn hf hm (h Q' h')⟩

def callF (P : Program) (f : FuncId) (vs vs' : List V) (keys : List (Nat × Nat)) (st : St) (dst : Option Tmp) (Q : St → Prop) : Prop :=
  ∃ v, (FnOk P f vs' v ∧ Q ({ st with mem := memAfter st.mem keys v }.put dst v)) ∨ (NatOk P f vs v ∧ Q (st.put dst v)) ∨ ∃ m', FnOkS P f vs st.mem v m' ∧ Q ({ st with mem := m' }.put dst v)
def callS (P : Program) (f : FuncId) (vs : List V) (st : St) (dst : Option Tmp) (Q : St → Prop) : Prop :=
  ∃ v m', FnOkS P f vs st.mem v m' ∧ Q ({ st with mem := m' }.put dst v)
@[congr] theorem callS_congr {P : Program} {f f' : FuncId} {vs vs' : List V} {st st' : St} {dst : Option Tmp} {Q : St → Prop} (hf : f = f') (hv : vs = vs') (h : st = st') : callS P f vs st dst Q = callS P f' vs' st' dst Q := by rw [hf, hv, h]
def callT (P : Program) (f : FuncId) (vs : List V) (st : St) (dst : Option Tmp) (Q : St → Prop) : Prop :=
  match purL st.mem vs with
  | some vs' => callF P f vs vs' (vs.flatMap ref1) st dst Q
  | none => callS P f vs st dst Q
@[congr] theorem callF_congr {f f' : FuncId} {us us' vs vs' : List V} {keys keys' : List (Nat × Nat)} {st st' : St} {dst : Option Tmp} {Q : St → Prop} (hf : f = f') (hu : us = us') (hv : vs = vs') (hk : keys = keys') (h : st = st') : callF P f us vs keys st dst Q = callF P f' us' vs' keys' st' dst Q := by rw [hf, hu, hv, hk, h]
def stepD (P : Program) (tt : Table) (key : Nat) (o : Oper) (st : St) (Q : St → Prop) : Prop :=
  match o.op with
  | .alloc T => match tt T with
    | some i => Q ({ st with mem := setMem st.mem key (.box (i.zero.map V.sc)) }.put o.dst (.ptr key 0))
    | none => False
  | .box _ x => match cellsV (st.eval x) with
    | some cs => Q ({ st with mem := setMem st.mem key (.box cs) }.put o.dst (.ptr key 0))
    | none => False
  | .build T parts => match buildV P tt T parts.toList st.eval with
    | some v => Q (st.put o.dst v)
    | none => False
  | .buildSlice T len parts => match litV tt T len parts.toList st.eval with
    | some (size, rs) => Q ({ st with mem := setMem st.mem key (.rows 0 size rs) }.put o.dst (.ms key 0 0 len))
    | none => False
  | .store T p x => match storeV tt st.mem T (st.eval p) (st.eval x) with
    | some mem' => Q ({ st with mem := mem' }.put o.dst (.sc undef))
    | none => False
  | .call c => match c.callee with
    | .value f => match calleeOf (st.eval f) (c.args.toList.map st.eval) with
      | some (g, vs) => callT P g vs st o.dst Q
      | none => False
    | .builtin .append => match c.args.toList.map st.eval with
      | [s, x] => match appendV tt st.mem c.argTypes.toList s x with
        | some (size, old, rows) => Q ({ st with mem := (appOut st.mem key size rows old).1 }.put o.dst (appOut st.mem key size rows old).2)
        | none => False
      | _ => False
    | .builtin .len => match opV P tt st o with
      | some v => Q (st.put o.dst v)
      | none => False
    | .builtin .max => match opV P tt st o with
      | some v => Q (st.put o.dst v)
      | none => False
    | .builtin .min => match opV P tt st o with
      | some v => Q (st.put o.dst v)
      | none => False
    | _ => False
  | .makeMap _ none => Q ({ st with mem := setMem st.mem key (.map [] 0) }.put o.dst (.mp key))
  | .makeSlice T l c => match makeV tt T (st.eval l) (st.eval c) with
    | some (size, rs, _) => Q ({ st with mem := setMem st.mem key (.rows 0 size rs) }.put o.dst (.ms key 0 0 rs.length))
    | none => False
  | .mapUpdate T m k x => match insertV P st.mem T (st.eval m) (st.eval k) (st.eval x) with
    | some mem' => Q ({ st with mem := mem' }.put o.dst (.sc undef))
    | none => False
  | .insert T m k x => match insertV P st.mem T (st.eval m) (st.eval k) (st.eval x) with
    | some mem' => Q ({ st with mem := mem' }.put o.dst (.sc undef))
    | none => False
  | .binOp op T x y _ => match nilLen tt op T (st.eval x) (st.eval y) with
    | some _ => False
    | none => match opV P tt st o with
      | some v => Q (st.put o.dst v)
      | none => False
  | .move _ => match opV P tt st o with
    | some v => Q (st.put o.dst v)
    | none => False
  | .assign _ => match opV P tt st o with
    | some v => Q (st.put o.dst v)
    | none => False
  | .pick _ _ _ => match opV P tt st o with
    | some v => Q (st.put o.dst v)
    | none => False
  | .load _ _ => match opV P tt st o with
    | some v => Q (st.put o.dst v)
    | none => False
  | .nilCheck _ => match opV P tt st o with
    | some v => Q (st.put o.dst v)
    | none => False
  | .unOp _ _ _ => match opV P tt st o with
    | some v => Q (st.put o.dst v)
    | none => False
  | .convert _ _ _ => match opV P tt st o with
    | some v => Q (st.put o.dst v)
    | none => False
  | .makeFunc _ _ _ => match opV P tt st o with
    | some v => Q (st.put o.dst v)
    | none => False
  | .slice _ _ _ _ _ => match opV P tt st o with
    | some v => Q (st.put o.dst v)
    | none => False
  | .fieldAddr _ _ _ => match opV P tt st o with
    | some v => Q (st.put o.dst v)
    | none => False
  | .indexAddr _ _ _ => match opV P tt st o with
    | some v => Q (st.put o.dst v)
    | none => False
  | .field _ _ _ => match opV P tt st o with
    | some v => Q (st.put o.dst v)
    | none => False
  | .index _ _ _ => match opV P tt st o with
    | some v => Q (st.put o.dst v)
    | none => False
  | .extract _ _ => match opV P tt st o with
    | some v => Q (st.put o.dst v)
    | none => False
  | .lookup _ _ _ _ => match opV P tt st o with
    | some v => Q (st.put o.dst v)
    | none => False
  | _ => False
@[congr] theorem stepD_congr {key key' : Nat} {o : Oper} {st st' : St} {Q : St → Prop} (hk : key = key') (h : st = st') : stepD P tt key o st Q = stepD P tt key' o st' Q := by rw [hk, h]
theorem stepD_op {key : Nat} {o : Oper} {Q : St → Prop} (h : stepD P tt key o st Q) : ∃ s, Q s ∧ ∀ K : St → Prop, K s → stepOp P tt key o st K := by
  obtain ⟨dst, op, type, pos, after, guard⟩ := o
  cases op
  case call c =>
    obtain ⟨callee, args, ats⟩ := c
    cases callee
    case value f =>
      simp only [stepD] at h
      split at h
      · rename_i g vs hg
        unfold callT at h
        split at h
        · rename_i vs' hp
          obtain ⟨v, ⟨h1, h2⟩ | ⟨h1, h2⟩ | ⟨m', h1, h2⟩⟩ := h
          · refine ⟨_, h2, fun K hK => ?_⟩
            simp only [stepOp]
            split
            · rename_i k hy; rw [hy] at hg; simp [calleeOf] at hg
            · rw [hg]; exact .inl ⟨vs', v, hp, h1, hK⟩
          · refine ⟨_, h2, fun K hK => ?_⟩
            simp only [stepOp]
            split
            · rename_i k hy; rw [hy] at hg; simp [calleeOf] at hg
            · rw [hg]; exact .inr (.inr (.inr ⟨v, h1, hK⟩))
          · refine ⟨_, h2, fun K hK => ?_⟩
            simp only [stepOp]
            split
            · rename_i k hy; rw [hy] at hg; simp [calleeOf] at hg
            · rw [hg]; exact .inr (.inl ⟨v, m', h1, hK⟩)
        · obtain ⟨v, m', h1, h2⟩ := h
          refine ⟨_, h2, fun K hK => ?_⟩
          simp only [stepOp]
          split
          · rename_i k hy; rw [hy] at hg; simp [calleeOf] at hg
          · rw [hg]; exact .inr (.inl ⟨v, m', h1, hK⟩)
      · exact h.elim
    case builtin b =>
      cases b
      case append =>
        simp only [stepD] at h
        split at h
        · rename_i s x hsx
          split at h
          · rename_i size old rows ha
            refine ⟨_, h, fun K hK => ?_⟩
            simp only [stepOp,hsx,ha]
            exact hK
          · exact h.elim
        · exact h.elim
      all_goals first
        | exact h.elim
        | (simp only [stepD] at h
           split at h
           · rename_i v hv
             refine ⟨_, h, fun K hK => ?_⟩
             simp only [stepOp,hv]
             exact hK
           · exact h.elim)
    all_goals exact h.elim
  case binOp =>
    simp only [stepD] at h
    split at h
    · exact h.elim
    · rename_i hn
      split at h
      · rename_i v hv
        refine ⟨_, h, fun K hK => ?_⟩
        simp only [stepOp,hn,hv]
        exact hK
      · exact h.elim
  case buildSlice =>
    simp only [stepD] at h
    split at h
    · rename_i size rs hl
      refine ⟨_, h, fun K hK => ?_⟩
      simp only [stepOp,hl]
      exact hK
    · exact h.elim
  case store =>
    simp only [stepD] at h
    split at h
    · rename_i m hl
      refine ⟨_, h, fun K hK => ?_⟩
      simp only [stepOp,hl]
      exact hK
    · exact h.elim
  case makeSlice T l c =>
    simp only [stepD] at h
    split at h
    · rename_i size rs c' hl
      refine ⟨_, h, fun K hK => ?_⟩
      simp only [stepOp,hl]
      exact hK
    · exact h.elim
  case makeMap T l =>
    cases l with
    | none => exact ⟨_, h, fun K hK => hK⟩
    | some l => exact h.elim
  all_goals first
    | exact h.elim
    | (simp only [stepD] at h
       split at h
       · rename_i v hv
         refine ⟨_, h, fun K hK => ?_⟩
         simp only [stepOp,hv]
         exact hK
       · exact h.elim)
def runX (P : Program) (tt : Table) (gl : List (Nat × Nat)) (all : Array Oper) : List Oper → St → (St → Prop) → Prop
  | [], st, Q => Q st
  | o :: r, st, Q => match wantedW gl all st.fr o with
    | some true => stepD P tt st.mem.length o st fun st' => runX P tt gl all r st' Q
    | some false => runX P tt gl all r (st.put o.dst (.sc undef)) Q
    | none => False
@[congr] theorem runX_congr {gl : List (Nat × Nat)} {all : Array Oper} {l l' : List Oper} {st st' : St} {Q : St → Prop} (hl : l = l') (h : st = st') : runX P tt gl all l st Q = runX P tt gl all l' st' Q := by rw [hl, h]
theorem runX_op {gl : List (Nat × Nat)} {all : Array Oper} {Q : St → Prop} : ∀ (l : List Oper) (st : St), runX P tt gl all l st Q → ∃ s, Q s ∧ ∀ K : St → Prop, K s → runOpsW P tt gl all l st K
  | [], st, h => ⟨st, h, fun K hK => by rw [runOpsW]; exact hK⟩
  | o :: r, st, h => by
    rw [runX] at h
    split at h
    · rename_i hw
      obtain ⟨s, h1, h2⟩ := stepD_op h
      obtain ⟨s2, h3, h4⟩ := runX_op r s h1
      exact ⟨s2, h3, fun K hK => by rw [runOpsW, hw]; exact h2 _ (h4 K hK)⟩
    · rename_i hw
      obtain ⟨s2, h3, h4⟩ := runX_op r _ h
      exact ⟨s2, h3, fun K hK => by rw [runOpsW, hw]; exact h4 K hK⟩
    · exact h.elim
theorem runX_split {gl : List (Nat × Nat)} {all : Array Oper} {K : St → Prop} : ∀ (k : Nat) (l : List Oper) (st : St), runX P tt gl all (l.take k) st (fun s => runX P tt gl all (l.drop k) s K) = runX P tt gl all l st K
  | 0, l, st => rfl
  | k + 1, [], st => rfl
  | k + 1, o :: r, st => by
    have ih := fun s => runX_split (gl := gl) (all := all) (K := K) k r s
    simp only [List.take_succ_cons,List.drop_succ_cons,runX,ih]
theorem runX_cut {gl : List (Nat × Nat)} {all : Array Oper} (k : Nat) {l : List Oper} {st : St} {K : St → Prop}
    (h : ∀ K1 : St → Prop, (∀ s, runX P tt gl all (l.drop k) s K → K1 s) → runX P tt gl all (l.take k) st K1) : runX P tt gl all l st K := by
  rw [← runX_split k]
  exact h _ fun _ h => h
theorem callF_ex {R : V → Prop} {f : FuncId} {vs vs' : List V} {keys : List (Nat × Nat)} {dst : Option Tmp} {Q : St → Prop} (hr : ∃ v, R v ∧ FnOk P f vs' v) (h : ∀ v, R v → Q ({ st with mem := memAfter st.mem keys v }.put dst v)) : callF P f vs vs' keys st dst Q := by
  obtain ⟨v, h1, h2⟩ := hr
  exact ⟨v, .inl ⟨h2, h v h1⟩⟩
theorem callF_w {R : V → List Blk → Prop} {f : FuncId} {vs vs' : List V} {keys : List (Nat × Nat)} {dst : Option Tmp} {Q : St → Prop} (hr : ∃ v m', R v m' ∧ FnOkS P f vs st.mem v m') (h : ∀ v m', R v m' → Q ({ st with mem := m' }.put dst v)) : callF P f vs vs' keys st dst Q := by
  obtain ⟨v, m', h1, h2⟩ := hr
  exact ⟨v, .inr (.inr ⟨m', h2, h v m' h1⟩)⟩
theorem callS_w {R : V → List Blk → Prop} {f : FuncId} {vs : List V} {dst : Option Tmp} {Q : St → Prop} (hr : ∃ v m', R v m' ∧ FnOkS P f vs st.mem v m') (h : ∀ v m', R v m' → Q ({ st with mem := m' }.put dst v)) : callS P f vs st dst Q := by
  obtain ⟨v, m', h1, h2⟩ := hr
  exact ⟨v, m', h2, h v m' h1⟩
theorem callS_ex {R : V → Prop} {f : FuncId} {vs : List V} {dst : Option Tmp} {Q : St → Prop} (hr : ∃ v, R v ∧ FnOkS P f vs st.mem v st.mem) (h : ∀ v, R v → Q (st.put dst v)) : callS P f vs st dst Q := by
  obtain ⟨v, h1, h2⟩ := hr
  exact ⟨v, _, h2, h v h1⟩
theorem lkF_same {t : Nat} {b v : V} {ws : List (Nat × V)} (h : lkF t b ws = v) (i : Nat) (c : V) (hc : i = t → c = b) : lkF i c ((t, v) :: ws) = lkF i c ws := by
  simp only [lkF]
  by_cases e : t = i
  · subst e; rw [if_pos rfl, hc rfl, h]
  · rw [if_neg e]
theorem runX_case {gl : List (Nat × Nat)} {all : Array Oper} (t : Nat) {b0 : Bool} {n : Nat} {base : List V} {ws : List (Nat × V)} {mem : List Blk} {l : List Oper} {Kp : St → Prop}
    (hb : lkF t (base.getD t .undef) ws = .sc (.bool b0)) (h : ∀ b, b0 = b → runX P tt gl all l { fr := wr n base ((t, .sc (.bool b)) :: ws), mem := mem } Kp) : runX P tt gl all l { fr := wr n base ws, mem := mem } Kp := by
  have := h b0 rfl
  have e : wr n base ((t, .sc (.bool b0)) :: ws) = wr n base ws := by
    unfold wr
    exact List.map_congr_left fun i _ => lkF_same hb i _ (fun e => by rw [e])
  rw [e] at this
  exact this
theorem ex_region_w (ht : TT P tt) (n : Nat) (cs : List Nat) (gl : List (Nat × Nat)) {l : List V} {mem : List Blk} (hn : l.length = n) {id : Nat} {ops : Array Oper} {y : Code} (hg : gOk ops gl = true)
    (h : ∀ K : St → Prop, (∀ ws mem', keysW cs ws = true → Ex P ρ n0 y { fr := mkW ws 0 cs l, mem := mem' } Q → K { fr := wr n l ws, mem := mem' }) → runX P tt gl ops ops.toList { fr := wr n l [], mem := mem } K) :
    Ex P ρ n0 (.seq (.region id ops false) y) { fr := l, mem := mem } Q := by
  obtain ⟨s, ⟨ws, mem', rfl, hk, e, s2, hq, h2⟩, hr⟩ := runX_op _ _ (h (fun s => ∃ ws mem', s = { fr := wr n l ws, mem := mem' } ∧ keysW cs ws = true ∧ Ex P ρ n0 y { fr := mkW ws 0 cs l, mem := mem' } Q) fun ws mem' hk he => ⟨ws, mem', rfl, hk, he⟩)
  exact ⟨e, s2, hq, fun Q' h' => tri_seq_region_w ht n cs gl hn hg fun K hK => hr K (hK ws mem' hk (h2 Q' h'))⟩
theorem ex_last_region_w (ht : TT P tt) (n : Nat) (cs : List Nat) (gl : List (Nat × Nat)) {l : List V} {mem : List Blk} (hn : l.length = n) (h1 : cs.all (· != 1) = true) {id : Nat} {ops : Array Oper} (hg : gOk ops gl = true)
    (h : ∀ K : St → Prop, (∀ ws mem', keysW cs ws = true → Q .normal { fr := mkW ws 0 cs l, mem := mem' } → K { fr := wr n l ws, mem := mem' }) → runX P tt gl ops ops.toList { fr := wr n l [], mem := mem } K) :
    Ex P ρ n0 (.region id ops false) { fr := l, mem := mem } Q := by
  obtain ⟨s, ⟨ws, mem', rfl, hk, hq⟩, hr⟩ := runX_op _ _ (h (fun s => ∃ ws mem', s = { fr := wr n l ws, mem := mem' } ∧ keysW cs ws = true ∧ Q .normal { fr := mkW ws 0 cs l, mem := mem' }) fun ws mem' hk he => ⟨ws, mem', rfl, hk, he⟩)
  exact ⟨.normal, _, hq, fun Q' h' => tri_last_region_w ht n cs gl hn h1 hg fun K hK => hr K (hK ws mem' hk h')⟩
attribute [irreducible] runX
theorem fn_ex {P : Program} {tt : Table} (ht : TT P tt) {R : V → Prop} {f : FuncId} {fn : Func} {body : Code} {args : List V} (hf : P.funcs[f]? = some fn) (hb : fn.body = some body)
    (hcall : ∀ (xs : Array Value) (w : World), (callFunc f xs).run P w = .ok (.enter f xs) w)
    (h : Ex P none 0 body (startSt fn args []) fun ex st' => (ex = .ret ∨ ex = .normal) ∧ ∃ r, R r ∧ retV tt fn.results st' = some r) : ∃ r, R r ∧ FnOk P f args r := by
  obtain ⟨e, s, ⟨h1, r, hr, h2⟩, h3⟩ := h
  exact ⟨r, hr, fn_ok ht hf hb hcall (h3 _ ⟨h1, h2⟩)⟩
theorem fns_ex {P : Program} {tt : Table} (ht : TT P tt) {R : V → Prop} {f : FuncId} {fn : Func} {body : Code} {args : List V} {mem : List Blk} (hf : P.funcs[f]? = some fn) (hb : fn.body = some body)
    (hcall : ∀ (xs : Array Value) (w : World), (callFunc f xs).run P w = .ok (.enter f xs) w) (hm : mem.all (belowB mem.length) = true)
    (h : Ex P none mem.length body (startSt fn args mem) fun ex st' => (ex = .ret ∨ ex = .normal) ∧ ∃ r, R r ∧ resOne tt fn.results st' = some r ∧ belowV mem.length r = true ∧ st'.mem.take mem.length = mem) : ∃ r, R r ∧ FnOkS P f args mem r mem := by
  obtain ⟨e, s, ⟨h1, r, hr, h2, h3, h4⟩, h5⟩ := h
  exact ⟨r, hr, fns_ok ht mem.length (Nat.le_refl _) hf hb hcall (h5 _ ⟨h1, h2, h3, by rw [h4]; exact hm, h4.symm⟩)⟩
theorem fnw_ex {P : Program} {tt : Table} (ht : TT P tt) {R : V → List Blk → Prop} {f : FuncId} {fn : Func} {body : Code} {args : List V} {mem : List Blk} (n : Nat) (hn : mem.length ≤ n) (hf : P.funcs[f]? = some fn) (hb : fn.body = some body)
    (hcall : ∀ (xs : Array Value) (w : World), (callFunc f xs).run P w = .ok (.enter f xs) w)
    (h : Ex P none mem.length body (startSt fn args mem) fun ex st' => (ex = .ret ∨ ex = .normal) ∧ ∃ r, R r (st'.mem.take n) ∧ resOne tt fn.results st' = some r ∧ belowV n r = true ∧ (st'.mem.take n).all (belowB n) = true) : ∃ r m', R r m' ∧ FnOkS P f args mem r m' := by
  obtain ⟨e, s, ⟨h1, r, hr, h2, h3, h4⟩, h5⟩ := h
  exact ⟨r, _, hr, fns_ok ht n hn hf hb hcall (h5 _ ⟨h1, h2, h3, h4, rfl⟩)⟩
def putAll : List V → List Nat → List V → List V
  | l, t :: ts, v :: vs => putAll (l.set t v) ts vs
  | l, _, _ => l
def intOf : V → Int
  | .sc (.int _ n) => n
  | _ => 0
theorem ex_loopK {P : Program} {ρ : Option Nat} {n0 : Nat} {Q : Exit → St → Prop} {c : Code} {l : List V} {mem : List Blk} (ts : List Nat) (vs0 : List V) (n : Nat) (m : List Bool) (μ : List V → Nat) (Inv : List V → Prop)
    (hn : n0 ≤ n) (hf : (maskFr m l).all (belowV n) = true) (hm : (mem.take n).all (belowB n) = true)
    (h0 : putAll (maskFr m l) ts vs0 = maskFr m l) (hi : Inv vs0)
    (step : ∀ vs, Inv vs → Ex P ρ n0 c { fr := putAll (maskFr m l) ts vs, mem := mem.take n }
      (thenQ (fun st' => ∃ vs', Inv vs' ∧ μ vs' < μ vs ∧ Trims n0 st' (fun s => s = { fr := putAll (maskFr m l) ts vs', mem := mem.take n })) Q)) : Ex P ρ n0 (.loop c) { fr := l, mem := mem } Q := by
  refine ex_loop_inv (fun k s => ∃ vs : List V, Inv vs ∧ k = μ vs ∧ s = { fr := putAll (maskFr m l) ts vs, mem := mem.take n }) (μ vs0) ⟨n, m, hn, hf, hm, vs0, hi, rfl, by rw [h0]⟩ ?_
  rintro k s ⟨vs, hv, rfl, rfl⟩
  refine (step vs hv).mono fun e s' h => ?_
  cases e with
  | normal =>
    obtain ⟨vs', h4, h5, n1, m1, h6, h7, h8, h9⟩ := h
    exact ⟨μ vs', h5, n1, m1, h6, h7, h8, vs', h4, rfl, h9⟩
  | _ => exact h
theorem ev_shr (P : Program) (T : TypeId) (x y : Operand) (k k' : IntKind) (a b : Int) (hb : ¬ b < 0) : lift2 P (opB .shr T x y) (.sc (.int k a)) (.sc (.int k' b)) = some (.sc (.int k (a.fdiv (2 ^ min b.toNat k.bits)))) := by
  simp [lift2, toVal, opB, binOp, Op.shift, eqGuard, scRunP, absV, bind, pure, Sem.bind, hb]
def andI (k : IntKind) (a b : Int) : Int := k.wrap (BitVec.ofInt k.bits a &&& BitVec.ofInt k.bits b).toNat
theorem ev_and (P : Program) (T : TypeId) (x y : Operand) (k : IntKind) (a b : Int) : lift2 P (opB .and T x y) (.sc (.int k a)) (.sc (.int k b)) = some (.sc (.int k (andI k a b))) := by
  simp [lift2, toVal, opB, binOp, eqGuard, scRunP, bind, pure, Sem.bind, Op.intBits, absV, andI]
end
end Go.Eng
end

section
namespace Go.Eng
variable [Glob]
section
variable {P : Program} {tt : Table} {ρ : Option Nat} {n0 : Nat} {Q : Exit → St → Prop}
theorem callZ_one {o : Oper} {st : St} {Q : St → Prop} (h : callZ P o st Q) : ∃ s, Q s ∧ ∀ K : St → Prop, K s → callZ P o st K := by
 unfold callZ at h
 split at h
 ·rename_i f xs heq
  split at h
  ·rename_i g vs hg
   obtain ⟨vs', r, h1, h2, h3⟩ := h
   refine ⟨_, h3, fun K hK => ?_⟩
   unfold callZ
   rw [heq]
   dsimp only
   rw [hg]
   exact ⟨vs', r, h1, h2, hK⟩
  ·exact h.elim
 ·exact h.elim
theorem runM_op {all : Array Oper} {base : Nat} {Q : St → Prop} : ∀ (l : List Oper) (ps : List Pl) (st : St), runM P tt all base l ps st Q → ∃ s, Q s ∧ ∀ K : St → Prop, K s → runM P tt all base l ps st K
 | [], ps, st, h => ⟨st, h, fun K hK => hK⟩
 | o :: r, [], st, h => h.elim
 | o :: r, p :: ps, st, h => by
  rw [runM] at h
  by_cases hz : p.cls = .z
  ·unfold stepM at h
   split at h
   ·rename_i hw
    rw [hz] at h
    obtain ⟨s0, h1, h2⟩ := callZ_one h
    obtain ⟨s, h3, h4⟩ := runM_op r ps _ h1
    exact ⟨s, h3, fun K hK => by rw [runM]; unfold stepM; simp only [hw,hz]; exact h2 _ (h4 K hK)⟩
   ·rename_i hw
    obtain ⟨s, h3, h4⟩ := runM_op r ps _ h
    exact ⟨s, h3, fun K hK => by rw [runM]; unfold stepM; simp only [hw]; exact h4 K hK⟩
   ·exact h.elim
  ·obtain ⟨v, m, h1, h2⟩ := (stepM_iff hz).1 h
   obtain ⟨s, h3, h4⟩ := runM_op r ps _ h2
   exact ⟨s, h3, fun K hK => by rw [runM]; exact (stepM_iff hz).2 ⟨v, m, h1, h4 K hK⟩⟩
theorem ex_mixed_w (ht : TT P tt) (hm : P.follows .mixedOrders = true) (n : Nat) (cs : List Nat) {l : List V} {mem : List Blk} (hn : l.length = n) (plan : List Pl) (m : Nat) {id : Nat} {ops : Array Oper} {y : Code} (hok : mixOk ops plan = true)
  (h : ∀ K : St → Prop, (∀ ws mem', keysW cs ws = true → Ex P ρ n0 y { fr := mkW ws 0 cs l, mem := mem' } Q → K { fr := wr n l ws, mem := mem' }) → runM P tt ops mem.length ops.toList plan { fr := wr n l [], mem := mem ++ List.replicate m .hole } K) :
  Ex P ρ n0 (.seq (.region id ops true) y) { fr := l, mem := mem } Q := by
 obtain ⟨s, ⟨ws, mem', rfl, hk, e, s2, hq, h2⟩, hr⟩ := runM_op _ _ _ (h (fun s => ∃ ws mem', s = { fr := wr n l ws, mem := mem' } ∧ keysW cs ws = true ∧ Ex P ρ n0 y { fr := mkW ws 0 cs l, mem := mem' } Q) fun ws mem' hk he => ⟨ws, mem', rfl, hk, he⟩)
 exact ⟨e, s2, hq, fun Q' h' => tri_seq_mixed_w ht hm n cs hn plan m hok fun K hK => hr K (hK ws mem' hk (h2 Q' h'))⟩
theorem ex_last_mixed_w (ht : TT P tt) (hm : P.follows .mixedOrders = true) (n : Nat) (cs : List Nat) {l : List V} {mem : List Blk} (hn : l.length = n) (h1 : cs.all (· != 1) = true) (plan : List Pl) (m : Nat) {id : Nat} {ops : Array Oper} (hok : mixOk ops plan = true)
  (h : ∀ K : St → Prop, (∀ ws mem', keysW cs ws = true → Q .normal { fr := mkW ws 0 cs l, mem := mem' } → K { fr := wr n l ws, mem := mem' }) → runM P tt ops mem.length ops.toList plan { fr := wr n l [], mem := mem ++ List.replicate m .hole } K) :
  Ex P ρ n0 (.region id ops true) { fr := l, mem := mem } Q := by
 obtain ⟨s, ⟨ws, mem', rfl, hk, hq⟩, hr⟩ := runM_op _ _ _ (h (fun s => ∃ ws mem', s = { fr := wr n l ws, mem := mem' } ∧ keysW cs ws = true ∧ Q .normal { fr := mkW ws 0 cs l, mem := mem' }) fun ws mem' hk he => ⟨ws, mem', rfl, hk, he⟩)
 exact ⟨.normal, _, hq, fun Q' h' => tri_last_mixed_w ht hm n cs hn h1 plan m hok fun K hK => hr K (hK ws mem' hk h')⟩
theorem runM_case {all : Array Oper} {base : Nat} (t : Nat) {b0 : Bool} {n : Nat} {bs : List V} {ws : List (Nat × V)} {mem : List Blk} {l : List Oper} {ps : List Pl} {Kp : St → Prop}
  (hb : lkF t (bs.getD t .undef) ws = .sc (.bool b0)) (h : ∀ b, b0 = b → runM P tt all base l ps { fr := wr n bs ((t, .sc (.bool b)) :: ws), mem := mem } Kp) : runM P tt all base l ps { fr := wr n bs ws, mem := mem } Kp := by
 have := h b0 rfl
 have e : wr n bs ((t, .sc (.bool b0)) :: ws) = wr n bs ws := by
  unfold wr
  exact List.map_congr_left fun i _ => lkF_same hb i _ (fun e => by rw [e])
 rw [e] at this
 exact this
theorem callD_ex {R : V → Prop} {f : FuncId} {vs vs' : List V} {st : St} {dst : Option Tmp} {Q : St → Prop} (hp : purL [] vs = some vs') (hr : ∃ v, R v ∧ FnOk P f vs' v) (h : ∀ v, R v → Q (st.put dst v)) : callD P f vs st dst Q := by
 obtain ⟨v, h1, h2⟩ := hr
 exact ⟨vs', v, hp, .inl h2, h v h1⟩
end
theorem callEE_ex {P : Program} {R : V → Blk → Prop} {g : FuncId} {vs : List V} {k : Nat} {st : St} {dst : Option Tmp} {Q : St → Prop} {B0 : Blk} (hv : st.mem[k]? = some B0) (h0 : B0.ver = 0)
  (hr : ∃ v B, R v B ∧ B.ver = 0 ∧ ∀ mem : List Blk, mem[k]? = some B0 → FnOkS P g vs mem v (mem.set k B)) (h : ∀ v B, R v B → Q ({ st with mem := st.mem.set k B }.put dst v)) : callEE P g vs k st dst Q := by
 obtain ⟨v, B, h1, h2, h3⟩ := hr
 exact ⟨v, B0, B, h0, h2, hv, h3, h v B h1⟩
end Go.Eng
end

section
namespace Go.Eng
variable [Glob]
section
variable {P : Program} {tt : Table} {ρ : Option Nat} {n0 : Nat} {Q : Exit → St → Prop}
theorem ex_loopF {α : Type} {c : Code} {l : List V} {mem : List Blk} (F : α → St) (μ : α → Nat) (Inv : α → Prop) (a0 : α) (n : Nat) (m : List Bool)
  (hn : n0 ≤ n) (hf : (maskFr m l).all (belowV n) = true) (hm : (mem.take n).all (belowB n) = true)
  (h0 : { fr := maskFr m l, mem := mem.take n } = F a0) (hi : Inv a0)
  (step : ∀ a, Inv a → Ex P ρ n0 c (F a) (thenQ (fun st' => ∃ a', Inv a' ∧ μ a' < μ a ∧ Trims n0 st' (fun s => s = F a')) Q)) : Ex P ρ n0 (.loop c) { fr := l, mem := mem } Q := by
 refine ex_loop_inv (fun k s => ∃ a, Inv a ∧ k = μ a ∧ s = F a) (μ a0) ⟨n, m, hn, hf, hm, a0, hi, rfl, h0⟩ ?_
 rintro k s ⟨a, hv, rfl, rfl⟩
 refine (step a hv).mono fun e s' h => ?_
 cases e with
 | normal =>
  obtain ⟨a', h4, h5, n1, m1, h6, h7, h8, h9⟩ := h
  exact ⟨μ a', h5, n1, m1, h6, h7, h8, a', h4, rfl, h9⟩
 | _ => exact h
theorem ex_region_k (ht : TT P tt) (n : Nat) (cs : List Nat) (gl : List (Nat × Nat)) {l : List V} {mem : List Blk} (hn : l.length = n) {id : Nat} {ops : Array Oper} {y : Code} (hg : gOk ops gl = true) {ws : List (Nat × V)} {mem' : List Blk}
  (hr : ∀ K : St → Prop, K { fr := wr n l ws, mem := mem' } → runOpsW P tt gl ops ops.toList { fr := wr n l [], mem := mem } K) (hk : keysW cs ws = true) (h : Ex P ρ n0 y { fr := mkW ws 0 cs l, mem := mem' } Q) :
  Ex P ρ n0 (.seq (.region id ops false) y) { fr := l, mem := mem } Q := by
 obtain ⟨e, s2, hq, h2⟩ := h
 exact ⟨e, s2, hq, fun Q' h' => tri_seq_region_w ht n cs gl hn hg fun K hK => hr K (hK ws mem' hk (h2 Q' h'))⟩
theorem ex_seq_joinK {x y : Code} {l : List V} {mem : List Blk} (ts : List Nat) (n : Nat) (m : List Bool) (Inv : List V → Prop)
  (h1 : Ex P ρ n0 x { fr := l, mem := mem } (thenQ (fun s => ∃ vs, Inv vs ∧ Trims n0 s (fun s => s = { fr := putAll (maskFr m l) ts vs, mem := mem.take n })) Q))
  (h2 : ∀ vs, Inv vs → Ex P ρ n0 y { fr := putAll (maskFr m l) ts vs, mem := mem.take n } Q) : Ex P ρ n0 (.seq x y) { fr := l, mem := mem } Q := by
 refine ex_seq (h1.mono fun e s h => ?_)
 cases e with
 | normal =>
  obtain ⟨vs, hv, n1, m1, h3, h4, h5, h6⟩ := h
  exact ex_mask n1 m1 h3 h4 h5 (by rw [h6]; exact h2 vs hv)
 | _ => exact h
end
end Go.Eng
end

section
namespace Go.Eng
variable [Glob]
theorem bB_box (n : Nat) (cs : List V) : belowB n (.box cs) = cs.all (belowV n) := rfl
theorem bB_map (n : Nat) (kvs : List (Value × Nat × V)) (c : Nat) : belowB n (.map kvs c) = kvs.all fun e => belowV n e.2.2 := rfl
theorem bB_rows (n v e : Nat) (rs : List V) : belowB n (.rows v e rs) = true := rfl
theorem bB_frz (n v e : Nat) (rs : List V) : belowB n (.frz v e rs) = true := rfl
theorem bB_dead (n : Nat) : belowB n .dead = true := rfl
theorem bB_hole (n : Nat) : belowB n .hole = true := rfl
theorem baBeq_iff (a b : ByteArray) : (a == b) = true ↔ a = b := by
 show ByteArray.beq a b = true ↔ _
 unfold ByteArray.beq
 constructor
 ·intro h
  have : a.data = b.data := by simpa using h
  exact ByteArray.ext this
 ·rintro rfl; simp
structure KeyT (P : Program) (T kt et : TypeId) (K : Value → Prop) : Prop where
 map : mapDesc P T = some (kt, et)
 desc : ∃ d, P.underlying kt = some d ∧ ∀ a b, K a → K b → ∃ q : Bool, Instr.sameNow d a b = some q ∧ (q = true ↔ a = b)
 ok : ∀ a, K a → keyOk P kt a = true
 bits : ∀ a, K a → Instr.sameBits 10000 a a = true
section
variable {P : Program} {T kt et : TypeId} {K : Value → Prop}
end
end Go.Eng
end

section
namespace Go.Eng
variable [Glob]
end Go.Eng
end
