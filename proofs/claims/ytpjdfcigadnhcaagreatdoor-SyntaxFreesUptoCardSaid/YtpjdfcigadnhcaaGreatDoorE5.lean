/-
  THE ENGINE, W: cuts in regions, and frames that are written lazily: a region's writes are kept as a list, and only what is read behind the region is laid into the frame.
  THE ENGINE, X: outcomes that the data settle: a form of Tri under which cases may be made while the code is walked, and a result need not be named ahead.
  THE ENGINE, Y: regions that draw their order, with outcomes that the data settle.
  THE ENGINE, Z: loops over families of states; regions by the plain run.
  THE ENGINE, MP: maps with keys that are compared at once: what reading and writing come to.
  THE ENGINE, AG: two contracts of one call speak of one result; stores of which one map alone counts.
  THE ENGINE, GS: the facts for carrying code out, in the library's own simp set.
  THE ENGINE, FZ: a slot whose rows nobody will write any more.
  THE ENGINE, AD: a block that a call has made is taken into the store.
  THE ENGINE, CL: the rest of live rows is cleared.
  THE ENGINE, PK: rows that a function hands back, under their own key alone.
-/
import Derived.Test.YtpjdfcigadnhcaaGreatDoorE4
import Derived.Lib.Agree
set_option linter.all false
section
namespace Go.Eng
variable [Glob]

def lkF (t : Nat) (b : V) : List (Nat × V) → V
 | [] => b
 | p :: ws => if p.1 = t then p.2 else lkF t b ws
def wr (n : Nat) (l : List V) (ws : List (Nat × V)) : List V := (List.range n).map fun i => lkF i (l.getD i .undef) ws
theorem wr_get (n : Nat) (l : List V) (ws : List (Nat × V)) (t : Nat) : (wr n l ws)[t]? = if t < n then some (lkF t (l.getD t .undef) ws) else none := by
 unfold wr
 rw [List.getElem?_map]
 by_cases h : t < n
 ·rw [if_pos h, List.getElem?_range h]; rfl
 ·rw [if_neg h, List.getElem?_eq_none (by simp; omega)]; rfl
theorem wr_getD (n : Nat) (l : List V) (ws : List (Nat × V)) (t : Nat) : (wr n l ws).getD t .undef = if t < n then lkF t (l.getD t .undef) ws else .undef := by
 rw [List.getD_eq_getElem?_getD, wr_get]; split <;> rfl
theorem wr_length (n : Nat) (l : List V) (ws : List (Nat × V)) : (wr n l ws).length = n := by simp [wr]
theorem wr_set (n : Nat) (l : List V) (ws : List (Nat × V)) (d : Nat) (v : V) : (wr n l ws).set d v = wr n l ((d, v) :: ws) := by
 apply List.ext_getElem?
 intro i
 rw [List.getElem?_set, wr_get, wr_get, wr_length]
 simp only [lkF]
 by_cases h : d = i
 ·subst h; simp
 ·simp [h]
theorem wr_nil {n : Nat} {l : List V} (h : l.length = n) : wr n l [] = l := by
 apply List.ext_getElem?
 intro i
 rw [wr_get]
 simp only [lkF]
 split
 ·rename_i hi
  rw [List.getD_eq_getElem?_getD, List.getElem?_eq_getElem (by omega)]; rfl
 ·rw [List.getElem?_eq_none (by omega)]
def mkW (ws : List (Nat × V)) : Nat → List Nat → List V → List V
 | _, _, [] => []
 | _, [], v :: l => v :: l
 | i, c :: cs, v :: l => (match c with | 0 => v | 1 => .undef | _ => lkF i v ws) :: mkW ws (i + 1) cs l
def keysW (cs : List Nat) (ws : List (Nat × V)) : Bool := ws.all fun p => match cs[p.1]? with | some 0 => false | none => false | _ => true
theorem lkF_none {t : Nat} {b : V} : ∀ {ws : List (Nat × V)}, (∀ p ∈ ws, p.1 ≠ t) → lkF t b ws = b
 | [], _ => rfl
 | p :: ws, h => by
  simp only [lkF,if_neg (h p (by simp))]
  exact lkF_none fun q hq => h q (by simp [hq])
theorem keysW_none {cs : List Nat} {ws : List (Nat × V)} (h : keysW cs ws = true) {i : Nat} (hi : cs[i]? = some 0 ∨ cs[i]? = none) (b : V) : lkF i b ws = b := by
 refine lkF_none fun p hp e => ?_
 have := List.all_eq_true.1 h p hp
 rw [e] at this
 rcases hi with hi | hi <;> rw [hi] at this <;> cases this
theorem mkW_get (ws : List (Nat × V)) : ∀ (l : List V) (cs : List Nat) (k i : Nat), (mkW ws k cs l)[i]? = l[i]?.map fun v => match cs[i]? with | none => v | some 0 => v | some 1 => .undef | _ => lkF (k + i) v ws
 | [], cs, k, i => by simp [mkW]
 | v :: l, [], k, i => by simp [mkW]
 | v :: l, c :: cs, k, 0 => by
  simp only [mkW,List.getElem?_cons_zero,Option.map_some,Nat.add_zero]
  rcases c with _ | _ | c <;> rfl
 | v :: l, c :: cs, k, i + 1 => by
  simp only [mkW,List.getElem?_cons_succ]
  rw [mkW_get ws l cs (k + 1) i, show k + 1 + i = k + (i + 1) by omega]
theorem mkW_get' {ws : List (Nat × V)} {l : List V} {cs : List Nat} (hk : keysW cs ws = true) {i : Nat} {v : V} (h : (mkW ws 0 cs l)[i]? = some v) : v = .undef ∨ (wr l.length l ws)[i]? = some v := by
 rw [mkW_get, Option.map_eq_some_iff] at h
 obtain ⟨b, hb, hv⟩ := h
 have hi := (List.getElem?_eq_some_iff.1 hb).1
 have hd : l.getD i .undef = b := by rw [List.getD_eq_getElem?_getD, hb]; rfl
 rw [wr_get, if_pos hi, hd]
 rw [Nat.zero_add] at hv
 revert hv
 cases hc : cs[i]? with
 | none => intro hv; right; rw [keysW_none hk (.inr hc)]; exact congrArg some hv
 | some c =>
  rcases c with _ | _ | c
  ·intro hv; right; rw [keysW_none hk (.inl hc)]; exact congrArg some hv
  ·intro hv; left; exact hv.symm
  ·intro hv; right; exact congrArg some hv
theorem mkW_length (ws : List (Nat × V)) : ∀ (l : List V) (cs : List Nat) (k : Nat), (mkW ws k cs l).length = l.length
 | [], cs, k => by simp [mkW]
 | v :: l, [], k => by simp [mkW]
 | v :: l, c :: cs, k => by simp [mkW, mkW_length ws l cs (k + 1)]
theorem mkW_rep {E : Env} {ws : List (Nat × V)} {l : List V} {cs : List Nat} {xs : List Value} (hk : keysW cs ws = true) (h : RepL E (wr l.length l ws) xs) : RepL E (mkW ws 0 cs l) xs := by
 refine ⟨by rw [mkW_length, ← h.1, wr_length], fun i v x hv hx => ?_⟩
 rcases mkW_get' hk hv with rfl | h1
 ·exact .undef _ _
 ·exact h.2 i v x h1 hx
theorem mkW_eq {ws : List (Nat × V)} {l : List V} {cs : List Nat} (hk : keysW cs ws = true) (h1 : cs.all (· != 1) = true) : mkW ws 0 cs l = wr l.length l ws := by
 apply List.ext_getElem?
 intro i
 rw [mkW_get, wr_get]
 by_cases hi : i < l.length
 ·rw [if_pos hi, List.getElem?_eq_getElem hi, Option.map_some]
  have hd : l.getD i .undef = l[i] := by rw [List.getD_eq_getElem?_getD, List.getElem?_eq_getElem hi]; rfl
  rw [hd, Nat.zero_add]
  congr 1
  cases hc : cs[i]? with
  | none => exact (keysW_none hk (.inr hc) _).symm
  | some c =>
   rcases c with _ | _ | c
   ·exact (keysW_none hk (.inl hc) _).symm
   ·have := List.all_eq_true.1 h1 1 (List.mem_of_getElem? hc)
    simp at this
   ·rfl
 ·rw [if_neg hi, List.getElem?_eq_none (show l.length ≤ i by omega)]; rfl

def gT (j : Nat) : List (Nat × Nat) → Option Nat
 | [] => none
 | p :: r => if p.1 = j then some p.2 else gT j r
def gOk (all : Array Oper) (gl : List (Nat × Nat)) : Bool := gl.all fun p => (match (all[p.1]?).bind (·.dst) with | some d => decide (d = p.2) | none => false)
def gRead (want : Bool) : Option V → Option Bool
 | some (.sc (.bool b)) => some (b == want)
 | some (.sc _) => some false
 | some _ => none
 | none => some false
def wantedW (gl : List (Nat × Nat)) (all : Array Oper) (fr : List V) (o : Oper) : Option Bool :=
 match o.guard with
 | none => some true
 | some (j, want) => match gT j gl with
  | none => wantedV all fr o
  | some d => gRead want fr[d]?
theorem gT_ok {all : Array Oper} : ∀ {gl : List (Nat × Nat)}, gOk all gl = true → ∀ {j d : Nat}, gT j gl = some d → (all[j]?).bind (·.dst) = some d
 | [], _, j, d, h => by cases h
 | p :: r, hg, j, d, h => by
  have h1 := List.all_eq_true.1 hg p (by simp)
  simp only [gT] at h
  split at h
  ·rename_i e
   cases h
   rw [e] at h1
   cases hd : (all[j]?).bind (·.dst) with
   | none => rw [hd] at h1; cases h1
   | some d => rw [hd] at h1; exact congrArg some (of_decide_eq_true h1)
  ·exact gT_ok (List.all_eq_true.2 fun q hq => List.all_eq_true.1 hg q (by simp [hq])) h
theorem wantedW_eq {all : Array Oper} {gl : List (Nat × Nat)} (hg : gOk all gl = true) (fr : List V) (o : Oper) : wantedW gl all fr o = wantedV all fr o := by
 unfold wantedW
 cases ho : o.guard with
 | none => unfold wantedV; rw [ho]
 | some g =>
  obtain ⟨j, want⟩ := g
  simp only
  cases ht : gT j gl with
  | none => rfl
  | some d =>
   have := gT_ok hg ht
   unfold wantedV
   rw [ho]
   simp only [this]
   unfold gRead
   cases fr[d]? with
   | none => rfl
   | some v =>
    cases v with
    | sc x => cases x <;> rfl
    | _ => rfl
def runOpsW (P : Program) (tt : Table) (gl : List (Nat × Nat)) (all : Array Oper) : List Oper → St → (St → Prop) → Prop
 | [], st, Q => Q st
 | o :: r, st, Q => match wantedW gl all st.fr o with
  | some true => stepOp P tt st.mem.length o st fun st' => runOpsW P tt gl all r st' Q
  | some false => runOpsW P tt gl all r (st.put o.dst (.sc undef)) Q
  | none => False
theorem runOpsW_eq {P : Program} {tt : Table} {gl : List (Nat × Nat)} {all : Array Oper} (hg : gOk all gl = true) {Q : St → Prop} : ∀ (l : List Oper) (st : St), runOpsW P tt gl all l st Q = runOps P tt all l st Q
 | [], st => rfl
 | o :: r, st => by
  have ih := fun s => runOpsW_eq (P := P) (tt := tt) (Q := Q) hg r s
  simp only [runOpsW,runOps,wantedW_eq hg,ih]
  rfl
section
variable {P : Program} {tt : Table} {ρ : Option Nat} {n0 : Nat} {Q : Exit → St → Prop} {l : List V} {mem : List Blk}
theorem tri_mkW {c : Code} {cs : List Nat} {ws : List (Nat × V)} (hk : keysW cs ws = true) (h : Tri P ρ n0 c { fr := mkW ws 0 cs l, mem := mem } Q) : Tri P ρ n0 c { fr := wr l.length l ws, mem := mem } Q :=
 tri_weak (st' := { fr := mkW ws 0 cs l, mem := mem }) (fun E w a hs => ⟨hs.F, hs.lt, hs.mem, hs.top, hs.ver, hs.apart, mkW_rep hk hs.fr⟩) h
theorem tri_seq_region_w (ht : TT P tt) (n : Nat) (cs : List Nat) (gl : List (Nat × Nat)) (hn : l.length = n) {id : Nat} {ops : Array Oper} {y : Code} (hg : gOk ops gl = true)
  (h : ∀ K : St → Prop, (∀ ws mem', keysW cs ws = true → Tri P ρ n0 y { fr := mkW ws 0 cs l, mem := mem' } Q → K { fr := wr n l ws, mem := mem' }) → runOpsW P tt gl ops ops.toList { fr := wr n l [], mem := mem } K) :
  Tri P ρ n0 (.seq (.region id ops false) y) { fr := l, mem := mem } Q := by
 subst hn
 refine tri_seq_region ht fun K hK => ?_
 have := h K fun ws mem' hk ht => hK _ (tri_mkW hk ht)
 rw [runOpsW_eq hg, wr_nil rfl] at this
 exact this
theorem tri_last_region_w (ht : TT P tt) (n : Nat) (cs : List Nat) (gl : List (Nat × Nat)) (hn : l.length = n) (h1 : cs.all (· != 1) = true) {id : Nat} {ops : Array Oper} (hg : gOk ops gl = true)
  (h : ∀ K : St → Prop, (∀ ws mem', keysW cs ws = true → Q .normal { fr := mkW ws 0 cs l, mem := mem' } → K { fr := wr n l ws, mem := mem' }) → runOpsW P tt gl ops ops.toList { fr := wr n l [], mem := mem } K) :
  Tri P ρ n0 (.region id ops false) { fr := l, mem := mem } Q := by
 subst hn
 refine tri_last_region ht fun K hK => ?_
 have := h K fun ws mem' hk ht => hK _ (by rw [← mkW_eq hk h1]; exact ht)
 rw [runOpsW_eq hg, wr_nil rfl] at this
 exact this
theorem tri_seq_mixed_w (ht : TT P tt) (hm : P.follows .mixedOrders = true) (n : Nat) (cs : List Nat) (hn : l.length = n) (plan : List Pl) (m : Nat) {id : Nat} {ops : Array Oper} {y : Code} (hok : mixOk ops plan = true)
  (h : ∀ K : St → Prop, (∀ ws mem', keysW cs ws = true → Tri P ρ n0 y { fr := mkW ws 0 cs l, mem := mem' } Q → K { fr := wr n l ws, mem := mem' }) → runM P tt ops mem.length ops.toList plan { fr := wr n l [], mem := mem ++ List.replicate m .hole } K) :
  Tri P ρ n0 (.seq (.region id ops true) y) { fr := l, mem := mem } Q := by
 subst hn
 refine tri_seq_mixed ht hm plan m hok fun K hK => ?_
 have := h K fun ws mem' hk ht => hK _ (tri_mkW hk ht)
 rw [wr_nil rfl] at this
 exact this
theorem tri_last_mixed_w (ht : TT P tt) (hm : P.follows .mixedOrders = true) (n : Nat) (cs : List Nat) (hn : l.length = n) (h1 : cs.all (· != 1) = true) (plan : List Pl) (m : Nat) {id : Nat} {ops : Array Oper} (hok : mixOk ops plan = true)
  (h : ∀ K : St → Prop, (∀ ws mem', keysW cs ws = true → Q .normal { fr := mkW ws 0 cs l, mem := mem' } → K { fr := wr n l ws, mem := mem' }) → runM P tt ops mem.length ops.toList plan { fr := wr n l [], mem := mem ++ List.replicate m .hole } K) :
  Tri P ρ n0 (.region id ops true) { fr := l, mem := mem } Q := by
 subst hn
 refine tri_last_mixed ht hm plan m hok fun K hK => ?_
 have := h K fun ws mem' hk ht => hK _ (by rw [← mkW_eq hk h1]; exact ht)
 rw [wr_nil rfl] at this
 exact this
end
attribute [irreducible] runOpsW
end Go.Eng
end

section
namespace Go.Eng
variable [Glob]
def Ex (P : Program) (ρ : Option Nat) (n0 : Nat) (c : Code) (st : St) (Q : Exit → St → Prop) : Prop :=
  ∃ (e : Exit) (s : St), Q e s ∧ ∀ Q' : Exit → St → Prop, Q' e s → Tri P ρ n0 c st Q'
section
variable {P : Program} {tt : Table} {ρ : Option Nat} {n0 : Nat} {st : St} {Q : Exit → St → Prop}
theorem Ex.tri {c : Code} (h : Ex P ρ n0 c st Q) : Tri P ρ n0 c st Q := by
  obtain ⟨e, s, hq, h⟩ := h
  exact h Q hq
theorem Ex.mono {c : Code} {Q2 : Exit → St → Prop} (h : Ex P ρ n0 c st Q) (hq : ∀ e s, Q e s → Q2 e s) : Ex P ρ n0 c st Q2 := by
  obtain ⟨e, s, h1, h⟩ := h
  exact ⟨e, s, hq _ _ h1, h⟩
theorem ex_skip (h : Q .normal st) : Ex P ρ n0 .skip st Q := ⟨_, _, h, fun _ h => tri_skip h⟩
theorem ex_ret (h : Q .ret st) : Ex P ρ n0 .ret st Q := ⟨_, _, h, fun _ h => tri_ret h⟩
theorem ex_exit {id : Nat} (h : Q (.exit id) st) : Ex P ρ n0 (.exit id) st Q := ⟨_, _, h, fun _ h => tri_exit h⟩
theorem ex_seq {x y : Code} (h : Ex P ρ n0 x st (thenQ (fun st' => Ex P ρ n0 y st' Q) Q)) : Ex P ρ n0 (.seq x y) st Q := by
  obtain ⟨e, s, hq, h⟩ := h
  cases e with
  | normal =>
    obtain ⟨e2, s2, hq2, h2⟩ := hq
    exact ⟨e2, s2, hq2, fun Q' h' => tri_seq (h _ (h2 Q' h'))⟩
  | _ => exact ⟨_, s, hq, fun Q' h' => tri_seq (h (thenQ (fun st' => Tri P ρ n0 y st' Q') Q') h')⟩
theorem ex_cond {c : Operand} {x y : Code} {b : Bool} (hc : st.eval c = .sc (.bool b)) (h : Ex P ρ n0 (if b = true then x else y) st Q) : Ex P ρ n0 (.cond c x y) st Q := by
  obtain ⟨e, s, hq, h⟩ := h
  exact ⟨e, s, hq, fun Q' h' => tri_cond hc (h Q' h')⟩
theorem ex_if {c : Operand} {x y : Code} {b : Bool} (hc : st.eval c = .sc (.bool b)) (h1 : b = true → Ex P ρ n0 x st Q) (h2 : b = false → Ex P ρ n0 y st Q) : Ex P ρ n0 (.cond c x y) st Q := by
  refine ex_cond hc ?_
  cases b with
  | true => exact h1 rfl
  | false => exact h2 rfl
theorem ex_block {id : Nat} {c : Code} (h : Ex P ρ n0 c st (blockQ id Q)) : Ex P ρ n0 (.block id c) st Q := by
  obtain ⟨e, s, hq, h⟩ := h
  cases e with
  | exit j =>
    by_cases hj : j = id
    · simp only [blockQ,if_pos hj] at hq
      exact ⟨_, s, hq, fun Q' h' => tri_block (h (blockQ id Q') (by simpa only [blockQ, if_pos hj] using h'))⟩
    · simp only [blockQ,if_neg hj] at hq
      exact ⟨_, s, hq, fun Q' h' => tri_block (h (blockQ id Q') (by simpa only [blockQ, if_neg hj] using h'))⟩
  | _ => exact ⟨_, s, hq, fun Q' h' => tri_block (h (blockQ id Q') h')⟩
theorem loopN_mask {c : Code} {m : Nat} {Q' : Exit → St → Prop} (n : Nat) (mk : List Bool) (hn : n0 ≤ n) (hf : (maskFr mk st.fr).all (belowV n) = true) (hm : (st.mem.take n).all (belowB n) = true)
    (h : LoopN P ρ n0 c m { fr := maskFr mk st.fr, mem := st.mem.take n } Q') : LoopN P ρ n0 c m st Q' := by
  cases m with
  | zero => exact h.elim
  | succ m => exact tri_mask n mk hn hf hm h
theorem ex_loop_inv {c : Code} (I : Nat → St → Prop) (N : Nat) (h0 : Trims n0 st (I N))
    (step : ∀ n st, I n st → Ex P ρ n0 c st (thenQ (fun st' => ∃ k, k < n ∧ Trims n0 st' (I k)) Q)) : Ex P ρ n0 (.loop c) st Q := by
  have key : ∀ (n : Nat) (st : St), I n st → ∃ (e : Exit) (s : St), Q e s ∧ ∀ Q' : Exit → St → Prop, Q' e s → ∃ m, LoopN P ρ n0 c m st Q' := by
    intro n
    induction n using Nat.strongRecOn with
    | _ n ih =>
      intro st hI
      obtain ⟨e, s, hq, h⟩ := step n st hI
      cases e with
      | normal =>
        obtain ⟨k, hk, n1, mk, h1, h2, h3, h4⟩ := hq
        obtain ⟨e2, s2, hq2, h5⟩ := ih k hk _ h4
        refine ⟨e2, s2, hq2, fun Q' h' => ?_⟩
        obtain ⟨m, h6⟩ := h5 Q' h'
        exact ⟨m + 1, h _ (loopN_mask n1 mk h1 h2 h3 h6)⟩
      | _ => exact ⟨_, s, hq, fun Q' h' => ⟨1, h (thenQ (fun st' => LoopN P ρ n0 c 0 st' Q') Q') h'⟩⟩
  obtain ⟨n1, mk, h1, h2, h3, h4⟩ := h0
  obtain ⟨e, s, hq, h⟩ := key N _ h4
  exact ⟨e, s, hq, fun Q' h' => tri_mask n1 mk h1 h2 h3 (tri_loop_of (h Q' h'))⟩
theorem ex_mask {c : Code} (n : Nat) (m : List Bool) (hn : n0 ≤ n) (hf : (maskFr m st.fr).all (belowV n) = true) (hm : (st.mem.take n).all (belowB n) = true)
    (h : Ex P ρ n0 c { fr := maskFr m st.fr, mem := st.mem.take n } Q) : Ex P ρ n0 c st Q := by
  obtain ⟨e, s, hq, h⟩ := h
  exact ⟨e, s, hq, fun Q' h' => tri_mask n m hn hf hm (h Q' h')⟩
theorem ex_count {c : Code} (t N n : Nat) (m : List Bool) (F : List V) (M : List Blk) (hn : n0 ≤ n) (hf : (maskFr m st.fr).all (belowV n) = true) (hm : (st.mem.take n).all (belowB n) = true)
    (hF : maskFr m st.fr = F.set t (.sc (.int .i64 (0 : Nat)))) (hM : st.mem.take n = M)
    (step : ∀ i, i ≤ N → Ex P ρ n0 c { fr := F.set t (.sc (.int .i64 (i : Nat))), mem := M }
      (thenQ (fun st' => i < N ∧ Trims n0 st' (fun s => s = { fr := F.set t (.sc (.int .i64 ((i + 1 : Nat) : Int))), mem := M })) Q)) : Ex P ρ n0 (.loop c) st Q := by
  refine ex_loop_inv (fun k s => ∃ i, k = N - i ∧ i ≤ N ∧ s = { fr := F.set t (.sc (.int .i64 (i : Nat))), mem := M }) N ⟨n, m, hn, hf, hm, 0, by omega, by omega, by rw [hF, hM]⟩ ?_
  rintro k s ⟨i, rfl, hi, rfl⟩
  refine (step i hi).mono fun e s' h => ?_
  cases e with
  | normal =>
    obtain ⟨h1, n1, m1, h2, h3, h4, h5⟩ := h
    exact ⟨N - (i + 1), by omega, n1, m1, h2, h3, h4, i + 1, rfl, h1, h5⟩
  | _ => exact h

def callF (P : Program) (f : FuncId) (vs vs' : List V) (keys : List (Nat × Nat)) (st : St) (dst : Option Tmp) (Q : St → Prop) : Prop :=
  ∃ v, (FnOk P f vs' v ∧ Q ({ st with mem := memAfter st.mem keys v }.put dst v)) ∨ (NatOk P f vs v ∧ Q (st.put dst v))
def callS (P : Program) (f : FuncId) (vs : List V) (st : St) (dst : Option Tmp) (Q : St → Prop) : Prop :=
  ∃ v, FnOkS P f vs st.mem v st.mem ∧ Q (st.put dst v)
def callT (P : Program) (f : FuncId) (vs : List V) (st : St) (dst : Option Tmp) (Q : St → Prop) : Prop :=
  match purL st.mem vs with
  | some vs' => callF P f vs vs' (vs.flatMap ref1) st dst Q
  | none => callS P f vs st dst Q
@[congr] theorem callF_congr {f f' : FuncId} {us us' vs vs' : List V} {keys keys' : List (Nat × Nat)} {st st' : St} {dst : Option Tmp} {Q : St → Prop} (hf : f = f') (hu : us = us') (hv : vs = vs') (hk : keys = keys') (h : st = st') : callF P f us vs keys st dst Q = callF P f' us' vs' keys' st' dst Q := by rw [hf, hu, hv, hk, h]
def stepD (P : Program) (tt : Table) (key : Nat) (o : Oper) (st : St) (Q : St → Prop) : Prop :=
  match o.op with
  | .alloc T => match tt T with
    | some i => Q ({ st with mem := setMem st.mem key (.box (i.zero.map V.sc)) }.put o.dst (.ptr key 0))
    | none => False
  | .box _ x => match cellsV (st.eval x) with
    | some cs => Q ({ st with mem := setMem st.mem key (.box cs) }.put o.dst (.ptr key 0))
    | none => False
  | .build T parts => match buildV tt T parts.toList st.eval with
    | some v => Q (st.put o.dst v)
    | none => False
  | .buildSlice T len parts => match litV tt T len parts.toList st.eval with
    | some (size, rs) => Q ({ st with mem := setMem st.mem key (.rows 0 size rs) }.put o.dst (.ms key 0 0 len))
    | none => False
  | .store T p x => match storeV tt st.mem T (st.eval p) (st.eval x) with
    | some mem' => Q ({ st with mem := mem' }.put o.dst (.sc undef))
    | none => False
  | .call c => match c.callee with
    | .value f => match calleeOf (st.eval f) (c.args.toList.map st.eval) with
      | some (g, vs) => callT P g vs st o.dst Q
      | none => False
    | .builtin .append => match c.args.toList.map st.eval with
      | [s, x] => match appendV tt st.mem c.argTypes.toList s x with
        | some (size, old, rows) => Q ({ st with mem := (appOut st.mem key size rows old).1 }.put o.dst (appOut st.mem key size rows old).2)
        | none => False
      | _ => False
    | .builtin .len => match opV P tt st o with
      | some v => Q (st.put o.dst v)
      | none => False
    | .builtin .max => match opV P tt st o with
      | some v => Q (st.put o.dst v)
      | none => False
    | .builtin .min => match opV P tt st o with
      | some v => Q (st.put o.dst v)
      | none => False
    | _ => False
  | .makeMap _ none => Q ({ st with mem := setMem st.mem key (.map [] 0) }.put o.dst (.mp key))
  | .mapUpdate T m k x => match insertV P st.mem T (st.eval m) (st.eval k) (st.eval x) with
    | some mem' => Q ({ st with mem := mem' }.put o.dst (.sc undef))
    | none => False
  | .insert T m k x => match insertV P st.mem T (st.eval m) (st.eval k) (st.eval x) with
    | some mem' => Q ({ st with mem := mem' }.put o.dst (.sc undef))
    | none => False
  | .binOp op T x y _ => match nilLen tt op T (st.eval x) (st.eval y) with
    | some _ => False
    | none => match opV P tt st o with
      | some v => Q (st.put o.dst v)
      | none => False
  | .move _ => match opV P tt st o with
    | some v => Q (st.put o.dst v)
    | none => False
  | .assign _ => match opV P tt st o with
    | some v => Q (st.put o.dst v)
    | none => False
  | .pick _ _ _ => match opV P tt st o with
    | some v => Q (st.put o.dst v)
    | none => False
  | .load _ _ => match opV P tt st o with
    | some v => Q (st.put o.dst v)
    | none => False
  | .nilCheck _ => match opV P tt st o with
    | some v => Q (st.put o.dst v)
    | none => False
  | .unOp _ _ _ => match opV P tt st o with
    | some v => Q (st.put o.dst v)
    | none => False
  | .convert _ _ _ => match opV P tt st o with
    | some v => Q (st.put o.dst v)
    | none => False
  | .makeFunc _ _ _ => match opV P tt st o with
    | some v => Q (st.put o.dst v)
    | none => False
  | .slice _ _ _ _ _ => match opV P tt st o with
    | some v => Q (st.put o.dst v)
    | none => False
  | .fieldAddr _ _ _ => match opV P tt st o with
    | some v => Q (st.put o.dst v)
    | none => False
  | .indexAddr _ _ _ => match opV P tt st o with
    | some v => Q (st.put o.dst v)
    | none => False
  | .index _ _ _ => match opV P tt st o with
    | some v => Q (st.put o.dst v)
    | none => False
  | .extract _ _ => match opV P tt st o with
    | some v => Q (st.put o.dst v)
    | none => False
  | .lookup _ _ _ _ => match opV P tt st o with
    | some v => Q (st.put o.dst v)
    | none => False
  | _ => False
@[congr] theorem stepD_congr {key key' : Nat} {o : Oper} {st st' : St} {Q : St → Prop} (hk : key = key') (h : st = st') : stepD P tt key o st Q = stepD P tt key' o st' Q := by rw [hk, h]
theorem stepD_op {key : Nat} {o : Oper} {Q : St → Prop} (h : stepD P tt key o st Q) : ∃ s, Q s ∧ ∀ K : St → Prop, K s → stepOp P tt key o st K := by
  obtain ⟨dst, op, type, pos, after, guard⟩ := o
  cases op
  case call c =>
    obtain ⟨callee, args, ats⟩ := c
    cases callee
    case value f =>
      simp only [stepD] at h
      split at h
      · rename_i g vs hg
        unfold callT at h
        split at h
        · rename_i vs' hp
          obtain ⟨v, ⟨h1, h2⟩ | ⟨h1, h2⟩⟩ := h
          · refine ⟨_, h2, fun K hK => ?_⟩
            simp only [stepOp]
            split
            · rename_i k hy; rw [hy] at hg; simp [calleeOf] at hg
            · rw [hg]; exact .inl ⟨vs', v, hp, h1, hK⟩
          · refine ⟨_, h2, fun K hK => ?_⟩
            simp only [stepOp]
            split
            · rename_i k hy; rw [hy] at hg; simp [calleeOf] at hg
            · rw [hg]; exact .inr (.inr (.inr ⟨v, h1, hK⟩))
        · obtain ⟨v, h1, h2⟩ := h
          refine ⟨_, h2, fun K hK => ?_⟩
          simp only [stepOp]
          split
          · rename_i k hy; rw [hy] at hg; simp [calleeOf] at hg
          · rw [hg]; exact .inr (.inl ⟨v, st.mem, h1, hK⟩)
      · exact h.elim
    case builtin b =>
      cases b
      case append =>
        simp only [stepD] at h
        split at h
        · rename_i s x hsx
          split at h
          · rename_i size old rows ha
            refine ⟨_, h, fun K hK => ?_⟩
            simp only [stepOp,hsx,ha]
            exact hK
          · exact h.elim
        · exact h.elim
      all_goals first
        | exact h.elim
        | (simp only [stepD] at h
           split at h
           · rename_i v hv
             refine ⟨_, h, fun K hK => ?_⟩
             simp only [stepOp,hv]
             exact hK
           · exact h.elim)
    all_goals exact h.elim
  case binOp =>
    simp only [stepD] at h
    split at h
    · exact h.elim
    · rename_i hn
      split at h
      · rename_i v hv
        refine ⟨_, h, fun K hK => ?_⟩
        simp only [stepOp,hn,hv]
        exact hK
      · exact h.elim
  case buildSlice =>
    simp only [stepD] at h
    split at h
    · rename_i size rs hl
      refine ⟨_, h, fun K hK => ?_⟩
      simp only [stepOp,hl]
      exact hK
    · exact h.elim
  case store =>
    simp only [stepD] at h
    split at h
    · rename_i m hl
      refine ⟨_, h, fun K hK => ?_⟩
      simp only [stepOp,hl]
      exact hK
    · exact h.elim
  case makeMap T l =>
    cases l with
    | none => exact ⟨_, h, fun K hK => hK⟩
    | some l => exact h.elim
  all_goals first
    | exact h.elim
    | (simp only [stepD] at h
       split at h
       · rename_i v hv
         refine ⟨_, h, fun K hK => ?_⟩
         simp only [stepOp,hv]
         exact hK
       · exact h.elim)
def runX (P : Program) (tt : Table) (gl : List (Nat × Nat)) (all : Array Oper) : List Oper → St → (St → Prop) → Prop
  | [], st, Q => Q st
  | o :: r, st, Q => match wantedW gl all st.fr o with
    | some true => stepD P tt st.mem.length o st fun st' => runX P tt gl all r st' Q
    | some false => runX P tt gl all r (st.put o.dst (.sc undef)) Q
    | none => False
@[congr] theorem runX_congr {gl : List (Nat × Nat)} {all : Array Oper} {l l' : List Oper} {st st' : St} {Q : St → Prop} (hl : l = l') (h : st = st') : runX P tt gl all l st Q = runX P tt gl all l' st' Q := by rw [hl, h]
theorem runX_op {gl : List (Nat × Nat)} {all : Array Oper} {Q : St → Prop} : ∀ (l : List Oper) (st : St), runX P tt gl all l st Q → ∃ s, Q s ∧ ∀ K : St → Prop, K s → runOpsW P tt gl all l st K
  | [], st, h => ⟨st, h, fun K hK => by rw [runOpsW]; exact hK⟩
  | o :: r, st, h => by
    rw [runX] at h
    split at h
    · rename_i hw
      obtain ⟨s, h1, h2⟩ := stepD_op h
      obtain ⟨s2, h3, h4⟩ := runX_op r s h1
      exact ⟨s2, h3, fun K hK => by rw [runOpsW, hw]; exact h2 _ (h4 K hK)⟩
    · rename_i hw
      obtain ⟨s2, h3, h4⟩ := runX_op r _ h
      exact ⟨s2, h3, fun K hK => by rw [runOpsW, hw]; exact h4 K hK⟩
    · exact h.elim
theorem runX_split {gl : List (Nat × Nat)} {all : Array Oper} {K : St → Prop} : ∀ (k : Nat) (l : List Oper) (st : St), runX P tt gl all (l.take k) st (fun s => runX P tt gl all (l.drop k) s K) = runX P tt gl all l st K
  | 0, l, st => rfl
  | k + 1, [], st => rfl
  | k + 1, o :: r, st => by
    have ih := fun s => runX_split (gl := gl) (all := all) (K := K) k r s
    simp only [List.take_succ_cons,List.drop_succ_cons,runX,ih]
theorem runX_cut {gl : List (Nat × Nat)} {all : Array Oper} (k : Nat) {l : List Oper} {st : St} {K : St → Prop}
    (h : ∀ K1 : St → Prop, (∀ s, runX P tt gl all (l.drop k) s K → K1 s) → runX P tt gl all (l.take k) st K1) : runX P tt gl all l st K := by
  rw [← runX_split k]
  exact h _ fun _ h => h
theorem callF_ex {R : V → Prop} {f : FuncId} {vs vs' : List V} {keys : List (Nat × Nat)} {dst : Option Tmp} {Q : St → Prop} (hr : ∃ v, R v ∧ FnOk P f vs' v) (h : ∀ v, R v → Q ({ st with mem := memAfter st.mem keys v }.put dst v)) : callF P f vs vs' keys st dst Q := by
  obtain ⟨v, h1, h2⟩ := hr
  exact ⟨v, .inl ⟨h2, h v h1⟩⟩
theorem lkF_same {t : Nat} {b v : V} {ws : List (Nat × V)} (h : lkF t b ws = v) (i : Nat) (c : V) (hc : i = t → c = b) : lkF i c ((t, v) :: ws) = lkF i c ws := by
  simp only [lkF]
  by_cases e : t = i
  · subst e; rw [if_pos rfl, hc rfl, h]
  · rw [if_neg e]
theorem runX_case {gl : List (Nat × Nat)} {all : Array Oper} (t : Nat) {b0 : Bool} {n : Nat} {base : List V} {ws : List (Nat × V)} {mem : List Blk} {l : List Oper} {Kp : St → Prop}
    (hb : lkF t (base.getD t .undef) ws = .sc (.bool b0)) (h : ∀ b, b0 = b → runX P tt gl all l { fr := wr n base ((t, .sc (.bool b)) :: ws), mem := mem } Kp) : runX P tt gl all l { fr := wr n base ws, mem := mem } Kp := by
  have := h b0 rfl
  have e : wr n base ((t, .sc (.bool b0)) :: ws) = wr n base ws := by
    unfold wr
    exact List.map_congr_left fun i _ => lkF_same hb i _ (fun e => by rw [e])
  rw [e] at this
  exact this
theorem ex_region_w (ht : TT P tt) (n : Nat) (cs : List Nat) (gl : List (Nat × Nat)) {l : List V} {mem : List Blk} (hn : l.length = n) {id : Nat} {ops : Array Oper} {y : Code} (hg : gOk ops gl = true)
    (h : ∀ K : St → Prop, (∀ ws mem', keysW cs ws = true → Ex P ρ n0 y { fr := mkW ws 0 cs l, mem := mem' } Q → K { fr := wr n l ws, mem := mem' }) → runX P tt gl ops ops.toList { fr := wr n l [], mem := mem } K) :
    Ex P ρ n0 (.seq (.region id ops false) y) { fr := l, mem := mem } Q := by
  obtain ⟨s, ⟨ws, mem', rfl, hk, e, s2, hq, h2⟩, hr⟩ := runX_op _ _ (h (fun s => ∃ ws mem', s = { fr := wr n l ws, mem := mem' } ∧ keysW cs ws = true ∧ Ex P ρ n0 y { fr := mkW ws 0 cs l, mem := mem' } Q) fun ws mem' hk he => ⟨ws, mem', rfl, hk, he⟩)
  exact ⟨e, s2, hq, fun Q' h' => tri_seq_region_w ht n cs gl hn hg fun K hK => hr K (hK ws mem' hk (h2 Q' h'))⟩
theorem ex_last_region_w (ht : TT P tt) (n : Nat) (cs : List Nat) (gl : List (Nat × Nat)) {l : List V} {mem : List Blk} (hn : l.length = n) (h1 : cs.all (· != 1) = true) {id : Nat} {ops : Array Oper} (hg : gOk ops gl = true)
    (h : ∀ K : St → Prop, (∀ ws mem', keysW cs ws = true → Q .normal { fr := mkW ws 0 cs l, mem := mem' } → K { fr := wr n l ws, mem := mem' }) → runX P tt gl ops ops.toList { fr := wr n l [], mem := mem } K) :
    Ex P ρ n0 (.region id ops false) { fr := l, mem := mem } Q := by
  obtain ⟨s, ⟨ws, mem', rfl, hk, hq⟩, hr⟩ := runX_op _ _ (h (fun s => ∃ ws mem', s = { fr := wr n l ws, mem := mem' } ∧ keysW cs ws = true ∧ Q .normal { fr := mkW ws 0 cs l, mem := mem' }) fun ws mem' hk he => ⟨ws, mem', rfl, hk, he⟩)
  exact ⟨.normal, _, hq, fun Q' h' => tri_last_region_w ht n cs gl hn h1 hg fun K hK => hr K (hK ws mem' hk h')⟩
attribute [irreducible] runX
theorem fn_ex {P : Program} {tt : Table} (ht : TT P tt) {R : V → Prop} {f : FuncId} {fn : Func} {body : Code} {args : List V} (hf : P.funcs[f]? = some fn) (hb : fn.body = some body)
    (hcall : ∀ (xs : Array Value) (w : World), (callFunc f xs).run P w = .ok (.enter f xs) w)
    (h : Ex P none 0 body (startSt fn args []) fun ex st' => (ex = .ret ∨ ex = .normal) ∧ ∃ r, R r ∧ retV tt fn.results st' = some r) : ∃ r, R r ∧ FnOk P f args r := by
  obtain ⟨e, s, ⟨h1, r, hr, h2⟩, h3⟩ := h
  exact ⟨r, hr, fn_ok ht hf hb hcall (h3 _ ⟨h1, h2⟩)⟩
theorem ex_range {P : Program} {ρ : Option Nat} {n0 : Nat} {Q : Exit → St → Prop} {c : Code} {l : List V} {mem : List Blk} (t N n : Nat) (m : List Bool) (hn : n0 ≤ n) (hf : (maskFr m l).all (belowV n) = true) (hm : (mem.take n).all (belowB n) = true)
    (h0 : (maskFr m l)[t]? = some (.sc (.int .i64 (0 : Nat))))
    (step : ∀ i, i ≤ N → Ex P ρ n0 c { fr := (maskFr m l).set t (.sc (.int .i64 (i : Nat))), mem := mem.take n }
      (thenQ (fun st' => i < N ∧ Trims n0 st' (fun s => s = { fr := (maskFr m l).set t (.sc (.int .i64 ((i + 1 : Nat) : Int))), mem := mem.take n })) Q)) : Ex P ρ n0 (.loop c) { fr := l, mem := mem } Q := by
  have e0 : maskFr m l = (maskFr m l).set t (.sc (.int .i64 (0 : Nat))) := by
    apply List.ext_getElem?
    intro i
    rw [List.getElem?_set]
    by_cases h : t = i
    · subst h; rw [if_pos rfl, h0, if_pos (List.getElem?_eq_some_iff.1 h0).1]
    · rw [if_neg h]
  exact ex_count t N n m (maskFr m l) (mem.take n) hn hf hm e0 rfl step
def putAll : List V → List Nat → List V → List V
  | l, t :: ts, v :: vs => putAll (l.set t v) ts vs
  | l, _, _ => l
def intOf : V → Int
  | .sc (.int _ n) => n
  | _ => 0
theorem ex_loopK {P : Program} {ρ : Option Nat} {n0 : Nat} {Q : Exit → St → Prop} {c : Code} {l : List V} {mem : List Blk} (ts : List Nat) (vs0 : List V) (n : Nat) (m : List Bool) (μ : List V → Nat) (Inv : List V → Prop)
    (hn : n0 ≤ n) (hf : (maskFr m l).all (belowV n) = true) (hm : (mem.take n).all (belowB n) = true)
    (h0 : putAll (maskFr m l) ts vs0 = maskFr m l) (hi : Inv vs0)
    (step : ∀ vs, Inv vs → Ex P ρ n0 c { fr := putAll (maskFr m l) ts vs, mem := mem.take n }
      (thenQ (fun st' => ∃ vs', Inv vs' ∧ μ vs' < μ vs ∧ Trims n0 st' (fun s => s = { fr := putAll (maskFr m l) ts vs', mem := mem.take n })) Q)) : Ex P ρ n0 (.loop c) { fr := l, mem := mem } Q := by
  refine ex_loop_inv (fun k s => ∃ vs : List V, Inv vs ∧ k = μ vs ∧ s = { fr := putAll (maskFr m l) ts vs, mem := mem.take n }) (μ vs0) ⟨n, m, hn, hf, hm, vs0, hi, rfl, by rw [h0]⟩ ?_
  rintro k s ⟨vs, hv, rfl, rfl⟩
  refine (step vs hv).mono fun e s' h => ?_
  cases e with
  | normal =>
    obtain ⟨vs', h4, h5, n1, m1, h6, h7, h8, h9⟩ := h
    exact ⟨μ vs', h5, n1, m1, h6, h7, h8, vs', h4, rfl, h9⟩
  | _ => exact h
end
end Go.Eng
end

section
namespace Go.Eng
variable [Glob]
section
variable {P : Program} {tt : Table} {ρ : Option Nat} {n0 : Nat} {Q : Exit → St → Prop}
theorem runM_op {all : Array Oper} {base : Nat} {Q : St → Prop} : ∀ (l : List Oper) (ps : List Pl) (st : St), runM P tt all base l ps st Q → ∃ s, Q s ∧ ∀ K : St → Prop, K s → runM P tt all base l ps st K
 | [], ps, st, h => ⟨st, h, fun K hK => hK⟩
 | o :: r, [], st, h => h.elim
 | o :: r, p :: ps, st, h => by
  rw [runM] at h
  obtain ⟨v, m, h1, h2⟩ := stepM_iff.1 h
  obtain ⟨s, h3, h4⟩ := runM_op r ps _ h2
  exact ⟨s, h3, fun K hK => by rw [runM]; exact stepM_iff.2 ⟨v, m, h1, h4 K hK⟩⟩
theorem ex_mixed_w (ht : TT P tt) (hm : P.follows .mixedOrders = true) (n : Nat) (cs : List Nat) {l : List V} {mem : List Blk} (hn : l.length = n) (plan : List Pl) (m : Nat) {id : Nat} {ops : Array Oper} {y : Code} (hok : mixOk ops plan = true)
  (h : ∀ K : St → Prop, (∀ ws mem', keysW cs ws = true → Ex P ρ n0 y { fr := mkW ws 0 cs l, mem := mem' } Q → K { fr := wr n l ws, mem := mem' }) → runM P tt ops mem.length ops.toList plan { fr := wr n l [], mem := mem ++ List.replicate m .hole } K) :
  Ex P ρ n0 (.seq (.region id ops true) y) { fr := l, mem := mem } Q := by
 obtain ⟨s, ⟨ws, mem', rfl, hk, e, s2, hq, h2⟩, hr⟩ := runM_op _ _ _ (h (fun s => ∃ ws mem', s = { fr := wr n l ws, mem := mem' } ∧ keysW cs ws = true ∧ Ex P ρ n0 y { fr := mkW ws 0 cs l, mem := mem' } Q) fun ws mem' hk he => ⟨ws, mem', rfl, hk, he⟩)
 exact ⟨e, s2, hq, fun Q' h' => tri_seq_mixed_w ht hm n cs hn plan m hok fun K hK => hr K (hK ws mem' hk (h2 Q' h'))⟩
theorem ex_last_mixed_w (ht : TT P tt) (hm : P.follows .mixedOrders = true) (n : Nat) (cs : List Nat) {l : List V} {mem : List Blk} (hn : l.length = n) (h1 : cs.all (· != 1) = true) (plan : List Pl) (m : Nat) {id : Nat} {ops : Array Oper} (hok : mixOk ops plan = true)
  (h : ∀ K : St → Prop, (∀ ws mem', keysW cs ws = true → Q .normal { fr := mkW ws 0 cs l, mem := mem' } → K { fr := wr n l ws, mem := mem' }) → runM P tt ops mem.length ops.toList plan { fr := wr n l [], mem := mem ++ List.replicate m .hole } K) :
  Ex P ρ n0 (.region id ops true) { fr := l, mem := mem } Q := by
 obtain ⟨s, ⟨ws, mem', rfl, hk, hq⟩, hr⟩ := runM_op _ _ _ (h (fun s => ∃ ws mem', s = { fr := wr n l ws, mem := mem' } ∧ keysW cs ws = true ∧ Q .normal { fr := mkW ws 0 cs l, mem := mem' }) fun ws mem' hk he => ⟨ws, mem', rfl, hk, he⟩)
 exact ⟨.normal, _, hq, fun Q' h' => tri_last_mixed_w ht hm n cs hn h1 plan m hok fun K hK => hr K (hK ws mem' hk h')⟩
theorem callD_ex {R : V → Prop} {f : FuncId} {vs vs' : List V} {st : St} {dst : Option Tmp} {Q : St → Prop} (hp : purL [] vs = some vs') (hr : ∃ v, R v ∧ FnOk P f vs' v) (h : ∀ v, R v → Q (st.put dst v)) : callD P f vs st dst Q := by
 obtain ⟨v, h1, h2⟩ := hr
 exact ⟨vs', v, hp, .inl h2, h v h1⟩
end
end Go.Eng
end

section
namespace Go.Eng
variable [Glob]
section
variable {P : Program} {tt : Table} {ρ : Option Nat} {n0 : Nat} {Q : Exit → St → Prop}
theorem ex_loopF {α : Type} {c : Code} {l : List V} {mem : List Blk} (F : α → St) (μ : α → Nat) (Inv : α → Prop) (a0 : α) (n : Nat) (m : List Bool)
  (hn : n0 ≤ n) (hf : (maskFr m l).all (belowV n) = true) (hm : (mem.take n).all (belowB n) = true)
  (h0 : { fr := maskFr m l, mem := mem.take n } = F a0) (hi : Inv a0)
  (step : ∀ a, Inv a → Ex P ρ n0 c (F a) (thenQ (fun st' => ∃ a', Inv a' ∧ μ a' < μ a ∧ Trims n0 st' (fun s => s = F a')) Q)) : Ex P ρ n0 (.loop c) { fr := l, mem := mem } Q := by
 refine ex_loop_inv (fun k s => ∃ a, Inv a ∧ k = μ a ∧ s = F a) (μ a0) ⟨n, m, hn, hf, hm, a0, hi, rfl, h0⟩ ?_
 rintro k s ⟨a, hv, rfl, rfl⟩
 refine (step a hv).mono fun e s' h => ?_
 cases e with
 | normal =>
  obtain ⟨a', h4, h5, n1, m1, h6, h7, h8, h9⟩ := h
  exact ⟨μ a', h5, n1, m1, h6, h7, h8, a', h4, rfl, h9⟩
 | _ => exact h
theorem ex_seq_joinK {x y : Code} {l : List V} {mem : List Blk} (ts : List Nat) (n : Nat) (m : List Bool) (Inv : List V → Prop)
  (h1 : Ex P ρ n0 x { fr := l, mem := mem } (thenQ (fun s => ∃ vs, Inv vs ∧ Trims n0 s (fun s => s = { fr := putAll (maskFr m l) ts vs, mem := mem.take n })) Q))
  (h2 : ∀ vs, Inv vs → Ex P ρ n0 y { fr := putAll (maskFr m l) ts vs, mem := mem.take n } Q) : Ex P ρ n0 (.seq x y) { fr := l, mem := mem } Q := by
 refine ex_seq (h1.mono fun e s h => ?_)
 cases e with
 | normal =>
  obtain ⟨vs, hv, n1, m1, h3, h4, h5, h6⟩ := h
  exact ex_mask n1 m1 h3 h4 h5 (by rw [h6]; exact h2 vs hv)
 | _ => exact h
end
end Go.Eng
end

section
namespace Go.Eng
variable [Glob]
theorem baBeq_iff (a b : ByteArray) : (a == b) = true ↔ a = b := by
 show ByteArray.beq a b = true ↔ _
 unfold ByteArray.beq
 constructor
 ·intro h
  have : a.data = b.data := by simpa using h
  exact ByteArray.ext this
 ·rintro rfl; simp
structure KeyT (P : Program) (T kt et : TypeId) (K : Value → Prop) : Prop where
 map : mapDesc P T = some (kt, et)
 desc : ∃ d, P.underlying kt = some d ∧ ∀ a b, K a → K b → ∃ q : Bool, Instr.sameNow d a b = some q ∧ (q = true ↔ a = b)
 ok : ∀ a, K a → keyOk P kt a = true
 bits : ∀ a, K a → Instr.sameBits 10000 a a = true
def isStrK (v : Value) : Prop := ∃ s, v = .string s
theorem keyT_str {P : Program} {T kt et : TypeId} (h1 : mapDesc P T = some (kt, et)) (h2 : P.underlying kt = some .string) : KeyT P T kt et isStrK := by
 refine ⟨h1, ⟨_, h2, ?_⟩, ?_, ?_⟩
 ·rintro _ _ ⟨a, rfl⟩ ⟨b, rfl⟩
  exact ⟨a == b, rfl, by rw [baBeq_iff, Value.string.injEq]⟩
 ·rintro _ ⟨a, rfl⟩
  unfold keyOk
  rw [h2]
 ·rintro _ ⟨a, rfl⟩
  exact (baBeq_iff a a).2 rfl
section
variable {P : Program} {T kt et : TypeId} {K : Value → Prop}
theorem findNow_key {d : TypeDesc} (hd : ∀ a b, K a → K b → ∃ q : Bool, Instr.sameNow d a b = some q ∧ (q = true ↔ a = b)) {k : Value} (hk : K k) : ∀ (kvs : List (Value × Nat × V)) (n : Nat), (∀ e ∈ kvs, K e.1) →
  (findNowV d k kvs n = some none ∧ ∀ e ∈ kvs, e.1 ≠ k) ∨ ∃ i e, kvs[i]? = some e ∧ e.1 = k ∧ findNowV d k kvs n = some (some (n + i, e.2.2))
 | [], n, _ => .inl ⟨rfl, by simp⟩
 | e :: r, n, h => by
  obtain ⟨q, h1, hq⟩ := hd k e.1 hk (h e (by simp))
  by_cases he : k = e.1
  ·refine .inr ⟨0, e, rfl, he.symm, ?_⟩
   rw [hq.2 he] at h1
   simp only [findNowV,h1,Nat.add_zero]
  ·obtain rfl : q = false := by cases q <;> first | rfl | exact absurd (hq.1 rfl) he
   rcases findNow_key hd hk r (n + 1) (fun e' he' => h e' (by simp [he'])) with ⟨h2, h3⟩ | ⟨i, e', h2, h3, h4⟩
   ·refine .inl ⟨?_, fun e' he' => ?_⟩
    ·simp only [findNowV,h1]; exact h2
    ·rcases List.mem_cons.1 he' with rfl | he'
     ·exact fun e => he e.symm
     ·exact h3 e' he'
   ·refine .inr ⟨i + 1, e', by simpa using h2, h3, ?_⟩
    simp only [findNowV,h1]
    rw [h4, show n + 1 + i = n + (i + 1) by omega]
theorem findV_key (hT : KeyT P T kt et K) {k : Value} (hk : K k) (kvs : List (Value × Nat × V)) (h : ∀ e ∈ kvs, K e.1) :
  (findV P kt k kvs = some none ∧ ∀ e ∈ kvs, e.1 ≠ k) ∨ ∃ i e, kvs[i]? = some e ∧ e.1 = k ∧ findV P kt k kvs = some (some (i, e.2.2)) := by
 obtain ⟨d, hd, hs⟩ := hT.desc
 unfold findV
 rw [hd]
 dsimp only
 rcases findNow_key hs hk kvs 0 h with ⟨h1, h2⟩ | ⟨i, e, h1, h2, h3⟩
 ·rw [h1]; exact .inl ⟨rfl, h2⟩
 ·rw [h3]; exact .inr ⟨i, e, h1, h2, by simp⟩
theorem insert_at (hT : KeyT P T kt et K) {k : Value} (hk : K k) {kvs : List (Value × Nat × V)} {cl : Nat} (h : ∀ e ∈ kvs, K e.1) (v : V) :
  (insertAt P kt k v kvs cl = some (kvs ++ [(k, cl, v)], cl + 1) ∧ ∀ e ∈ kvs, e.1 ≠ k) ∨ ∃ i e, kvs[i]? = some e ∧ e.1 = k ∧ insertAt P kt k v kvs cl = some (kvs.set i (k, e.2.1, v), cl) := by
 unfold insertAt
 rcases findV_key hT hk kvs h with ⟨h1, h2⟩ | ⟨i, e, h1, h2, h3⟩
 ·rw [h1]; exact .inl ⟨rfl, h2⟩
 ·refine .inr ⟨i, e, h1, h2, ?_⟩
  rw [h3]; dsimp only; rw [h1]; dsimp only
  rw [h2, if_pos (hT.bits k hk)]
theorem insertV_at (hT : KeyT P T kt et K) {k : Value} (hk : K k) (ht : toVal (.sc k) = some k) {kvs kvs' : List (Value × Nat × V)} {cl cl' : Nat} {v : V} (hi : insertAt P kt k v kvs cl = some (kvs', cl')) {mem : List Blk} {b : Nat} (hm : mem[b]? = some (.map kvs cl)) :
  insertV P mem T (.mp b) (.sc k) v = some (mem.set b (.map kvs' cl')) := by
 unfold insertV
 rw [hT.map]
 dsimp only
 rw [ht]
 dsimp only
 rw [if_pos (hT.ok k hk), hm]
 dsimp only
 rw [hi]
end
end Go.Eng
end

section
namespace Go.Eng
variable [Glob]
end Go.Eng
end

section
namespace Go.Proofs.YtpjdfcigadnhcaaGreatDoor
open Go.Eng
attribute [go_sem] runOps stepOp wantedV opV St.eval St.put absV cellsV oneV List.all_cons List.all_nil Bool.and_true Bool.true_and Bool.and_self Value.oneCell' if_true if_false setMem List.length_cons List.length_nil Nat.lt_irrefl List.nil_append List.cons_append List.append_nil List.set_cons_zero List.set_cons_succ List.getD_cons_zero List.getD_cons_succ litV tElem tSize seqParts litRows List.map_nil List.map_cons Nat.zero_mul fieldV tOff fieldAt loadV pickCells List.drop_zero List.drop_succ_cons List.take_succ_cons List.take_zero List.getElem?_cons_zero List.getElem?_cons_succ List.head?_cons Nat.zero_add Nat.add_zero Nat.zero_le Nat.le_refl true_and and_true and_self appendV liveRows rowsOf appOut Bool.false_eq_true lenV ev_add ev_sub ev_mul ev_lss ev_leq ev_gtr ev_geq ev_eql ev_neq ev_max ev_min ev_not convV_sc ev_seql ev_sneq ev_slss ev_sgtr Int.natCast_nonneg indexV indexAt Int.toNat_natCast V.cells intV cutV nilV calleeOf Option.map_some Option.map_none Option.bind_some List.size_toArray List.getElem?_toArray beq_self_eq_true decide_true decide_false Bool.not_true Bool.not_false nilLen sliceLen nilAns storeV spliceL pureCell rowV nilS rowOf sizeOfBlk ne_eq not_true_eq_false not_false_eq_true buildV fillL V.sc.injEq Value.bool.injEq memAfter_nil List.flatMap_cons List.flatMap_nil ref1 refCell ev_ft ev_tf ev_len1 ev_len2 ev_len3 gnCmp tt1 tt2 tt3 tt4 tt5 tt6 tt7 tt8 tt9 tt10 tt11 tt12 tt13 tt14 tt15 tt16 tt17 tt18 tt19 tt20 tt21 tt22 tt23 tt24 tt25 tt26 tt27 tt28 tt29 tt30 tt31 tt32 tt33 tt34 tt35 tt36 tt37 tt38 tt39 tt40 tt41 tt42 tt43 tt44 tt45 tt46 tt47 tt48 tt49 tt50 tt51 tt52 tt53 tt55 tt56 tt57 tt58 tt59 tt60 tt61 tt62 tt63 tt64 tt65 tt66 tt67 tt68 tt69 tt70 tt71 tt72 tt73 tt74 tt75 tt76 tt77 tt78 tt79 tt80 tt81 tt82 tt83 tt84 tt85 tt86 tt87 tt88 tt89 tt90 tt91 tt92 tt93 tt94 tt95 tt96 tt97 tt98 tt99 tt100 tt101 tt102 tt103 tt104 tt105 tt106 tt107 tt108 tt109 tt110 tt111 tt112 tt113 tt114 tt115 tt116 tt117 tt118 tt119 tt120 tt121 tt122 tt123 tt124 tt125 tt126 tt127 tt128 tt129 tt130 runX stepD callT runOpsW wantedW gT gRead wr_set wr_getD wr_get wr_length lkF purL pur1 purCells purCell runM stepM valD val1 newBlk wOut sOut isHole maskB mask1 Blk.ver callLD
end Go.Proofs.YtpjdfcigadnhcaaGreatDoor
end

section
namespace Go.Eng
variable [Glob]
section
variable {P : Program} {ρ : Option Nat} {n0 : Nat} {c : Code} {st : St} {Q : Exit → St → Prop}
theorem set_same {α : Type} {l : List α} {t : Nat} {x : α} (h : l[t]? = some x) : l.set t x = l := by
 apply List.ext_getElem?
 intro i
 rw [List.getElem?_set]
 split
 ·rename_i hi; subst hi
  rw [if_pos (List.getElem?_eq_some_iff.1 h).1, h]
 ·rfl
theorem Sim.boxNil {E : Env} {w : World} {a : Act} (hs : Sim E w a st) {k j : Nat} {cs : List V} (hk : st.mem[k]? = some (.box cs)) (hj : cs[j]? = some (.sc (.slice none 0 0))) (b v : Nat) : Sim E w a { st with mem := st.mem.set k (.box (cs.set j (.ms b v 0 0))) } := by
 have hlt := (List.getElem?_eq_some_iff.1 hk).1
 refine ⟨hs.F, hs.lt, fun k' B hB => ?_, fun k' hk' => hs.top k' (by simpa using hk'), fun k' B hB v hv => ?_, hs.apart, hs.fr⟩
 ·rw [List.getElem?_set] at hB
  split at hB
  ·rename_i he; subst he
   cases hB
   obtain ⟨g, T, xs, hb, hh, hr, hf⟩ := hs.mem k _ hk
   refine ⟨g, T, xs, hb, hh, ?_, hf⟩
   obtain ⟨x, hx, hrx⟩ := hr.get hj
   have hxv := rep_sc hrx
   subst hxv
   have := RepL.set (n := j) hr (Rep.msnil E b v 0)
   rwa [set_same hx] at this
  ·exact hs.mem k' B hB
 ·rw [List.getElem?_set] at hB
  split at hB
  ·rename_i he; subst he
   cases hB
   exact hs.ver k _ hk v hv
  ·exact hs.ver k' B hB v hv
theorem tri_nilBox {cs : List V} (k j v e : Nat) (hk : st.mem[k]? = some (.box cs)) (hj : cs[j]? = some (.sc (.slice none 0 0))) (h : Tri P ρ n0 c { fr := st.fr, mem := st.mem.set k (.box (cs.set j (.ms st.mem.length v 0 0))) ++ [.rows v e []] } Q) : Tri P ρ n0 c st Q :=
 tri_weak (fun E w a hs => (hs.boxNil hk hj st.mem.length v).nilRowsV v e) h
end
end Go.Eng
end

section
namespace Go.Eng
variable [Glob]
open Go.RowKit (Below)
theorem Sim.below {E : Env} {w w' : World} {a : Act} {st : St} (hs : Sim E w a st) (hb : Below w.heap.size w w') : Sim E w' a st ∧ Evo E w E w' := by
 refine ⟨⟨fun ad y hy => ?_, fun k v g e c h => Nat.lt_of_lt_of_le (hs.lt _ _ _ _ _ h) hb.size, fun k B hk => ?_, hs.top, hs.ver, hs.apart, hs.fr⟩,
  ⟨E.le_refl, fun k v g e c h => .inl ⟨k, v, e, c, h⟩, fun _ _ h => .inl h, hb.os, hb.tape, hb.output, hb.size, fun b hlt _ => hb.block b hlt⟩⟩
 ·rw [hb.cell (World.block_lt_of_cell? w ad (hs.F ad y hy))]; exact hs.F ad y hy
 ·exact (hs.mem k B hk).mono E.le_refl (fun _ h => h) (fun g e c h => hb.block _ (hs.lt _ _ _ _ _ h)) fun _ _ _ _ _ h => h
theorem Sim.adopt {E : Env} {w w' : World} {a : Act} {m : List Blk} {fr : List V} (hs : Sim E w a { fr := fr, mem := m }) (hb : Below w.heap.size w w') {g e c : Nat} (hg : w.heap.size ≤ g) (hg2 : g < w'.heap.size) {B : Blk} (hv0 : B.ver = 0)
  (hB : BlkOk (E.with m.length 0 (g, e, c)) w' m.length B) : Sim (E.with m.length 0 (g, e, c)) w' a { fr := fr, mem := m ++ [B] } ∧ Evo E w (E.with m.length 0 (g, e, c)) w' := by
 obtain ⟨hs', hev⟩ := hs.below hb
 have hnone : ∀ v, E.blk m.length v = none := hs.top _ (Nat.le_refl _)
 have hle := Env.le_with (hnone 0) (g, e, c)
 have hblk : ∀ k v, ¬ (k = m.length ∧ v = 0) → (E.with m.length 0 (g, e, c)).blk k v = E.blk k v := fun k v hne => if_neg hne
 have hkey : (E.with m.length 0 (g, e, c)).blk m.length 0 = some (g, e, c) := if_pos ⟨rfl, rfl⟩
 have hnk : ∀ k v, k ≠ m.length → (E.with m.length 0 (g, e, c)).blk k v = E.blk k v := fun k v hne => hblk k v fun h => hne h.1
 have get : ∀ {k : Nat} {B' : Blk}, (m ++ [B])[k]? = some B' → (k ≠ m.length ∧ m[k]? = some B') ∨ (k = m.length ∧ B' = B) := fun {k B'} h => by
  rcases Nat.lt_trichotomy k m.length with h1 | h1 | h1
  ·rw [List.getElem?_append_left h1] at h; exact .inl ⟨by omega, h⟩
  ·subst h1; rw [List.getElem?_append_right (Nat.le_refl _), Nat.sub_self] at h; cases h; exact .inr ⟨rfl, rfl⟩
  ·rw [List.getElem?_eq_none (by simp; omega)] at h; cases h
 refine ⟨⟨fun ad x hx => hs'.F _ _ hx, fun k v g' e' c' hk => ?_, fun k B' hB' => ?_, fun k hk' v => ?_, fun k B' hB' v hv => ?_, ?_, hs'.fr.mono hle⟩, ⟨hle, fun k v g' e' c' hk => ?_, fun ad x hx => .inl hx, hb.os, hb.tape, hb.output, hb.size, fun b hlt _ => hb.block b hlt⟩⟩
 ·by_cases hkk : k = m.length ∧ v = 0
  ·obtain ⟨rfl, rfl⟩ := hkk; rw [hkey] at hk; cases hk; exact hg2
  ·rw [hblk k v hkk] at hk; exact hs'.lt _ _ _ _ _ hk
 ·rcases get hB' with ⟨hkk, h⟩ | ⟨rfl, rfl⟩
  ·exact (hs'.mem k B' h).mono hle (fun v h => by rw [hnk k v hkk]; exact h) (fun _ _ _ _ => rfl) fun _ _ _ _ _ h => h
  ·exact hB
 ·dsimp only at hk'
  simp only [List.length_append,List.length_cons,List.length_nil] at hk'
  rw [hnk k v (by omega)]; exact hs'.top k (by dsimp only; omega) v
 ·rcases get hB' with ⟨hkk, h⟩ | ⟨rfl, rfl⟩
  ·rw [hnk k v hkk]; exact hs'.ver k B' h v hv
  ·rw [hblk _ v (by omega)]; exact hnone v
 ·intro k k' v v' g1 e1 c1 e2 c2 h5 h6
  by_cases hkk : k = m.length ∧ v = 0 <;> by_cases hkk' : k' = m.length ∧ v' = 0
  ·rw [hkk.1, hkk'.1]
  ·obtain ⟨rfl, rfl⟩ := hkk; rw [hkey] at h5; cases h5; rw [hblk k' _ hkk'] at h6; have := hs.lt _ _ _ _ _ h6; omega
  ·obtain ⟨rfl, rfl⟩ := hkk'; rw [hkey] at h6; cases h6; rw [hblk k _ hkk] at h5; have := hs.lt _ _ _ _ _ h5; omega
  ·rw [hblk k _ hkk] at h5; rw [hblk k' _ hkk'] at h6
   exact hs'.apart _ _ _ _ _ _ _ _ _ h5 h6
 ·by_cases hkk : k = m.length ∧ v = 0
  ·obtain ⟨rfl, rfl⟩ := hkk; rw [hkey] at hk; cases hk; exact .inr hg
  ·rw [hblk k v hkk] at hk; exact .inl ⟨_, _, _, _, hk⟩
end Go.Eng
end

section
namespace Go.Eng
variable [Glob]
def clearV (tt : Table) (mem : List Blk) (ts : List TypeId) (xs : List V) : Option (List Blk) :=
 match ts, xs with
 | [t], [.ms b v s n] => match tt t with
  | some iT => match iT.elem with
   | some e => match tt e with
    | some i => match mem[b]? with
     | some (.rows v' e' rs) => if v' = v ∧ e' = i.size ∧ i.zero.length = i.size ∧ i.zero.all (fun z => z.oneCell') = true ∧ 0 < n ∧ rs.length = s + n then some (mem.set b (.rows v' e' (rs.take s))) else none
     | _ => none
    | none => none
   | none => none
  | none => none
 | _, _ => none
theorem clearV_sound {P : Program} {tt : Table} (ht : TT P tt) {E : Env} {w : World} {a : Act} {st : St} (hs : Sim E w a st) {ts : Array TypeId} {ty : TypeId} {xs : List V} {ys : Array Value} {mem' : List Blk} (hx : RepL E xs ys.toList)
  (h : clearV tt st.mem ts.toList xs = some mem') : ∃ w', (Builtin.clear_ ts ty ys).run P w = .ok (.tuple #[]) w' ∧ Sim E w' a { st with mem := mem' } ∧ Evo E w E w' := by
 unfold clearV at h
 split at h
 ·rename_i t b v s n hts
  obtain ⟨y, zs, hys, hr, hz⟩ := hx.of_cons
  have hzs := hz.of_nil
  subst hzs
  obtain rfl : ys = #[y] := by rw [← Array.toArray_toList (xs := ys), hys]
  obtain rfl : ts = #[t] := by rw [← Array.toArray_toList (xs := ts), hts]
  split at h
  ·rename_i iT hT
   split at h
   ·rename_i e he
    split at h
    ·rename_i i hi
     split at h
     ·rename_i v' e' rs hm
      split at h
      ·rename_i hc
       obtain ⟨rfl, rfl, hzl, hone, hn, hlen⟩ := hc
       cases h
       obtain ⟨d, hd, -, hsl, -⟩ := ht.desc t iT hT
       obtain rfl := hsl e he
       obtain ⟨info, hi1, hi2, hi3, z, hz, hzz⟩ := ht.size e i hi
       have hzsz : z.cells.size = i.size := by rw [← hzl, ← hzz]; simp
       rcases hs.mem b _ hm with ⟨hnil, -⟩ | ⟨g, T, cs, c, hblk, hh, hcs, hlc, hrows, hF⟩
       ·subst hnil; simp at hlen; omega
       obtain ⟨cap, rfl⟩ : ∃ cap, y = .slice (some ⟨g, s * i.size, none⟩) n cap := by
        cases hr with
        | ms _ _ _ _ _ g' e' c' a cap hb' hl' h0' hc' =>
         rw [hblk] at hb'; cases hb'
         rw [hl' hn]; exact ⟨cap, rfl⟩
        | msnil => omega
       obtain ⟨vs, hvs⟩ : ∃ vs, vs = (Builtin.zeroCells z.cells n).toList := ⟨_, rfl⟩
       have hvl : vs.length = n * i.size := by rw [hvs]; simp [Builtin.zeroCells, hzsz]
       have hv1 : ∀ x ∈ vs, x.oneCell' = true := fun x hx => by
        rw [hvs] at hx
        simp only [Builtin.zeroCells,Array.toList_map,List.mem_map,Array.toList_range,List.mem_range] at hx
        obtain ⟨k, hk, rfl⟩ := hx
        have hpos : 0 < z.cells.size := by
         rcases Nat.eq_zero_or_pos z.cells.size with h0 | h0
         ·rw [h0] at hk; simp at hk
         ·exact h0
        have hlt : k % z.cells.size < z.cells.size := Nat.mod_lt _ hpos
        rw [getElem!_pos z.cells _ hlt]
        refine List.all_eq_true.1 hone _ ?_
        rw [← hzz]
        simp
       have hb1 : s * i.size + 0 + vs.length ≤ cs.size := by
        rw [hvl, hcs, Nat.add_zero, ← Nat.add_mul]
        exact Nat.mul_le_mul_right _ (by omega)
       obtain ⟨w', h1, h2, h3⟩ := run_storeCells_own (P := P) (s * i.size) vs 0 w cs hh hb1 hv1
       have hB : BlkOk E w' b (.rows v' i.size (rs.take s)) := by
        refine .inr ⟨g, T, _, c, hblk, h2, by rw [spliceA_size]; exact hcs, by rw [List.length_take]; omega, fun k row hk => ?_, hF⟩
        have hks : k < s := by
         have := (List.getElem?_eq_some_iff.1 hk).1
         rw [List.length_take] at this; omega
        rw [List.getElem?_take_of_lt hks] at hk
        obtain ⟨r1, r2⟩ := hrows k row hk
        refine ⟨r1, fun j cc hj => ?_⟩
        obtain ⟨x, hx, hx1, hx2⟩ := r2 j cc hj
        refine ⟨x, ?_, hx1, hx2⟩
        show (spliceA cs (s * i.size + 0) vs)[k * i.size + j]? = some x
        have hx : cs[k * i.size + j]? = some x := hx
        rw [spliceA_get _ _ _ _ hb1, if_neg, hx]
        have hje : j < i.size := by rw [← r1]; exact (List.getElem?_eq_some_iff.1 hj).1
        have : (k + 1) * i.size ≤ s * i.size := Nat.mul_le_mul_right _ hks
        rw [Nat.add_mul] at this
        omega
       obtain ⟨h4, h5⟩ := hs.turn (B' := .rows v' i.size (rs.take s)) hm rfl rfl hblk hF h3 hB
       refine ⟨w', ?_, h4, h5⟩
       have hzv : (zeroValue e).run P w = .ok z w := by simp [zeroValue, run_typeInfoP hi1, hz]
       obtain ⟨m, rfl⟩ : ∃ m, n = m + 1 := ⟨n - 1, by omega⟩
       rw [hvs] at h1
       simp [Builtin.clear_, run_underlyingP hd, hzv, h1]
      ·cases h
     ·cases h
    ·cases h
   ·cases h
  ·cases h
 ·cases h
section
variable {P : Program} {tt : Table} {ρ : Option Nat} {n0 : Nat} {st : St} {Q : Exit → St → Prop}
theorem runOps_sound1 (ht : TT P tt) {n : Nat} {all : Array Oper} {o : Oper} {R : St → Prop} {Q' : Exit → Act → World → Prop} : ∀ (suf pre : List Oper), all.toList = pre ++ (suf ++ [o]) →
  ∀ {E : Env} {w : World} {a : Act} {st : St}, Sim E w a st → runOps P tt all suf st R → (∀ E' w' a' st', a'.defers = a.defers → Sim E' w' a' st' → Evo E w E' w' → R st' → wpOpsIn (WF ρ) n P all Q' [pre.length + suf.length] a' w') → wpOpsIn (WF ρ) n P all Q' (List.range' pre.length (suf.length + 1)) a w := by
 intro suf
 induction suf with
 | nil => intro pre _ E w a st hs h hq; exact hq E w a st rfl hs (Evo.refl E w) h
 | cons o' r ih =>
  intro pre hall E w a st hs h hq
  have hget : all[pre.length]? = some o' := by
   rw [← Array.getElem?_toList, hall, List.getElem?_append_right (Nat.le_refl _)]; simp
  have hall' : all.toList = (pre ++ [o']) ++ (r ++ [o]) := by rw [hall]; simp
  have ih' := @ih (pre ++ [o']) hall'
  simp only [List.length_append,List.length_cons,List.length_nil,Nat.zero_add] at ih'
  have el : pre.length + (r.length + 1) = pre.length + 1 + r.length := by omega
  rw [List.length_cons, el] at hq
  rw [List.length_cons, List.range'_succ, wpOpsIn, hget]
  dsimp only
  simp only [runOps] at h
  split at h
  ·rename_i hw
   rw [if_pos (wantedV_sound hs hw)]
   refine stepOp_sound ht hs (.inr rfl) h ?_
   rintro v w' ⟨E', st', h1, h2, h3⟩
   exact ih' h1 h3 fun E'' w'' a'' st'' hd h4 h5 h6 => hq E'' w'' a'' st'' (hd.trans (put_defers _ _ _)) h4 (h2.trans h5) h6
  ·rename_i hw
   rw [if_neg (by rw [wantedV_sound hs hw]; simp)]
   exact ⟨fun _ _ => trivial, ih' (hs.put o'.dst (.sc _ _)) h fun E'' w'' a'' st'' hd h4 h5 h6 => hq E'' w'' a'' st'' (hd.trans (put_defers _ _ _)) h4 h5 h6⟩
  ·exact h.elim
theorem tri_seq_clear (ht : TT P tt) {id : Nat} {ops : Array Oper} {y : Code} (pre : List Oper) {dst : Option Tmp} {ty : TypeId} {pos : String} {after : Array Edge} {ts : Array TypeId} {xs : Array Operand}
  (hops : ops.toList = pre ++ [⟨dst, .call { callee := .builtin .clear, args := xs, argTypes := ts }, ty, pos, after, none⟩])
  (h : runOps P tt ops pre st fun st1 => ∃ mem', clearV tt st1.mem ts.toList (xs.toList.map st1.eval) = some mem' ∧ Tri P ρ n0 y ({ st1 with mem := mem' }.put dst (.sc (.tuple #[]))) Q) : Tri P ρ n0 (.seq (.region id ops false) y) st Q := by
 refine tri_seq fun E0 w0 h0 E w a he hs hm => ?_
 refine wpIn_region ?_
 have hsz : ops.size = pre.length + 1 := by rw [← Array.length_toList, hops]; simp
 rw [List.range_eq_range', hsz]
 refine runOps_sound1 ht pre [] (by rw [hops]; rfl) hs h fun E' w' a' st' hd h1 h2 ⟨mem', h3, h4⟩ => ?_
 have hget : ops[0 + pre.length]? = some ⟨dst, .call { callee := .builtin .clear, args := xs, argTypes := ts }, ty, pos, after, none⟩ := by
  rw [← Array.getElem?_toList, hops, Nat.zero_add, List.getElem?_append_right (Nat.le_refl _)]; simp
 obtain ⟨w'', h5, h6, h7⟩ := clearV_sound (ty := ty) ht h1 (h1.evals xs) h3
 show wpOpsIn _ _ _ _ _ [0 + pre.length] a' w'
 rw [wpOpsIn, hget]
 dsimp only
 rw [if_pos (by rfl)]
 refine upon_value' (by rintro c ⟨⟩) (v := .tuple #[]) (w' := w'') ?_ ?_
 ·simp only [execOp,resolve,Sem.run_bind,Sem.run_pure,Result.andThen_ok,invoke,builtin,h5]
 ·exact ⟨E', _, h6.put dst (.sc _ _), he.trans (h2.trans h7), by rw [put_defers, hd]; exact hm.evo (h2.trans h7), h4⟩
end
end Go.Eng
end

section
namespace Go.Eng
variable [Glob]
theorem FnOkS.pick {P : Program} {f : FuncId} {vs : List V} {k v e n : Nat} {rs : List V} {mem' : List Blk} (h : FnOkS P f vs [] (.ms k v 0 n) mem') (hk : mem'[k]? = some (.rows v e rs)) : FnOkS P f vs [] (.ms 0 v 0 n) [.rows v e rs] := by
 refine ⟨h.1, fun E w xs hs hx => (h.2 E w xs hs hx).mono ?_⟩
 rintro r w' ⟨E', x, rfl, hev, hs', hr⟩
 have hE0 : ∀ k v, E.blk k v = none := fun k v => hs.top k (Nat.zero_le _) v
 obtain ⟨E2, hE2⟩ : ∃ E2 : Env, E2 = { F := E'.F, blk := fun k' v' => if k' = 0 ∧ v' = v then E'.blk k v else none, gl := E'.gl } := ⟨_, rfl⟩
 have eF : E2.F = E'.F := by rw [hE2]
 have eb : ∀ k' v', E2.blk k' v' = if k' = 0 ∧ v' = v then E'.blk k v else none := fun k' v' => by rw [hE2]
 have ep : E2.pure = E'.pure := Env.ext2 eF rfl
 have inv : ∀ k' v' t, E2.blk k' v' = some t → k' = 0 ∧ v' = v ∧ E'.blk k v = some t := fun k' v' t ht => by
  rw [eb] at ht
  split at ht
  ·rename_i hc; exact ⟨hc.1, hc.2, ht⟩
  ·cases ht
 refine ⟨E2, x, rfl, ⟨⟨fun ad y hy => by rw [eF]; exact hev.le.F ad y hy, fun k' v' t ht => by rw [hE0] at ht; cases ht⟩, fun k' v' g e' c hh => ?_, fun ad y hy => ?_, hev.os, hev.tape, hev.output, hev.size, hev.heap⟩, ⟨fun ad y hy => ?_, fun k' v' g e' c hh => ?_, fun k' B hB => ?_, fun k' hk' v' => ?_, fun k' B hB v' hv' => ?_, fun k1 k2 v1 v2 g e' c e2 c2 q1 q2 => ?_, .nil _⟩, ?_⟩
 ·obtain ⟨-, -, h3⟩ := inv _ _ _ hh
  exact hev.blk _ _ _ _ _ h3
 ·rw [eF] at hy; exact hev.F ad y hy
 ·rw [eF] at hy; exact hs'.F ad y hy
 ·obtain ⟨-, -, h3⟩ := inv _ _ _ hh
  exact hs'.lt _ _ _ _ _ h3
 ·match k', hB with
  | 0, hB =>
   cases hB
   rcases hs'.mem k _ hk with ⟨h1, h2⟩ | ⟨g, T, ys, c, h1, h2, h3, h4, h5, h6⟩
   ·exact .inl ⟨h1, by rw [eb, if_pos ⟨rfl, rfl⟩]; exact h2⟩
   ·exact .inr ⟨g, T, ys, c, by rw [eb, if_pos ⟨rfl, rfl⟩]; exact h1, h2, h3, h4, by rw [ep]; exact h5, fun o => by rw [eF]; exact h6 o⟩
  | k' + 1, hB => simp at hB
 ·rw [eb, if_neg (fun hc => by simp at hk'; omega)]
 ·match k', hB with
  | 0, hB =>
   cases hB
   have hv' : v < v' := hv'
   rw [eb, if_neg (fun hc => by omega)]
  | k' + 1, hB => simp at hB
 ·obtain ⟨h1, -, -⟩ := inv _ _ _ q1
  obtain ⟨h2, -, -⟩ := inv _ _ _ q2
  rw [h1, h2]
 ·cases hr with
  | ms _ _ _ _ _ g e' c a cap hb hl h0 hc => exact .ms _ _ _ _ _ g e' c a cap (by rw [eb, if_pos ⟨rfl, rfl⟩]; exact hb) hl h0 hc
  | msnil => exact .msnil _ _ _ _
end Go.Eng
end
