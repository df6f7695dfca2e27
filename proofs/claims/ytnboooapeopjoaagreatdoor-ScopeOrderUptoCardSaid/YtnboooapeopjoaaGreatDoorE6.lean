/-
  THE ENGINE, W: cuts in regions, and frames that are written lazily: a region's writes are kept as a list, and only what is read behind the region is laid into the frame.
  THE ENGINE, X: outcomes that the data settle: a form of Tri under which cases may be made while the code is walked, and a result need not be named ahead.
  THE ENGINE, Y: regions that draw their order, with outcomes that the data settle.
  THE ENGINE, Z: loops over families of states; regions by the plain run.
  THE ENGINE, MP: maps with keys that are compared at once: what reading and writing come to.
  THE ENGINE, AG: two contracts of one call speak of one result; stores of which one map alone counts.
-/
import Derived.Test.YtnboooapeopjoaaGreatDoorE5
import Derived.Lib.Agree
set_option linter.all false
section
namespace Go.Eng
variable [aA]
theorem yd {P : Program} {tt : Table} {all : Array Oper} {K : St → Prop} : ∀ (k : Nat) (l : List Oper) (st : St), dc P tt all (l.take k) st (fun s => dc P tt all (l.drop k) s K) = dc P tt all l st K
 | 0, l, st => rfl
 | k + 1, [], st => rfl
 | k + 1, o :: r, st => by
  have ih := fun s => yd (P := P) (tt := tt) (all := all) (K := K) k r s
  simp only [List.take_succ_cons,List.drop_succ_cons,dc,ih]

def BZ (t : Nat) (b : V) : List (Nat × V) → V
 | [] => b
 | p :: ws => if p.1 = t then p.2 else BZ t b ws
def wr (n : Nat) (l : List V) (ws : List (Nat × V)) : List V := (List.range n).map fun i => BZ i (l.getD i .undef) ws
theorem pg (n : Nat) (l : List V) (ws : List (Nat × V)) (t : Nat) : (wr n l ws)[t]? = if t < n then some (BZ t (l.getD t .undef) ws) else none := by
 unfold wr
 rw [List.getElem?_map]
 by_cases h : t < n
 ·rw [if_pos h, List.getElem?_range h]; rfl
 ·rw [if_neg h, List.getElem?_eq_none (by simp; omega)]; rfl
theorem Mr (n : Nat) (l : List V) (ws : List (Nat × V)) (t : Nat) : (wr n l ws).getD t .undef = if t < n then BZ t (l.getD t .undef) ws else .undef := by
 rw [List.getD_eq_getElem?_getD, pg]; split <;> rfl
theorem rS (n : Nat) (l : List V) (ws : List (Nat × V)) : (wr n l ws).length = n := by simp [wr]
theorem P2 (n : Nat) (l : List V) (ws : List (Nat × V)) (d : Nat) (v : V) : (wr n l ws).set d v = wr n l ((d, v) :: ws) := by
 apply List.ext_getElem?
 intro i
 rw [List.getElem?_set, pg, pg, rS]
 simp only [BZ]
 by_cases h : d = i
 ·subst h; simp
 ·simp [h]
theorem Ib {n : Nat} {l : List V} (h : l.length = n) : wr n l [] = l := by
 apply List.ext_getElem?
 intro i
 rw [pg]
 simp only [BZ]
 split
 ·rename_i hi
  rw [List.getD_eq_getElem?_getD, List.getElem?_eq_getElem (by omega)]; rfl
 ·rw [List.getElem?_eq_none (by omega)]
def qv (ws : List (Nat × V)) : Nat → List Nat → List V → List V
 | _, _, [] => []
 | _, [], v :: l => v :: l
 | i, c :: cs, v :: l => (match c with | 0 => v | 1 => .undef | _ => BZ i v ws) :: qv ws (i + 1) cs l
def nz (cs : List Nat) (ws : List (Nat × V)) : Bool := ws.all fun p => match cs[p.1]? with | some 0 => false | none => false | _ => true
theorem As {t : Nat} {b : V} : ∀ {ws : List (Nat × V)}, (∀ p ∈ ws, p.1 ≠ t) → BZ t b ws = b
 | [], _ => rfl
 | p :: ws, h => by
  simp only [BZ,if_neg (h p (by simp))]
  exact As fun q hq => h q (by simp [hq])
theorem me {cs : List Nat} {ws : List (Nat × V)} (h : nz cs ws = true) {i : Nat} (hi : cs[i]? = some 0 ∨ cs[i]? = none) (b : V) : BZ i b ws = b := by
 refine As fun p hp e => ?_
 have := List.all_eq_true.1 h p hp
 rw [e] at this
 rcases hi with hi | hi <;> rw [hi] at this <;> cases this
theorem ye (ws : List (Nat × V)) : ∀ (l : List V) (cs : List Nat) (k i : Nat), (qv ws k cs l)[i]? = l[i]?.map fun v => match cs[i]? with | none => v | some 0 => v | some 1 => .undef | _ => BZ (k + i) v ws
 | [], cs, k, i => by simp [qv]
 | v :: l, [], k, i => by simp [qv]
 | v :: l, c :: cs, k, 0 => by
  simp only [qv,List.getElem?_cons_zero,Option.map_some,Nat.add_zero]
  rcases c with _ | _ | c <;> rfl
 | v :: l, c :: cs, k, i + 1 => by
  simp only [qv,List.getElem?_cons_succ]
  rw [ye ws l cs (k + 1) i, show k + 1 + i = k + (i + 1) by omega]
theorem Ic {ws : List (Nat × V)} {l : List V} {cs : List Nat} (hk : nz cs ws = true) {i : Nat} {v : V} (h : (qv ws 0 cs l)[i]? = some v) : v = .undef ∨ (wr l.length l ws)[i]? = some v := by
 rw [ye, Option.map_eq_some_iff] at h
 obtain ⟨b, hb, hv⟩ := h
 have hi := (List.getElem?_eq_some_iff.1 hb).1
 have hd : l.getD i .undef = b := by rw [List.getD_eq_getElem?_getD, hb]; rfl
 rw [pg, if_pos hi, hd]
 rw [Nat.zero_add] at hv
 revert hv
 cases hc : cs[i]? with
 | none => intro hv; right; rw [me hk (.inr hc)]; exact congrArg some hv
 | some c =>
  rcases c with _ | _ | c
  ·intro hv; right; rw [me hk (.inl hc)]; exact congrArg some hv
  ·intro hv; left; exact hv.symm
  ·intro hv; right; exact congrArg some hv
theorem uJ (ws : List (Nat × V)) : ∀ (l : List V) (cs : List Nat) (k : Nat), (qv ws k cs l).length = l.length
 | [], cs, k => by simp [qv]
 | v :: l, [], k => by simp [qv]
 | v :: l, c :: cs, k => by simp [qv, uJ ws l cs (k + 1)]
theorem Ms {E : Env} {ws : List (Nat × V)} {l : List V} {cs : List Nat} {xs : List Value} (hk : nz cs ws = true) (h : bo E (wr l.length l ws) xs) : bo E (qv ws 0 cs l) xs := by
 refine ⟨by rw [uJ, ← h.1, rS], fun i v x hv hx => ?_⟩
 rcases Ic hk hv with rfl | h1
 ·exact .undef _ _
 ·exact h.2 i v x h1 hx
theorem P3 {ws : List (Nat × V)} {l : List V} {cs : List Nat} (hk : nz cs ws = true) (h1 : cs.all (· != 1) = true) : qv ws 0 cs l = wr l.length l ws := by
 apply List.ext_getElem?
 intro i
 rw [ye, pg]
 by_cases hi : i < l.length
 ·rw [if_pos hi, List.getElem?_eq_getElem hi, Option.map_some]
  have hd : l.getD i .undef = l[i] := by rw [List.getD_eq_getElem?_getD, List.getElem?_eq_getElem hi]; rfl
  rw [hd, Nat.zero_add]
  congr 1
  cases hc : cs[i]? with
  | none => exact (me hk (.inr hc) _).symm
  | some c =>
   rcases c with _ | _ | c
   ·exact (me hk (.inl hc) _).symm
   ·have := List.all_eq_true.1 h1 1 (List.mem_of_getElem? hc)
    simp at this
   ·rfl
 ·rw [if_neg hi, List.getElem?_eq_none (show l.length ≤ i by omega)]; rfl

def gT (j : Nat) : List (Nat × Nat) → Option Nat
 | [] => none
 | p :: r => if p.1 = j then some p.2 else gT j r
def P4 (all : Array Oper) (gl : List (Nat × Nat)) : Bool := gl.all fun p => (match (all[p.1]?).bind (·.dst) with | some d => decide (d = p.2) | none => false)
def Ie (want : Bool) : Option V → Option Bool
 | some (.sc (.bool b)) => some (b == want)
 | some (.sc _) => some false
 | some _ => none
 | none => some false
def og (gl : List (Nat × Nat)) (all : Array Oper) (fr : List V) (o : Oper) : Option Bool :=
 match o.guard with
 | none => some true
 | some (j, want) => match gT j gl with
  | none => df all fr o
  | some d => Ie want fr[d]?
theorem Oe {all : Array Oper} : ∀ {gl : List (Nat × Nat)}, P4 all gl = true → ∀ {j d : Nat}, gT j gl = some d → (all[j]?).bind (·.dst) = some d
 | [], _, j, d, h => by cases h
 | p :: r, hg, j, d, h => by
  have h1 := List.all_eq_true.1 hg p (by simp)
  simp only [gT] at h
  split at h
  ·rename_i e
   cases h
   rw [e] at h1
   cases hd : (all[j]?).bind (·.dst) with
   | none => rw [hd] at h1; cases h1
   | some d => rw [hd] at h1; exact congrArg some (of_decide_eq_true h1)
  ·exact Oe (List.all_eq_true.2 fun q hq => List.all_eq_true.1 hg q (by simp [hq])) h
theorem CP {all : Array Oper} {gl : List (Nat × Nat)} (hg : P4 all gl = true) (fr : List V) (o : Oper) : og gl all fr o = df all fr o := by
 unfold og
 cases ho : o.guard with
 | none => unfold df; rw [ho]
 | some g =>
  obtain ⟨j, want⟩ := g
  simp only
  cases ht : gT j gl with
  | none => rfl
  | some d =>
   have := Oe hg ht
   unfold df
   rw [ho]
   simp only [this]
   unfold Ie
   cases fr[d]? with
   | none => rfl
   | some v =>
    cases v with
    | sc x => cases x <;> rfl
    | _ => rfl
def dg (P : Program) (tt : Table) (gl : List (Nat × Nat)) (all : Array Oper) : List Oper → St → (St → Prop) → Prop
 | [], st, Q => Q st
 | o :: r, st, Q => match og gl all st.fr o with
  | some true => bP P tt st.mem.length o st fun st' => dg P tt gl all r st' Q
  | some false => dg P tt gl all r (st.put o.dst (.sc undef)) Q
  | none => False
@[congr] theorem Lw {P : Program} {tt : Table} {gl : List (Nat × Nat)} {all : Array Oper} {l l' : List Oper} {st st' : St} {Q : St → Prop} (hl : l = l') (h : st = st') : dg P tt gl all l st Q = dg P tt gl all l' st' Q := by rw [hl, h]
theorem ph {P : Program} {tt : Table} {gl : List (Nat × Nat)} {all : Array Oper} (hg : P4 all gl = true) {Q : St → Prop} : ∀ (l : List Oper) (st : St), dg P tt gl all l st Q = dc P tt all l st Q
 | [], st => rfl
 | o :: r, st => by
  have ih := fun s => ph (P := P) (tt := tt) (Q := Q) hg r s
  simp only [dg,dc,CP hg,ih]
  rfl
theorem oO {P : Program} {tt : Table} {gl : List (Nat × Nat)} {all : Array Oper} {K : St → Prop} : ∀ (k : Nat) (l : List Oper) (st : St), dg P tt gl all (l.take k) st (fun s => dg P tt gl all (l.drop k) s K) = dg P tt gl all l st K
 | 0, l, st => rfl
 | k + 1, [], st => rfl
 | k + 1, o :: r, st => by
  have ih := fun s => oO (P := P) (tt := tt) (gl := gl) (all := all) (K := K) k r s
  simp only [List.take_succ_cons,List.drop_succ_cons,dg,ih]
theorem jz {P : Program} {tt : Table} {gl : List (Nat × Nat)} {all : Array Oper} (k : Nat) {l : List Oper} {st : St} {K : St → Prop}
  (h : ∀ K1 : St → Prop, (∀ s, dg P tt gl all (l.drop k) s K → K1 s) → dg P tt gl all (l.take k) st K1) : dg P tt gl all l st K := by
 rw [← oO k]
 exact h _ fun _ h => h
section
variable {P : Program} {tt : Table} {ρ : Option Nat} {n0 : Nat} {Q : Exit → St → Prop} {l : List V} {mem : List aC}
theorem Mt {c : Code} {cs : List Nat} {ws : List (Nat × V)} (hk : nz cs ws = true) (h : cD P ρ n0 c { fr := qv ws 0 cs l, mem := mem } Q) : cD P ρ n0 c { fr := wr l.length l ws, mem := mem } Q :=
 nj (st' := { fr := qv ws 0 cs l, mem := mem }) (fun E w a hs => ⟨hs.F, hs.lt, hs.mem, hs.top, hs.b7, hs.apart, Ms hk hs.fr⟩) h
theorem je (ht : TT P tt) (n : Nat) (cs : List Nat) (gl : List (Nat × Nat)) (hn : l.length = n) {id : Nat} {ops : Array Oper} {y : Code} (hg : P4 ops gl = true)
  (h : ∀ K : St → Prop, (∀ ws aQ, nz cs ws = true → cD P ρ n0 y { fr := qv ws 0 cs l, mem := aQ } Q → K { fr := wr n l ws, mem := aQ }) → dg P tt gl ops ops.toList { fr := wr n l [], mem := mem } K) :
  cD P ρ n0 (.seq (.region id ops false) y) { fr := l, mem := mem } Q := by
 subst hn
 refine ai ht fun K hK => ?_
 have := h K fun ws aQ hk ht => hK _ (Mt hk ht)
 rw [ph hg, Ib rfl] at this
 exact this
theorem qw (ht : TT P tt) (n : Nat) (cs : List Nat) (gl : List (Nat × Nat)) (hn : l.length = n) (h1 : cs.all (· != 1) = true) {id : Nat} {ops : Array Oper} (hg : P4 ops gl = true)
  (h : ∀ K : St → Prop, (∀ ws aQ, nz cs ws = true → Q .normal { fr := qv ws 0 cs l, mem := aQ } → K { fr := wr n l ws, mem := aQ }) → dg P tt gl ops ops.toList { fr := wr n l [], mem := mem } K) :
  cD P ρ n0 (.region id ops false) { fr := l, mem := mem } Q := by
 subst hn
 refine aK ht fun K hK => ?_
 have := h K fun ws aQ hk ht => hK _ (by rw [← P3 hk h1]; exact ht)
 rw [ph hg, Ib rfl] at this
 exact this
end
attribute [irreducible] dg
end Go.Eng
end

section
namespace Go.Eng
variable [aA]
def Ex (P : Program) (ρ : Option Nat) (n0 : Nat) (c : Code) (st : St) (Q : Exit → St → Prop) : Prop :=
  ∃ (e : Exit) (s : St), Q e s ∧ ∀ Q' : Exit → St → Prop, Q' e s → cD P ρ n0 c st Q'
section
variable {P : Program} {tt : Table} {ρ : Option Nat} {n0 : Nat} {st : St} {Q : Exit → St → Prop}
theorem Ex.mono {c : Code} {Q2 : Exit → St → Prop} (h : Ex P ρ n0 c st Q) (hq : ∀ e s, Q e s → Q2 e s) : Ex P ρ n0 c st Q2 := by
  obtain ⟨e, s, h1, h⟩ := h
  exact ⟨e, s, hq _ _ h1, h⟩
theorem yf (h : Q .normal st) : Ex P ρ n0 .skip st Q := ⟨_, _, h, fun _ h => bn h⟩
theorem Ig (h : Q .ret st) : Ex P ρ n0 .ret st Q := ⟨_, _, h, fun _ h => aY h⟩
theorem Er {id : Nat} (h : Q (.exit id) st) : Ex P ρ n0 (.exit id) st Q := ⟨_, _, h, fun _ h => dy h⟩
theorem uK {x y : Code} (h : Ex P ρ n0 x st (dV (fun st' => Ex P ρ n0 y st' Q) Q)) : Ex P ρ n0 (.seq x y) st Q := by
  obtain ⟨e, s, hq, h⟩ := h
  cases e with
  | normal =>
    obtain ⟨e2, s2, O9, h2⟩ := hq
    exact ⟨e2, s2, O9, fun Q' h' => aS (h _ (h2 Q' h'))⟩
  | _ => exact ⟨_, s, hq, fun Q' h' => aS (h (dV (fun st' => cD P ρ n0 y st' Q') Q') h')⟩
theorem Es {c : Operand} {x y : Code} {b : Bool} (hc : st.eval c = .sc (.bool b)) (h : Ex P ρ n0 (if b = true then x else y) st Q) : Ex P ρ n0 (.cond c x y) st Q := by
  obtain ⟨e, s, hq, h⟩ := h
  exact ⟨e, s, hq, fun Q' h' => aL hc (h Q' h')⟩
theorem TW {c : Operand} {x y : Code} {b : Bool} (hc : st.eval c = .sc (.bool b)) (h1 : b = true → Ex P ρ n0 x st Q) (h2 : b = false → Ex P ρ n0 y st Q) : Ex P ρ n0 (.cond c x y) st Q := by
  refine Es hc ?_
  cases b with
  | true => exact h1 rfl
  | false => exact h2 rfl
theorem uL {id : Nat} {c : Code} (h : Ex P ρ n0 c st (fR id Q)) : Ex P ρ n0 (.block id c) st Q := by
  obtain ⟨e, s, hq, h⟩ := h
  cases e with
  | exit j =>
    by_cases hj : j = id
    · simp only [fR,if_pos hj] at hq
      exact ⟨_, s, hq, fun Q' h' => bf (h (fR id Q') (by simpa only [fR, if_pos hj] using h'))⟩
    · simp only [fR,if_neg hj] at hq
      exact ⟨_, s, hq, fun Q' h' => bf (h (fR id Q') (by simpa only [fR, if_neg hj] using h'))⟩
  | _ => exact ⟨_, s, hq, fun Q' h' => bf (h (fR id Q') h')⟩
theorem CQ {c : Code} {m : Nat} {Q' : Exit → St → Prop} (n : Nat) (mk : List Bool) (hn : n0 ≤ n) (hf : (bc mk st.fr).all (au n) = true) (hm : (st.mem.take n).all (az n) = true)
    (h : iD P ρ n0 c m { fr := bc mk st.fr, mem := st.mem.take n } Q') : iD P ρ n0 c m st Q' := by
  cases m with
  | zero => exact h.elim
  | succ m => exact qc n mk hn hf hm h
theorem At {c : Code} (I : Nat → St → Prop) (N : Nat) (h0 : zQ n0 st (I N))
    (step : ∀ n st, I n st → Ex P ρ n0 c st (dV (fun st' => ∃ k, k < n ∧ zQ n0 st' (I k)) Q)) : Ex P ρ n0 (.loop c) st Q := by
  have key : ∀ (n : Nat) (st : St), I n st → ∃ (e : Exit) (s : St), Q e s ∧ ∀ Q' : Exit → St → Prop, Q' e s → ∃ m, iD P ρ n0 c m st Q' := by
    intro n
    induction n using Nat.strongRecOn with
    | _ n ih =>
      intro st hI
      obtain ⟨e, s, hq, h⟩ := step n st hI
      cases e with
      | normal =>
        obtain ⟨k, hk, n1, mk, h1, h2, h3, h4⟩ := hq
        obtain ⟨e2, s2, O9, h5⟩ := ih k hk _ h4
        refine ⟨e2, s2, O9, fun Q' h' => ?_⟩
        obtain ⟨m, h6⟩ := h5 Q' h'
        exact ⟨m + 1, h _ (CQ n1 mk h1 h2 h3 h6)⟩
      | _ => exact ⟨_, s, hq, fun Q' h' => ⟨1, h (dV (fun st' => iD P ρ n0 c 0 st' Q') Q') h'⟩⟩
  obtain ⟨n1, mk, h1, h2, h3, h4⟩ := h0
  obtain ⟨e, s, hq, h⟩ := key N _ h4
  exact ⟨e, s, hq, fun Q' h' => qc n1 mk h1 h2 h3 (zR (h Q' h'))⟩

def Au (P : Program) (f : FuncId) (vs vs' : List V) (keys : List (Nat × Nat)) (st : St) (dst : Option Tmp) (Q : St → Prop) : Prop :=
  ∃ v, (aT P f vs' v ∧ Q ({ st with mem := bx st.mem keys v }.put dst v)) ∨ (m9 P f vs v ∧ Q (st.put dst v)) ∨ ∃ m', aF P f vs st.mem v m' ∧ Q ({ st with mem := m' }.put dst v)
def Of (P : Program) (f : FuncId) (vs : List V) (st : St) (dst : Option Tmp) (Q : St → Prop) : Prop :=
  ∃ v m', aF P f vs st.mem v m' ∧ Q ({ st with mem := m' }.put dst v)
def Et (P : Program) (f : FuncId) (vs : List V) (st : St) (dst : Option Tmp) (Q : St → Prop) : Prop :=
  match dq st.mem vs with
  | some vs' => Au P f vs vs' (vs.flatMap cL) st dst Q
  | none => Of P f vs st dst Q
@[congr] theorem Og {f f' : FuncId} {us Hu vs vs' : List V} {keys Oh : List (Nat × Nat)} {st st' : St} {dst : Option Tmp} {Q : St → Prop} (hf : f = f') (hu : us = Hu) (hv : vs = vs') (hk : keys = Oh) (h : st = st') : Au P f us vs keys st dst Q = Au P f' Hu vs' Oh st' dst Q := by rw [hf, hu, hv, hk, h]
def jS (P : Program) (tt : Table) (key : Nat) (o : Oper) (st : St) (Q : St → Prop) : Prop :=
  match o.op with
  | .alloc T => match tt T with
    | some i => Q ({ st with mem := bO st.mem key (.box (i.zero.map V.sc)) }.put o.dst (.ptr key 0))
    | none => False
  | .box _ x => match iB (st.eval x) with
    | some cs => Q ({ st with mem := bO st.mem key (.box cs) }.put o.dst (.ptr key 0))
    | none => False
  | .build T parts => match jG P tt T parts.toList st.eval with
    | some v => Q (st.put o.dst v)
    | none => False
  | .buildSlice T len parts => match rE tt T len parts.toList st.eval with
    | some (size, rs) => Q ({ st with mem := bO st.mem key (.rows 0 size rs) }.put o.dst (.ms key 0 0 len))
    | none => False
  | .store T p x => match jF tt st.mem T (st.eval p) (st.eval x) with
    | some aQ => Q ({ st with mem := aQ }.put o.dst (.sc undef))
    | none => False
  | .call c => match c.callee with
    | .value f => match bD (st.eval f) (c.args.toList.map st.eval) with
      | some (g, vs) => Et P g vs st o.dst Q
      | none => False
    | .builtin .append => match c.args.toList.map st.eval with
      | [s, x] => match eK tt st.mem c.argTypes.toList s x with
        | some (size, o4, rows) => Q ({ st with mem := (dt st.mem key size rows o4).1 }.put o.dst (dt st.mem key size rows o4).2)
        | none => False
      | _ => False
    | .builtin .len => match iJ P tt st o with
      | some v => Q (st.put o.dst v)
      | none => False
    | .builtin .max => match iJ P tt st o with
      | some v => Q (st.put o.dst v)
      | none => False
    | .builtin .min => match iJ P tt st o with
      | some v => Q (st.put o.dst v)
      | none => False
    | _ => False
  | .makeMap _ none => Q ({ st with mem := bO st.mem key (.map [] 0) }.put o.dst (.mp key))
  | .makeSlice T l c => match sy tt T (st.eval l) (st.eval c) with
    | some (size, rs, _) => Q ({ st with mem := bO st.mem key (.rows 0 size rs) }.put o.dst (.ms key 0 0 rs.length))
    | none => False
  | .mapUpdate T m k x => match bX P st.mem T (st.eval m) (st.eval k) (st.eval x) with
    | some aQ => Q ({ st with mem := aQ }.put o.dst (.sc undef))
    | none => False
  | .insert T m k x => match bX P st.mem T (st.eval m) (st.eval k) (st.eval x) with
    | some aQ => Q ({ st with mem := aQ }.put o.dst (.sc undef))
    | none => False
  | .binOp op T x y _ => match k7 tt op T (st.eval x) (st.eval y) with
    | some _ => False
    | none => match iJ P tt st o with
      | some v => Q (st.put o.dst v)
      | none => False
  | .move _ => match iJ P tt st o with
    | some v => Q (st.put o.dst v)
    | none => False
  | .assign _ => match iJ P tt st o with
    | some v => Q (st.put o.dst v)
    | none => False
  | .pick _ _ _ => match iJ P tt st o with
    | some v => Q (st.put o.dst v)
    | none => False
  | .load _ _ => match iJ P tt st o with
    | some v => Q (st.put o.dst v)
    | none => False
  | .nilCheck _ => match iJ P tt st o with
    | some v => Q (st.put o.dst v)
    | none => False
  | .unOp _ _ _ => match iJ P tt st o with
    | some v => Q (st.put o.dst v)
    | none => False
  | .convert _ _ _ => match iJ P tt st o with
    | some v => Q (st.put o.dst v)
    | none => False
  | .makeFunc _ _ _ => match iJ P tt st o with
    | some v => Q (st.put o.dst v)
    | none => False
  | .slice _ _ _ _ _ => match iJ P tt st o with
    | some v => Q (st.put o.dst v)
    | none => False
  | .fieldAddr _ _ _ => match iJ P tt st o with
    | some v => Q (st.put o.dst v)
    | none => False
  | .indexAddr _ _ _ => match iJ P tt st o with
    | some v => Q (st.put o.dst v)
    | none => False
  | .field _ _ _ => match iJ P tt st o with
    | some v => Q (st.put o.dst v)
    | none => False
  | .index _ _ _ => match iJ P tt st o with
    | some v => Q (st.put o.dst v)
    | none => False
  | .extract _ _ => match iJ P tt st o with
    | some v => Q (st.put o.dst v)
    | none => False
  | .lookup _ _ _ _ => match iJ P tt st o with
    | some v => Q (st.put o.dst v)
    | none => False
  | _ => False
@[congr] theorem Oi {key TX : Nat} {o : Oper} {st st' : St} {Q : St → Prop} (hk : key = TX) (h : st = st') : jS P tt key o st Q = jS P tt TX o st' Q := by rw [hk, h]
theorem Ih {key : Nat} {o : Oper} {Q : St → Prop} (h : jS P tt key o st Q) : ∃ s, Q s ∧ ∀ K : St → Prop, K s → bP P tt key o st K := by
  obtain ⟨dst, op, type, pos, after, guard⟩ := o
  cases op
  case call c =>
    obtain ⟨callee, args, ats⟩ := c
    cases callee
    case value f =>
      simp only [jS] at h
      split at h
      · rename_i g vs hg
        unfold Et at h
        split at h
        · rename_i vs' hp
          obtain ⟨v, ⟨h1, h2⟩ | ⟨h1, h2⟩ | ⟨m', h1, h2⟩⟩ := h
          · refine ⟨_, h2, fun K hK => ?_⟩
            simp only [bP]
            split
            · rename_i k hy; rw [hy] at hg; simp [bD] at hg
            · rw [hg]; exact .inl ⟨vs', v, hp, h1, hK⟩
          · refine ⟨_, h2, fun K hK => ?_⟩
            simp only [bP]
            split
            · rename_i k hy; rw [hy] at hg; simp [bD] at hg
            · rw [hg]; exact .inr (.inr (.inr ⟨v, h1, hK⟩))
          · refine ⟨_, h2, fun K hK => ?_⟩
            simp only [bP]
            split
            · rename_i k hy; rw [hy] at hg; simp [bD] at hg
            · rw [hg]; exact .inr (.inl ⟨v, m', h1, hK⟩)
        · obtain ⟨v, m', h1, h2⟩ := h
          refine ⟨_, h2, fun K hK => ?_⟩
          simp only [bP]
          split
          · rename_i k hy; rw [hy] at hg; simp [bD] at hg
          · rw [hg]; exact .inr (.inl ⟨v, m', h1, hK⟩)
      · exact h.elim
    case builtin b =>
      cases b
      case append =>
        simp only [jS] at h
        split at h
        · rename_i s x LU
          split at h
          · rename_i size o4 rows ha
            refine ⟨_, h, fun K hK => ?_⟩
            simp only [bP,LU,ha]
            exact hK
          · exact h.elim
        · exact h.elim
      all_goals first
        | exact h.elim
        | (simp only [jS] at h
           split at h
           · rename_i v hv
             refine ⟨_, h, fun K hK => ?_⟩
             simp only [bP,hv]
             exact hK
           · exact h.elim)
    all_goals exact h.elim
  case binOp =>
    simp only [jS] at h
    split at h
    · exact h.elim
    · rename_i hn
      split at h
      · rename_i v hv
        refine ⟨_, h, fun K hK => ?_⟩
        simp only [bP,hn,hv]
        exact hK
      · exact h.elim
  case buildSlice =>
    simp only [jS] at h
    split at h
    · rename_i size rs hl
      refine ⟨_, h, fun K hK => ?_⟩
      simp only [bP,hl]
      exact hK
    · exact h.elim
  case store =>
    simp only [jS] at h
    split at h
    · rename_i m hl
      refine ⟨_, h, fun K hK => ?_⟩
      simp only [bP,hl]
      exact hK
    · exact h.elim
  case makeSlice T l c =>
    simp only [jS] at h
    split at h
    · rename_i size rs c' hl
      refine ⟨_, h, fun K hK => ?_⟩
      simp only [bP,hl]
      exact hK
    · exact h.elim
  case makeMap T l =>
    cases l with
    | none => exact ⟨_, h, fun K hK => hK⟩
    | some l => exact h.elim
  all_goals first
    | exact h.elim
    | (simp only [jS] at h
       split at h
       · rename_i v hv
         refine ⟨_, h, fun K hK => ?_⟩
         simp only [bP,hv]
         exact hK
       · exact h.elim)
def nA (P : Program) (tt : Table) (gl : List (Nat × Nat)) (all : Array Oper) : List Oper → St → (St → Prop) → Prop
  | [], st, Q => Q st
  | o :: r, st, Q => match og gl all st.fr o with
    | some true => jS P tt st.mem.length o st fun st' => nA P tt gl all r st' Q
    | some false => nA P tt gl all r (st.put o.dst (.sc undef)) Q
    | none => False
@[congr] theorem P5 {gl : List (Nat × Nat)} {all : Array Oper} {l l' : List Oper} {st st' : St} {Q : St → Prop} (hl : l = l') (h : st = st') : nA P tt gl all l st Q = nA P tt gl all l' st' Q := by rw [hl, h]
theorem tv {gl : List (Nat × Nat)} {all : Array Oper} {Q : St → Prop} : ∀ (l : List Oper) (st : St), nA P tt gl all l st Q → ∃ s, Q s ∧ ∀ K : St → Prop, K s → dg P tt gl all l st K
  | [], st, h => ⟨st, h, fun K hK => by rw [dg]; exact hK⟩
  | o :: r, st, h => by
    rw [nA] at h
    split at h
    · rename_i hw
      obtain ⟨s, h1, h2⟩ := Ih h
      obtain ⟨s2, h3, h4⟩ := tv r s h1
      exact ⟨s2, h3, fun K hK => by rw [dg, hw]; exact h2 _ (h4 K hK)⟩
    · rename_i hw
      obtain ⟨s2, h3, h4⟩ := tv r _ h
      exact ⟨s2, h3, fun K hK => by rw [dg, hw]; exact h4 K hK⟩
    · exact h.elim
theorem uM {gl : List (Nat × Nat)} {all : Array Oper} {K : St → Prop} : ∀ (k : Nat) (l : List Oper) (st : St), nA P tt gl all (l.take k) st (fun s => nA P tt gl all (l.drop k) s K) = nA P tt gl all l st K
  | 0, l, st => rfl
  | k + 1, [], st => rfl
  | k + 1, o :: r, st => by
    have ih := fun s => uM (gl := gl) (all := all) (K := K) k r s
    simp only [List.take_succ_cons,List.drop_succ_cons,nA,ih]
theorem Ii {gl : List (Nat × Nat)} {all : Array Oper} (k : Nat) {l : List Oper} {st : St} {K : St → Prop}
    (h : ∀ K1 : St → Prop, (∀ s, nA P tt gl all (l.drop k) s K → K1 s) → nA P tt gl all (l.take k) st K1) : nA P tt gl all l st K := by
  rw [← uM k]
  exact h _ fun _ h => h
theorem Ij {R : V → Prop} {f : FuncId} {vs vs' : List V} {keys : List (Nat × Nat)} {dst : Option Tmp} {Q : St → Prop} (hr : ∃ v, R v ∧ aT P f vs' v) (h : ∀ v, R v → Q ({ st with mem := bx st.mem keys v }.put dst v)) : Au P f vs vs' keys st dst Q := by
  obtain ⟨v, h1, h2⟩ := hr
  exact ⟨v, .inl ⟨h2, h v h1⟩⟩
theorem Ik {f : FuncId} {fn : Func} {ext : Array Value → Sem Value} (hf : P.funcs[f]? = some fn) (hn : (fn.name == "runtime.NumGoroutine") = false) (hb : fn.body = none) (H6 : Extern.findNext fn = none) (zb : Extern.find fn = some ext)
    {vs : List V} {l : List Value} (hl : kY vs = some l) {v : Value} (dE : ∀ w, (ext l.toArray).run P w = .ok v w) : m9 P f vs (gO v) := fun E w xs hF hx => by
  have rq := lU hx hl
  refine ⟨v, ?_, gC E v⟩
  have hr := dE w
  rw [← rq] at hr
  simp only [callFunc,program,Sem.run_bind]
  show (match P.funcs[f]? with | none => _ | some fn => _ : Sem Next).run P w = _
  rw [hf]
  dsimp only
  rw [hn, hb]
  simp only [Bool.false_eq_true,if_false,Option.isNone_none,if_true,H6,zb,Sem.run_bind,mark,Sem.run,Result.andThen_ok]
  have Cm : (ext xs).run P w = .ok v w := by simpa using hr
  rw [Cm]; rfl
theorem im (ht : TT P tt) (n : Nat) (cs : List Nat) (gl : List (Nat × Nat)) {l : List V} {mem : List aC} (hn : l.length = n) {id : Nat} {ops : Array Oper} {y : Code} (hg : P4 ops gl = true)
    (h : ∀ K : St → Prop, (∀ ws aQ, nz cs ws = true → Ex P ρ n0 y { fr := qv ws 0 cs l, mem := aQ } Q → K { fr := wr n l ws, mem := aQ }) → nA P tt gl ops ops.toList { fr := wr n l [], mem := mem } K) :
    Ex P ρ n0 (.seq (.region id ops false) y) { fr := l, mem := mem } Q := by
  obtain ⟨s, ⟨ws, aQ, rfl, hk, e, s2, hq, h2⟩, hr⟩ := tv _ _ (h (fun s => ∃ ws aQ, s = { fr := wr n l ws, mem := aQ } ∧ nz cs ws = true ∧ Ex P ρ n0 y { fr := qv ws 0 cs l, mem := aQ } Q) fun ws aQ hk he => ⟨ws, aQ, rfl, hk, he⟩)
  exact ⟨e, s2, hq, fun Q' h' => je ht n cs gl hn hg fun K hK => hr K (hK ws aQ hk (h2 Q' h'))⟩
theorem lM (ht : TT P tt) (n : Nat) (cs : List Nat) (gl : List (Nat × Nat)) {l : List V} {mem : List aC} (hn : l.length = n) (h1 : cs.all (· != 1) = true) {id : Nat} {ops : Array Oper} (hg : P4 ops gl = true)
    (h : ∀ K : St → Prop, (∀ ws aQ, nz cs ws = true → Q .normal { fr := qv ws 0 cs l, mem := aQ } → K { fr := wr n l ws, mem := aQ }) → nA P tt gl ops ops.toList { fr := wr n l [], mem := mem } K) :
    Ex P ρ n0 (.region id ops false) { fr := l, mem := mem } Q := by
  obtain ⟨s, ⟨ws, aQ, rfl, hk, hq⟩, hr⟩ := tv _ _ (h (fun s => ∃ ws aQ, s = { fr := wr n l ws, mem := aQ } ∧ nz cs ws = true ∧ Q .normal { fr := qv ws 0 cs l, mem := aQ }) fun ws aQ hk he => ⟨ws, aQ, rfl, hk, he⟩)
  exact ⟨.normal, _, hq, fun Q' h' => qw ht n cs gl hn h1 hg fun K hK => hr K (hK ws aQ hk h')⟩
attribute [irreducible] nA
theorem TY {P : Program} {tt : Table} (ht : TT P tt) {R : V → Prop} {f : FuncId} {fn : Func} {body : Code} {args : List V} (hf : P.funcs[f]? = some fn) (hb : fn.body = some body)
    (dz : ∀ (xs : Array Value) (w : World), (callFunc f xs).run P w = .ok (.enter f xs) w)
    (h : Ex P none 0 body (bA fn args []) fun ex st' => (ex = .ret ∨ ex = .normal) ∧ ∃ r, R r ∧ qb tt fn.results st' = some r) : ∃ r, R r ∧ aT P f args r := by
  obtain ⟨e, s, ⟨h1, r, hr, h2⟩, h3⟩ := h
  exact ⟨r, hr, iS ht hf hb dz (h3 _ ⟨h1, h2⟩)⟩
def pj : List V → List Nat → List V → List V
  | l, t :: ts, v :: vs => pj (l.set t v) ts vs
  | l, _, _ => l
def intOf : V → Int
  | .sc (.int _ n) => n
  | _ => 0
theorem Il {P : Program} {ρ : Option Nat} {n0 : Nat} {Q : Exit → St → Prop} {c : Code} {l : List V} {mem : List aC} (ts : List Nat) (Lx : List V) (n : Nat) (m : List Bool) (μ : List V → Nat) (Inv : List V → Prop)
    (hn : n0 ≤ n) (hf : (bc m l).all (au n) = true) (hm : (mem.take n).all (az n) = true)
    (h0 : pj (bc m l) ts Lx = bc m l) (hi : Inv Lx)
    (step : ∀ vs, Inv vs → Ex P ρ n0 c { fr := pj (bc m l) ts vs, mem := mem.take n }
      (dV (fun st' => ∃ vs', Inv vs' ∧ μ vs' < μ vs ∧ zQ n0 st' (fun s => s = { fr := pj (bc m l) ts vs', mem := mem.take n })) Q)) : Ex P ρ n0 (.loop c) { fr := l, mem := mem } Q := by
  refine At (fun k s => ∃ vs : List V, Inv vs ∧ k = μ vs ∧ s = { fr := pj (bc m l) ts vs, mem := mem.take n }) (μ Lx) ⟨n, m, hn, hf, hm, Lx, hi, rfl, by rw [h0]⟩ ?_
  rintro k s ⟨vs, hv, rfl, rfl⟩
  refine (step vs hv).mono fun e s' h => ?_
  cases e with
  | normal =>
    obtain ⟨vs', h4, h5, n1, m1, h6, h7, h8, h9⟩ := h
    exact ⟨μ vs', h5, n1, m1, h6, h7, h8, vs', h4, rfl, h9⟩
  | _ => exact h
end
end Go.Eng
end

section
namespace Go.Eng
variable [aA]
section
variable {P : Program} {tt : Table} {ρ : Option Nat} {n0 : Nat} {Q : Exit → St → Prop}
theorem FE {o : Oper} {st : St} {Q : St → Prop} (h : lC P o st Q) : ∃ s, Q s ∧ ∀ K : St → Prop, K s → lC P o st K := by
 unfold lC at h
 split at h
 ·rename_i f xs heq
  split at h
  ·rename_i g vs hg
   obtain ⟨vs', r, h1, h2, h3⟩ := h
   refine ⟨_, h3, fun K hK => ?_⟩
   unfold lC
   rw [heq]
   dsimp only
   rw [hg]
   exact ⟨vs', r, h1, h2, hK⟩
  ·exact h.elim
 ·exact h.elim
theorem tz {all : Array Oper} {base : Nat} {Q : St → Prop} : ∀ (l : List Oper) (ps : List Pl) (st : St), runM P tt all base l ps st Q → ∃ s, Q s ∧ ∀ K : St → Prop, K s → runM P tt all base l ps st K
 | [], ps, st, h => ⟨st, h, fun K hK => hK⟩
 | o :: r, [], st, h => h.elim
 | o :: r, p :: ps, st, h => by
  rw [runM] at h
  by_cases hz : p.cls = .z
  ·unfold dW at h
   split at h
   ·rename_i hw
    rw [hz] at h
    obtain ⟨s0, h1, h2⟩ := FE h
    obtain ⟨s, h3, h4⟩ := tz r ps _ h1
    exact ⟨s, h3, fun K hK => by rw [runM]; unfold dW; simp only [hw,hz]; exact h2 _ (h4 K hK)⟩
   ·rename_i hw
    obtain ⟨s, h3, h4⟩ := tz r ps _ h
    exact ⟨s, h3, fun K hK => by rw [runM]; unfold dW; simp only [hw]; exact h4 K hK⟩
   ·exact h.elim
  ·obtain ⟨v, m, h1, h2⟩ := (fC hz).1 h
   obtain ⟨s, h3, h4⟩ := tz r ps _ h2
   exact ⟨s, h3, fun K hK => by rw [runM]; exact (fC hz).2 ⟨v, m, h1, h4 K hK⟩⟩
end
end Go.Eng
end

section
namespace Go.Eng
variable [aA]
section
variable {P : Program} {tt : Table} {ρ : Option Nat} {n0 : Nat} {Q : Exit → St → Prop}
end
end Go.Eng
end

section
namespace Go.Eng
variable [aA]
theorem nB (n : Nat) (cs : List V) : az n (.box cs) = cs.all (au n) := rfl
theorem nC (n : Nat) (bV : List (Value × Nat × V)) (c : Nat) : az n (.map bV c) = bV.all fun e => au n e.2.2 := rfl
theorem kP (n v e : Nat) (rs : List V) : az n (.rows v e rs) = true := rfl
theorem nD (n v e : Nat) (rs : List V) : az n (.pV v e rs) = true := rfl
theorem kQ (n : Nat) : az n .dead = true := rfl
theorem kR (n : Nat) : az n .hole = true := rfl
theorem wV (a b : ByteArray) : (a == b) = true ↔ a = b := by
 show ByteArray.beq a b = true ↔ _
 unfold ByteArray.beq
 constructor
 ·intro h
  have : a.data = b.data := by simpa using h
  exact ByteArray.ext this
 ·rintro rfl; simp
structure Mu (P : Program) (T kt et : TypeId) (K : Value → Prop) : Prop where
 map : eJ P T = some (kt, et)
 desc : ∃ d, P.underlying kt = some d ∧ ∀ a b, K a → K b → ∃ q : Bool, Instr.sameNow d a b = some q ∧ (q = true ↔ a = b)
 ok : ∀ a, K a → oK P kt a = true
 bits : ∀ a, K a → Instr.sameBits 10000 a a = true
def CR (k : IntKind) (v : Value) : Prop := ∃ n, v = .int k n
theorem Io {P : Program} {T kt et : TypeId} {k : IntKind} (h1 : eJ P T = some (kt, et)) (h2 : P.underlying kt = some (.int k)) : Mu P T kt et (CR k) := by
 refine ⟨h1, ⟨_, h2, ?_⟩, ?_, ?_⟩
 ·rintro _ _ ⟨a, rfl⟩ ⟨b, rfl⟩
  exact ⟨a == b, by simp [Instr.sameNow], by simp⟩
 ·rintro _ ⟨a, rfl⟩
  unfold oK
  rw [h2]
 ·rintro _ ⟨a, rfl⟩
  simp [Instr.sameBits]
section
variable {P : Program} {T kt et : TypeId} {K : Value → Prop}
theorem sU {d : TypeDesc} (hd : ∀ a b, K a → K b → ∃ q : Bool, Instr.sameNow d a b = some q ∧ (q = true ↔ a = b)) {k : Value} (hk : K k) : ∀ (bV : List (Value × Nat × V)) (n : Nat), (∀ e ∈ bV, K e.1) →
  (dO d k bV n = some none ∧ ∀ e ∈ bV, e.1 ≠ k) ∨ ∃ i e, bV[i]? = some e ∧ e.1 = k ∧ dO d k bV n = some (some (n + i, e.2.2))
 | [], n, _ => .inl ⟨rfl, by simp⟩
 | e :: r, n, h => by
  obtain ⟨q, h1, hq⟩ := hd k e.1 hk (h e (by simp))
  by_cases he : k = e.1
  ·refine .inr ⟨0, e, rfl, he.symm, ?_⟩
   rw [hq.2 he] at h1
   simp only [dO,h1,Nat.add_zero]
  ·obtain rfl : q = false := by cases q <;> first | rfl | exact absurd (hq.1 rfl) he
   rcases sU hd hk r (n + 1) (fun e' O4 => h e' (by simp [O4])) with ⟨h2, h3⟩ | ⟨i, e', h2, h3, h4⟩
   ·refine .inl ⟨?_, fun e' O4 => ?_⟩
    ·simp only [dO,h1]; exact h2
    ·rcases List.mem_cons.1 O4 with rfl | O4
     ·exact fun e => he e.symm
     ·exact h3 e' O4
   ·refine .inr ⟨i + 1, e', by simpa using h2, h3, ?_⟩
    simp only [dO,h1]
    rw [h4, show n + 1 + i = n + (i + 1) by omega]
theorem FF (hT : Mu P T kt et K) {k : Value} (hk : K k) (bV : List (Value × Nat × V)) (h : ∀ e ∈ bV, K e.1) :
  (lx P kt k bV = some none ∧ ∀ e ∈ bV, e.1 ≠ k) ∨ ∃ i e, bV[i]? = some e ∧ e.1 = k ∧ lx P kt k bV = some (some (i, e.2.2)) := by
 obtain ⟨d, hd, hs⟩ := hT.desc
 unfold lx
 rw [hd]
 dsimp only
 rcases sU hs hk bV 0 h with ⟨h1, h2⟩ | ⟨i, e, h1, h2, h3⟩
 ·rw [h1]; exact .inl ⟨rfl, h2⟩
 ·rw [h3]; exact .inr ⟨i, e, h1, h2, by simp⟩
theorem CS (hT : Mu P T kt et K) {k : Value} (hk : K k) (ht : dj (.sc k) = some k) {mem : List aC} {b : Nat} {bV : List (Value × Nat × V)} {cl : Nat} (hm : mem[b]? = some (.map bV cl)) (h : ∀ e ∈ bV, K e.1) {z : V} (hz : zeroV P et = some z) (ok : Bool) :
  (gb P mem T (.mp b) (.sc k) ok = some (Lk ok false z) ∧ ∀ e ∈ bV, e.1 ≠ k) ∨ ∃ e ∈ bV, e.1 = k ∧ gb P mem T (.mp b) (.sc k) ok = some (Lk ok true e.2.2) := by
 have hl : gb P mem T (.mp b) (.sc k) ok = ly P mem kt et (.mp b) k ok := by
  unfold gb
  rw [hT.map]
  dsimp only
  rw [ht]
  dsimp only
  rw [if_pos (hT.ok k hk)]
 rw [hl]
 unfold ly
 dsimp only
 rw [hm]
 dsimp only
 rcases FF hT hk bV h with ⟨h1, h2⟩ | ⟨i, e, h1, h2, h3⟩
 ·rw [h1]; dsimp only; rw [hz]; exact .inl ⟨rfl, h2⟩
 ·rw [h3]; exact .inr ⟨e, List.mem_of_getElem? h1, h2, rfl⟩
end
end Go.Eng
end

section
namespace Go.Eng
variable [aA]
end Go.Eng
end
