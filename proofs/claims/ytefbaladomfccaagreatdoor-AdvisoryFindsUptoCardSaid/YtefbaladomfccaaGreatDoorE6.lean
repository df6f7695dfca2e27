/-
  THE ENGINE, W: cuts in regions, and frames that are written lazily: a region's writes are kept as a list, and only what is read behind the region is laid into the frame.
  THE ENGINE, X: outcomes that the data settle: a form of Tri under which cases may be made while the code is walked, and a result need not be named ahead.
  THE ENGINE, Y: regions that draw their order, with outcomes that the data settle.
  THE ENGINE, Z: loops over families of states; regions by the plain run.
  THE ENGINE, MP: maps with keys that are compared at once: what reading and writing come to.
  THE ENGINE, AG: two contracts of one call speak of one result; stores of which one map alone counts.
-/
import Derived.Test.YtefbaladomfccaaGreatDoorE5
import Derived.Lib.Agree
set_option linter.all false
section
namespace Go.Eng
variable [aK]

def YW (t : Nat) (b : V) : List (Nat × V) → V
 | [] => b
 | p :: ws => if p.1 = t then p.2 else YW t b ws
def wr (n : Nat) (l : List V) (ws : List (Nat × V)) : List V := (List.range n).map fun i => YW i (l.getD i .undef) ws

def gT (j : Nat) : List (Nat × Nat) → Option Nat
 | [] => none
 | p :: r => if p.1 = j then some p.2 else gT j r
def Sr (want : Bool) : Option V → Option Bool
 | some (.sc (.bool b)) => some (b == want)
 | some (.sc _) => some false
 | some _ => none
 | none => some false
def wO (gl : List (Nat × Nat)) (all : Array Oper) (fr : List V) (o : Oper) : Option Bool :=
 match o.guard with
 | none => some true
 | some (j, want) => match gT j gl with
  | none => dq all fr o
  | some d => Sr want fr[d]?
def wP (P : Program) (tt : Table) (gl : List (Nat × Nat)) (all : Array Oper) : List Oper → St → (St → Prop) → Prop
 | [], st, Q => Q st
 | o :: r, st, Q => match wO gl all st.fr o with
  | some true => bI P tt st.mem.length o st fun st' => wP P tt gl all r st' Q
  | some false => wP P tt gl all r (st.put o.dst (.sc undef)) Q
  | none => False
section
variable {P : Program} {tt : Table} {ρ : Option Nat} {n0 : Nat} {Q : Exit → St → Prop} {l : List V} {mem : List aC}
end
attribute [irreducible] wP
end Go.Eng
end

section
namespace Go.Eng
variable [aK]
def Ex (P : Program) (ρ : Option Nat) (n0 : Nat) (c : Code) (st : St) (Q : Exit → St → Prop) : Prop :=
 ∃ (e : Exit) (s : St), Q e s ∧ ∀ Q' : Exit → St → Prop, Q' e s → dA P ρ n0 c st Q'
section
variable {P : Program} {tt : Table} {ρ : Option Nat} {n0 : Nat} {st : St} {Q : Exit → St → Prop}
theorem Ex.Mq {c : Code} (h : Ex P ρ n0 c st Q) : dA P ρ n0 c st Q := by
 obtain ⟨e, s, hq, h⟩ := h
 exact h Q hq
theorem Ex.mono {c : Code} {Q2 : Exit → St → Prop} (h : Ex P ρ n0 c st Q) (hq : ∀ e s, Q e s → Q2 e s) : Ex P ρ n0 c st Q2 := by
 obtain ⟨e, s, h1, h⟩ := h
 exact ⟨e, s, hq _ _ h1, h⟩
theorem C8 (h : Q .normal st) : Ex P ρ n0 .skip st Q := ⟨_, _, h, fun _ h => cq h⟩
theorem N8 (h : Q .ret st) : Ex P ρ n0 .ret st Q := ⟨_, _, h, fun _ h => fb h⟩
theorem Kv {id : Nat} (h : Q (.exit id) st) : Ex P ρ n0 (.exit id) st Q := ⟨_, _, h, fun _ h => ib h⟩
theorem Hg {x y : Code} (h : Ex P ρ n0 x st (ee (fun st' => Ex P ρ n0 y st' Q) Q)) : Ex P ρ n0 (.seq x y) st Q := by
 obtain ⟨e, s, hq, h⟩ := h
 cases e with
 | normal =>
  obtain ⟨e2, s2, Qq, h2⟩ := hq
  exact ⟨e2, s2, Qq, fun Q' h' => bN (h _ (h2 Q' h'))⟩
 | _ => exact ⟨_, s, hq, fun Q' h' => bN (h (ee (fun st' => dA P ρ n0 y st' Q') Q') h')⟩
theorem Kw {c : Operand} {x y : Code} {b : Bool} (hc : st.eval c = .sc (.bool b)) (h : Ex P ρ n0 (if b = true then x else y) st Q) : Ex P ρ n0 (.cond c x y) st Q := by
 obtain ⟨e, s, hq, h⟩ := h
 exact ⟨e, s, hq, fun Q' h' => bG hc (h Q' h')⟩
theorem Hh {id : Nat} {c : Code} (h : Ex P ρ n0 c st (eX id Q)) : Ex P ρ n0 (.block id c) st Q := by
 obtain ⟨e, s, hq, h⟩ := h
 cases e with
 | exit j =>
  by_cases hj : j = id
  ·simp only [eX,if_pos hj] at hq
   exact ⟨_, s, hq, fun Q' h' => b9 (h (eX id Q') (by simpa only [eX, if_pos hj] using h'))⟩
  ·simp only [eX,if_neg hj] at hq
   exact ⟨_, s, hq, fun Q' h' => b9 (h (eX id Q') (by simpa only [eX, if_neg hj] using h'))⟩
 | _ => exact ⟨_, s, hq, fun Q' h' => b9 (h (eX id Q') h')⟩

def Mr (P : Program) (f : FuncId) (vs vs' : List V) (keys : List (Nat × Nat)) (st : St) (dst : Option Tmp) (Q : St → Prop) : Prop :=
 ∃ v, (aR P f vs' v ∧ Q ({ st with mem := eH st.mem keys v }.put dst v)) ∨ (r8 P f vs v ∧ Q (st.put dst v)) ∨ ∃ m', bF P f vs st.mem v m' ∧ Q ({ st with mem := m' }.put dst v)
def Ms (P : Program) (f : FuncId) (vs : List V) (st : St) (dst : Option Tmp) (Q : St → Prop) : Prop :=
 ∃ v m', bF P f vs st.mem v m' ∧ Q ({ st with mem := m' }.put dst v)
def Mt (P : Program) (f : FuncId) (vs : List V) (st : St) (dst : Option Tmp) (Q : St → Prop) : Prop :=
 match dx st.mem vs with
 | some vs' => Mr P f vs vs' (vs.flatMap de) st dst Q
 | none => Ms P f vs st dst Q
def fZ (P : Program) (tt : Table) (key : Nat) (o : Oper) (st : St) (Q : St → Prop) : Prop :=
 match o.op with
 | .alloc T => match tt T with
  | some i => Q ({ st with mem := bj st.mem key (.box (i.zero.map V.sc)) }.put o.dst (.ptr key 0))
  | none => False
 | .box _ x => match fU (st.eval x) with
  | some cs => Q ({ st with mem := bj st.mem key (.box cs) }.put o.dst (.ptr key 0))
  | none => False
 | .build T parts => match iD P tt T parts.toList st.eval with
  | some v => Q (st.put o.dst v)
  | none => False
 | .buildSlice T len parts => match pH tt T len parts.toList st.eval with
  | some (size, rs) => Q ({ st with mem := bj st.mem key (.rows 0 size rs) }.put o.dst (.ms key 0 0 len))
  | none => False
 | .store T p x => match iC tt st.mem T (st.eval p) (st.eval x) with
  | some aF => Q ({ st with mem := aF }.put o.dst (.sc undef))
  | none => False
 | .call c => match c.callee with
  | .value f => match bw (st.eval f) (c.args.toList.map st.eval) with
   | some (g, vs) => Mt P g vs st o.dst Q
   | none => False
  | .builtin .append => match c.args.toList.map st.eval with
   | [s, x] => match dS tt st.mem c.argTypes.toList s x with
    | some (size, ka, rows) => Q ({ st with mem := (cK st.mem key size rows ka).1 }.put o.dst (cK st.mem key size rows ka).2)
    | none => False
   | _ => False
  | .builtin .len => match gp P tt st o with
   | some v => Q (st.put o.dst v)
   | none => False
  | .builtin .max => match gp P tt st o with
   | some v => Q (st.put o.dst v)
   | none => False
  | .builtin .min => match gp P tt st o with
   | some v => Q (st.put o.dst v)
   | none => False
  | _ => False
 | .makeMap _ none => Q ({ st with mem := bj st.mem key (.map [] 0) }.put o.dst (.mp key))
 | .makeSlice T l c => match nk tt T (st.eval l) (st.eval c) with
  | some (size, rs, _) => Q ({ st with mem := bj st.mem key (.rows 0 size rs) }.put o.dst (.ms key 0 0 rs.length))
  | none => False
 | .mapUpdate T m k x => match cD P st.mem T (st.eval m) (st.eval k) (st.eval x) with
  | some aF => Q ({ st with mem := aF }.put o.dst (.sc undef))
  | none => False
 | .insert T m k x => match cD P st.mem T (st.eval m) (st.eval k) (st.eval x) with
  | some aF => Q ({ st with mem := aF }.put o.dst (.sc undef))
  | none => False
 | .binOp op T x y _ => match j1 tt op T (st.eval x) (st.eval y) with
  | some _ => False
  | none => match gp P tt st o with
   | some v => Q (st.put o.dst v)
   | none => False
 | .move _ => match gp P tt st o with
  | some v => Q (st.put o.dst v)
  | none => False
 | .assign _ => match gp P tt st o with
  | some v => Q (st.put o.dst v)
  | none => False
 | .pick _ _ _ => match gp P tt st o with
  | some v => Q (st.put o.dst v)
  | none => False
 | .load _ _ => match gp P tt st o with
  | some v => Q (st.put o.dst v)
  | none => False
 | .nilCheck _ => match gp P tt st o with
  | some v => Q (st.put o.dst v)
  | none => False
 | .unOp _ _ _ => match gp P tt st o with
  | some v => Q (st.put o.dst v)
  | none => False
 | .convert _ _ _ => match gp P tt st o with
  | some v => Q (st.put o.dst v)
  | none => False
 | .makeFunc _ _ _ => match gp P tt st o with
  | some v => Q (st.put o.dst v)
  | none => False
 | .slice _ _ _ _ _ => match gp P tt st o with
  | some v => Q (st.put o.dst v)
  | none => False
 | .fieldAddr _ _ _ => match gp P tt st o with
  | some v => Q (st.put o.dst v)
  | none => False
 | .indexAddr _ _ _ => match gp P tt st o with
  | some v => Q (st.put o.dst v)
  | none => False
 | .field _ _ _ => match gp P tt st o with
  | some v => Q (st.put o.dst v)
  | none => False
 | .index _ _ _ => match gp P tt st o with
  | some v => Q (st.put o.dst v)
  | none => False
 | .extract _ _ => match gp P tt st o with
  | some v => Q (st.put o.dst v)
  | none => False
 | .lookup _ _ _ _ => match gp P tt st o with
  | some v => Q (st.put o.dst v)
  | none => False
 | _ => False
def N9 (P : Program) (tt : Table) (gl : List (Nat × Nat)) (all : Array Oper) : List Oper → St → (St → Prop) → Prop
 | [], st, Q => Q st
 | o :: r, st, Q => match wO gl all st.fr o with
  | some true => fZ P tt st.mem.length o st fun st' => N9 P tt gl all r st' Q
  | some false => N9 P tt gl all r (st.put o.dst (.sc undef)) Q
  | none => False
attribute [irreducible] N9
def intOf : V → Int
 | .sc (.int _ n) => n
 | _ => 0
end
end Go.Eng
end

section
namespace Go.Eng
variable [aK]
section
variable {P : Program} {tt : Table} {ρ : Option Nat} {n0 : Nat} {Q : Exit → St → Prop}
theorem ED {o : Oper} {st : St} {Q : St → Prop} (h : l4 P o st Q) : ∃ s, Q s ∧ ∀ K : St → Prop, K s → l4 P o st K := by
 unfold l4 at h
 split at h
 ·rename_i f xs heq
  split at h
  ·rename_i g vs hg
   obtain ⟨vs', r, h1, h2, h3⟩ := h
   refine ⟨_, h3, fun K hK => ?_⟩
   unfold l4
   rw [heq]
   dsimp only
   rw [hg]
   exact ⟨vs', r, h1, h2, hK⟩
  ·exact h.elim
 ·exact h.elim
theorem rB {all : Array Oper} {base : Nat} {Q : St → Prop} : ∀ (l : List Oper) (ps : List Pl) (st : St), runM P tt all base l ps st Q → ∃ s, Q s ∧ ∀ K : St → Prop, K s → runM P tt all base l ps st K
 | [], ps, st, h => ⟨st, h, fun K hK => hK⟩
 | o :: r, [], st, h => h.elim
 | o :: r, p :: ps, st, h => by
  rw [runM] at h
  by_cases hz : p.cls = .z
  ·unfold dV at h
   split at h
   ·rename_i hw
    rw [hz] at h
    obtain ⟨s0, h1, h2⟩ := ED h
    obtain ⟨s, h3, h4⟩ := rB r ps _ h1
    exact ⟨s, h3, fun K hK => by rw [runM]; unfold dV; simp only [hw,hz]; exact h2 _ (h4 K hK)⟩
   ·rename_i hw
    obtain ⟨s, h3, h4⟩ := rB r ps _ h
    exact ⟨s, h3, fun K hK => by rw [runM]; unfold dV; simp only [hw]; exact h4 K hK⟩
   ·exact h.elim
  ·obtain ⟨v, m, h1, h2⟩ := (eM hz).1 h
   obtain ⟨s, h3, h4⟩ := rB r ps _ h2
   exact ⟨s, h3, fun K hK => by rw [runM]; exact (eM hz).2 ⟨v, m, h1, h4 K hK⟩⟩
end
end Go.Eng
end

section
namespace Go.Eng
variable [aK]
section
variable {P : Program} {tt : Table} {ρ : Option Nat} {n0 : Nat} {Q : Exit → St → Prop}
end
end Go.Eng
end

section
namespace Go.Eng
variable [aK]
theorem kn (a b : ByteArray) : (a == b) = true ↔ a = b := by
 show ByteArray.beq a b = true ↔ _
 unfold ByteArray.beq
 constructor
 ·intro h
  have : a.data = b.data := by simpa using h
  exact ByteArray.ext this
 ·rintro rfl; simp
structure aaD (P : Program) (T kt et : TypeId) (K : Value → Prop) : Prop where
 map : dG P T = some (kt, et)
 desc : ∃ d, P.underlying kt = some d ∧ ∀ a b, K a → K b → ∃ q : Bool, Instr.sameNow d a b = some q ∧ (q = true ↔ a = b)
 ok : ∀ a, K a → nf P kt a = true
 bits : ∀ a, K a → Instr.sameBits 10000 a a = true
section
variable {P : Program} {T kt et : TypeId} {K : Value → Prop}
end
end Go.Eng
end

section
namespace Go.Eng
variable [aK]
end Go.Eng
end
