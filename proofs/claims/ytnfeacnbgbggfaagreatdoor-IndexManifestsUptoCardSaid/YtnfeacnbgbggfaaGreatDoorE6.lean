/-
  THE ENGINE, W: cuts in regions, and frames that are written lazily: a region's writes are kept as a list, and only what is read behind the region is laid into the frame.
  THE ENGINE, X: outcomes that the data settle: a form of Tri under which cases may be made while the code is walked, and a result need not be named ahead.
  THE ENGINE, Y: regions that draw their order, with outcomes that the data settle.
  THE ENGINE, Z: loops over families of states; regions by the plain run.
  THE ENGINE, MP: maps with keys that are compared at once: what reading and writing come to.
  THE ENGINE, AG: two contracts of one call speak of one result; stores of which one map alone counts.
-/
import Derived.Test.YtnfeacnbgbggfaaGreatDoorE5
import Derived.Lib.Agree
set_option linter.all false
section
namespace Go.Eng
variable [aE]

def XD (t : Nat) (b : V) : List (Nat × V) → V
 | [] => b
 | p :: ws => if p.1 = t then p.2 else XD t b ws
def wr (n : Nat) (l : List V) (ws : List (Nat × V)) : List V := (List.range n).map fun i => XD i (l.getD i .undef) ws

def gT (j : Nat) : List (Nat × Nat) → Option Nat
 | [] => none
 | p :: r => if p.1 = j then some p.2 else gT j r
def Su (want : Bool) : Option V → Option Bool
 | some (.sc (.bool b)) => some (b == want)
 | some (.sc _) => some false
 | some _ => none
 | none => some false
def wZ (gl : List (Nat × Nat)) (all : Array Oper) (fr : List V) (o : Oper) : Option Bool :=
 match o.guard with
 | none => some true
 | some (j, want) => match gT j gl with
  | none => cO all fr o
  | some d => Su want fr[d]?
def w5 (P : Program) (tt : Table) (gl : List (Nat × Nat)) (all : Array Oper) : List Oper → St → (St → Prop) → Prop
 | [], st, Q => Q st
 | o :: r, st, Q => match wZ gl all st.fr o with
  | some true => bx P tt st.mem.length o st fun st' => w5 P tt gl all r st' Q
  | some false => w5 P tt gl all r (st.put o.dst (.sc undef)) Q
  | none => False
section
variable {P : Program} {tt : Table} {ρ : Option Nat} {n0 : Nat} {Q : Exit → St → Prop} {l : List V} {mem : List au}
end
attribute [irreducible] w5
end Go.Eng
end

section
namespace Go.Eng
variable [aE]
def Ex (P : Program) (ρ : Option Nat) (n0 : Nat) (c : Code) (st : St) (Q : Exit → St → Prop) : Prop :=
 ∃ (e : Exit) (s : St), Q e s ∧ ∀ Q' : Exit → St → Prop, Q' e s → gA P ρ n0 c st Q'
section
variable {P : Program} {tt : Table} {ρ : Option Nat} {n0 : Nat} {st : St} {Q : Exit → St → Prop}
theorem Ex.mono {c : Code} {Q2 : Exit → St → Prop} (h : Ex P ρ n0 c st Q) (hq : ∀ e s, Q e s → Q2 e s) : Ex P ρ n0 c st Q2 := by
 obtain ⟨e, s, h1, h⟩ := h
 exact ⟨e, s, hq _ _ h1, h⟩
theorem Dj (h : Q .normal st) : Ex P ρ n0 .skip st Q := ⟨_, _, h, fun _ h => lI h⟩
theorem Ow (h : Q .ret st) : Ex P ρ n0 .ret st Q := ⟨_, _, h, fun _ h => oy h⟩
theorem KE {id : Nat} (h : Q (.exit id) st) : Ex P ρ n0 (.exit id) st Q := ⟨_, _, h, fun _ h => sL h⟩
theorem Hg {x y : Code} (h : Ex P ρ n0 x st (dQ (fun st' => Ex P ρ n0 y st' Q) Q)) : Ex P ρ n0 (.seq x y) st Q := by
 obtain ⟨e, s, hq, h⟩ := h
 cases e with
 | normal =>
  obtain ⟨e2, s2, NJ, h2⟩ := hq
  exact ⟨e2, s2, NJ, fun Q' h' => ku (h _ (h2 Q' h'))⟩
 | _ => exact ⟨_, s, hq, fun Q' h' => ku (h (dQ (fun st' => gA P ρ n0 y st' Q') Q') h')⟩
theorem KF {c : Operand} {x y : Code} {b : Bool} (hc : st.eval c = .sc (.bool b)) (h : Ex P ρ n0 (if b = true then x else y) st Q) : Ex P ρ n0 (.cond c x y) st Q := by
 obtain ⟨e, s, hq, h⟩ := h
 exact ⟨e, s, hq, fun Q' h' => lJ hc (h Q' h')⟩
theorem Hh {id : Nat} {c : Code} (h : Ex P ρ n0 c st (eu id Q)) : Ex P ρ n0 (.block id c) st Q := by
 obtain ⟨e, s, hq, h⟩ := h
 cases e with
 | exit j =>
  by_cases hj : j = id
  ·simp only [eu,if_pos hj] at hq
   exact ⟨_, s, hq, fun Q' h' => jJ (h (eu id Q') (by simpa only [eu, if_pos hj] using h'))⟩
  ·simp only [eu,if_neg hj] at hq
   exact ⟨_, s, hq, fun Q' h' => jJ (h (eu id Q') (by simpa only [eu, if_neg hj] using h'))⟩
 | _ => exact ⟨_, s, hq, fun Q' h' => jJ (h (eu id Q') h')⟩

def Sv (P : Program) (f : FuncId) (vs vs' : List V) (keys : List (Nat × Nat)) (st : St) (dst : Option Tmp) (Q : St → Prop) : Prop :=
 ∃ v, (aP P f vs' v ∧ Q ({ st with mem := cI st.mem keys v }.put dst v)) ∨ (sI P f vs v ∧ Q (st.put dst v)) ∨ ∃ m', aR P f vs st.mem v m' ∧ Q ({ st with mem := m' }.put dst v)
def Sw (P : Program) (f : FuncId) (vs : List V) (st : St) (dst : Option Tmp) (Q : St → Prop) : Prop :=
 ∃ v m', aR P f vs st.mem v m' ∧ Q ({ st with mem := m' }.put dst v)
def M0 (P : Program) (f : FuncId) (vs : List V) (st : St) (dst : Option Tmp) (Q : St → Prop) : Prop :=
 match cj st.mem vs with
 | some vs' => Sv P f vs vs' (vs.flatMap ck) st dst Q
 | none => Sw P f vs st dst Q
def Hi (P : Program) (tt : Table) (key : Nat) (o : Oper) (st : St) (Q : St → Prop) : Prop :=
 match o.op with
 | .alloc T => match tt T with
  | some i => Q ({ st with mem := aX st.mem key (.box (i.zero.map V.sc)) }.put o.dst (.ptr key 0))
  | none => False
 | .box _ x => match fH (st.eval x) with
  | some cs => Q ({ st with mem := aX st.mem key (.box cs) }.put o.dst (.ptr key 0))
  | none => False
 | .build T parts => match gV P tt T parts.toList st.eval with
  | some v => Q (st.put o.dst v)
  | none => False
 | .buildSlice T len parts => match pE tt T len parts.toList st.eval with
  | some (size, rs) => Q ({ st with mem := aX st.mem key (.rows 0 size rs) }.put o.dst (.ms key 0 0 len))
  | none => False
 | .store T p x => match gU tt st.mem T (st.eval p) (st.eval x) with
  | some aA => Q ({ st with mem := aA }.put o.dst (.sc undef))
  | none => False
 | .call c => match c.callee with
  | .value f => match ba (st.eval f) (c.args.toList.map st.eval) with
   | some (g, vs) => M0 P g vs st o.dst Q
   | none => False
  | .builtin .append => match c.args.toList.map st.eval with
   | [s, x] => match dn tt st.mem c.argTypes.toList s x with
    | some (size, nZ, rows) => Q ({ st with mem := (ct st.mem key size rows nZ).1 }.put o.dst (ct st.mem key size rows nZ).2)
    | none => False
   | _ => False
  | .builtin .len => match fR P tt st o with
   | some v => Q (st.put o.dst v)
   | none => False
  | .builtin .max => match fR P tt st o with
   | some v => Q (st.put o.dst v)
   | none => False
  | .builtin .min => match fR P tt st o with
   | some v => Q (st.put o.dst v)
   | none => False
  | _ => False
 | .makeMap _ none => Q ({ st with mem := aX st.mem key (.map [] 0) }.put o.dst (.mp key))
 | .makeSlice T l c => match qF tt T (st.eval l) (st.eval c) with
  | some (size, rs, _) => Q ({ st with mem := aX st.mem key (.rows 0 size rs) }.put o.dst (.ms key 0 0 rs.length))
  | none => False
 | .mapUpdate T m k x => match ch P st.mem T (st.eval m) (st.eval k) (st.eval x) with
  | some aA => Q ({ st with mem := aA }.put o.dst (.sc undef))
  | none => False
 | .insert T m k x => match ch P st.mem T (st.eval m) (st.eval k) (st.eval x) with
  | some aA => Q ({ st with mem := aA }.put o.dst (.sc undef))
  | none => False
 | .binOp op T x y _ => match jv tt op T (st.eval x) (st.eval y) with
  | some _ => False
  | none => match fR P tt st o with
   | some v => Q (st.put o.dst v)
   | none => False
 | .move _ => match fR P tt st o with
  | some v => Q (st.put o.dst v)
  | none => False
 | .assign _ => match fR P tt st o with
  | some v => Q (st.put o.dst v)
  | none => False
 | .pick _ _ _ => match fR P tt st o with
  | some v => Q (st.put o.dst v)
  | none => False
 | .load _ _ => match fR P tt st o with
  | some v => Q (st.put o.dst v)
  | none => False
 | .nilCheck _ => match fR P tt st o with
  | some v => Q (st.put o.dst v)
  | none => False
 | .unOp _ _ _ => match fR P tt st o with
  | some v => Q (st.put o.dst v)
  | none => False
 | .convert _ _ _ => match fR P tt st o with
  | some v => Q (st.put o.dst v)
  | none => False
 | .makeFunc _ _ _ => match fR P tt st o with
  | some v => Q (st.put o.dst v)
  | none => False
 | .slice _ _ _ _ _ => match fR P tt st o with
  | some v => Q (st.put o.dst v)
  | none => False
 | .fieldAddr _ _ _ => match fR P tt st o with
  | some v => Q (st.put o.dst v)
  | none => False
 | .indexAddr _ _ _ => match fR P tt st o with
  | some v => Q (st.put o.dst v)
  | none => False
 | .field _ _ _ => match fR P tt st o with
  | some v => Q (st.put o.dst v)
  | none => False
 | .index _ _ _ => match fR P tt st o with
  | some v => Q (st.put o.dst v)
  | none => False
 | .extract _ _ => match fR P tt st o with
  | some v => Q (st.put o.dst v)
  | none => False
 | .lookup _ _ _ _ => match fR P tt st o with
  | some v => Q (st.put o.dst v)
  | none => False
 | _ => False
def Ox (P : Program) (tt : Table) (gl : List (Nat × Nat)) (all : Array Oper) : List Oper → St → (St → Prop) → Prop
 | [], st, Q => Q st
 | o :: r, st, Q => match wZ gl all st.fr o with
  | some true => Hi P tt st.mem.length o st fun st' => Ox P tt gl all r st' Q
  | some false => Ox P tt gl all r (st.put o.dst (.sc undef)) Q
  | none => False
attribute [irreducible] Ox
def intOf : V → Int
 | .sc (.int _ n) => n
 | _ => 0
theorem Hj (P : Program) (T : TypeId) (x y : Operand) (k : IntKind) (a b : Int) (hb : b ≠ 0) : aQ P (fq .quo T x y) (.sc (.int k a)) (.sc (.int k b)) = some (.sc (.int k (k.wrap (a.tdiv b)))) := by
 simp [aQ, bp, fq, binOp, Op.intDiv, eqGuard, aD, dj, bind, pure, Sem.bind, hb]
theorem Hk (P : Program) (T : TypeId) (x y : Operand) (k k' : IntKind) (a b : Int) (hb : ¬ b < 0) : aQ P (fq .shr T x y) (.sc (.int k a)) (.sc (.int k' b)) = some (.sc (.int k (a.fdiv (2 ^ min b.toNat k.bits)))) := by
 simp [aQ, bp, fq, binOp, Op.shift, eqGuard, aD, dj, bind, pure, Sem.bind, hb]
def Hl (k : IntKind) (a b : Int) : Int := k.wrap (BitVec.ofInt k.bits a &&& BitVec.ofInt k.bits b).toNat
theorem Oy (P : Program) (T : TypeId) (x y : Operand) (k : IntKind) (a b : Int) : aQ P (fq .and T x y) (.sc (.int k a)) (.sc (.int k b)) = some (.sc (.int k (Hl k a b))) := by
 simp [aQ, bp, fq, binOp, eqGuard, aD, bind, pure, Sem.bind, Op.intBits, dj, Hl]
end
end Go.Eng
end

section
namespace Go.Eng
variable [aE]
section
variable {P : Program} {tt : Table} {ρ : Option Nat} {n0 : Nat} {Q : Exit → St → Prop}
theorem EO {o : Oper} {st : St} {Q : St → Prop} (h : lK P o st Q) : ∃ s, Q s ∧ ∀ K : St → Prop, K s → lK P o st K := by
 unfold lK at h
 split at h
 ·rename_i f xs heq
  split at h
  ·rename_i g vs hg
   obtain ⟨vs', r, h1, h2, h3⟩ := h
   refine ⟨_, h3, fun K hK => ?_⟩
   unfold lK
   rw [heq]
   dsimp only
   rw [hg]
   exact ⟨vs', r, h1, h2, hK⟩
  ·exact h.elim
 ·exact h.elim
theorem rQ {all : Array Oper} {base : Nat} {Q : St → Prop} : ∀ (l : List Oper) (ps : List Pl) (st : St), runM P tt all base l ps st Q → ∃ s, Q s ∧ ∀ K : St → Prop, K s → runM P tt all base l ps st K
 | [], ps, st, h => ⟨st, h, fun K hK => hK⟩
 | o :: r, [], st, h => h.elim
 | o :: r, p :: ps, st, h => by
  rw [runM] at h
  by_cases hz : p.cls = .z
  ·unfold dC at h
   split at h
   ·rename_i hw
    rw [hz] at h
    obtain ⟨s0, h1, h2⟩ := EO h
    obtain ⟨s, h3, h4⟩ := rQ r ps _ h1
    exact ⟨s, h3, fun K hK => by rw [runM]; unfold dC; simp only [hw,hz]; exact h2 _ (h4 K hK)⟩
   ·rename_i hw
    obtain ⟨s, h3, h4⟩ := rQ r ps _ h
    exact ⟨s, h3, fun K hK => by rw [runM]; unfold dC; simp only [hw]; exact h4 K hK⟩
   ·exact h.elim
  ·obtain ⟨v, m, h1, h2⟩ := (dU hz).1 h
   obtain ⟨s, h3, h4⟩ := rQ r ps _ h2
   exact ⟨s, h3, fun K hK => by rw [runM]; exact (dU hz).2 ⟨v, m, h1, h4 K hK⟩⟩
end
theorem EP {P : Program} {R : V → au → Prop} {g : FuncId} {vs : List V} {k : Nat} {st : St} {dst : Option Tmp} {Q : St → Prop} {B0 : au} (hv : st.mem[k]? = some B0) (h0 : B0.ay = 0)
  (hr : ∃ v B, R v B ∧ B.ay = 0 ∧ ∀ mem : List au, mem[k]? = some B0 → aR P g vs mem v (mem.set k B)) (h : ∀ v B, R v B → Q ({ st with mem := st.mem.set k B }.put dst v)) : A6 P g vs k st dst Q := by
 obtain ⟨v, B, h1, h2, h3⟩ := hr
 exact ⟨v, B0, B, h0, h2, hv, h3, h v B h1⟩
end Go.Eng
end

section
namespace Go.Eng
variable [aE]
section
variable {P : Program} {tt : Table} {ρ : Option Nat} {n0 : Nat} {Q : Exit → St → Prop}
end
end Go.Eng
end

section
namespace Go.Eng
variable [aE]
theorem w6 (n : Nat) (cs : List V) : aB n (.box cs) = cs.all (ai n) := rfl
theorem pU (n : Nat) (bf : List (Value × Nat × V)) (c : Nat) : aB n (.map bf c) = bf.all fun e => ai n e.2.2 := rfl
theorem KG (n v e : Nat) (rs : List V) : aB n (.rows v e rs) = true := rfl
theorem KH (n : Nat) : aB n .dead = true := rfl
theorem KI (n : Nat) : aB n .hole = true := rfl
theorem im (a b : ByteArray) : (a == b) = true ↔ a = b := by
 show ByteArray.beq a b = true ↔ _
 unfold ByteArray.beq
 constructor
 ·intro h
  have : a.data = b.data := by simpa using h
  exact ByteArray.ext this
 ·rintro rfl; simp
structure Y8 (P : Program) (T kt et : TypeId) (K : Value → Prop) : Prop where
 map : cN P T = some (kt, et)
 desc : ∃ d, P.underlying kt = some d ∧ ∀ a b, K a → K b → ∃ q : Bool, Instr.sameNow d a b = some q ∧ (q = true ↔ a = b)
 ok : ∀ a, K a → mX P kt a = true
 bits : ∀ a, K a → Instr.sameBits 10000 a a = true
section
variable {P : Program} {T kt et : TypeId} {K : Value → Prop}
end
end Go.Eng
end

section
namespace Go.Eng
variable [aE]
end Go.Eng
end
