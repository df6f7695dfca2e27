/-
  THE ENGINE, TM: the walk without a settled outcome: calls of which only a relation is told, and append behind a block's beginning.
  THE ENGINE, VA: one operation, for both forms of walk (m = true: Tri, m = false: Ex); what is stuck keeps what follows out of sight.
  THE ENGINE, FZ: a slot whose rows nobody will write any more.
  THE ENGINE, VC: sparse frames; code carried out as far as the data settle it; both forms of walk (m = true: Tri, m = false: Ex).
  THE ENGINE, VD: what stands between the stretches of VC: loops, ways that meet, regions that draw, functions' beginnings and ends.
  THE ENGINE, RN: a contract at a small store holds at every store that has the small one's blocks under other keys.
  THE ENGINE, SW: two blocks of a call's own change keys; the values of a map are frozen.
  THE ENGINE, FC: the rows that a struct's cells name are frozen.
  THE ENGINE, VF: what may be made of a state without a step: rows frozen, nil slices taken for empty rows, keys changed.
  THE ENGINE, GS: the facts for carrying code out, in the library's own simp set.
  THE ENGINE, AD: a block that a call has made is taken into the store.
  THE ENGINE, OR: contracts that are proved already, as a table for the evaluator.
  THE ENGINE, CL: the rest of live rows is cleared.
-/
import Derived.Test.YtefbaladomfccaaGreatDoorE6
set_option linter.all false
section
namespace Go.Eng
variable [aK]
section
variable {P : Program} {tt : Table} {ρ : Option Nat} {n0 : Nat} {st : St} {Q : Exit → St → Prop}
def Kx (P : Program) (f : FuncId) (vs : List V) (st : St) (dst : Option Tmp) (Q : St → Prop) : Prop :=
 ∃ R, fm P f vs st.mem R ∧ ∀ v m', R v m' → Q ({ st with mem := m' }.put dst v)
def Oc (P : Program) (f : FuncId) (vs : List V) (st : St) (dst : Option Tmp) (Q : St → Prop) : Prop := Mt P f vs st dst Q ∨ Kx P f vs st dst Q
def Od (P : Program) (tt : Table) (key : Nat) (o : Oper) (st : St) (Q : St → Prop) : Prop :=
 match o.op with
 | .call c => match c.callee with
  | .value f => match bw (st.eval f) (c.args.toList.map st.eval) with
   | some (g, vs) => Oc P g vs st o.dst Q
   | none => False
  | .builtin .append => match c.args.toList.map st.eval with
   | [s, x] => match dS tt st.mem c.argTypes.toList s x with
    | some (size, ka, rows) => Q ({ st with mem := (cK st.mem key size rows ka).1 }.put o.dst (cK st.mem key size rows ka).2)
    | none => qy tt st c.argTypes.toList s x o.dst Q
   | _ => False
  | _ => fZ P tt key o st Q
 | _ => fZ P tt key o st Q
def Hi (P : Program) (tt : Table) (gl : List (Nat × Nat)) (all : Array Oper) : List Oper → St → (St → Prop) → Prop
 | [], st, Q => Q st
 | o :: r, st, Q => match wO gl all st.fr o with
  | some true => Od P tt st.mem.length o st fun st' => Hi P tt gl all r st' Q
  | some false => Hi P tt gl all r (st.put o.dst (.sc undef)) Q
  | none => False
theorem Bg {ts : List TypeId} {s x : V} {dst : Option Tmp} {A B : St → Prop} (h : qy tt st ts s x dst A) (jA : ∀ s, A s → B s) : qy tt st ts s x dst B := by
 unfold qy at h ⊢
 split at h
 ·exact fun o rs' h1 h2 => jA _ (h o rs' h1 h2)
 ·exact h
attribute [irreducible] Hi

end
end Go.Eng
end

section
namespace Go.Eng
variable [aK]
inductive Tk where
 | a
 | b
def tk : Tk := .b
theorem Sw {α : Type} {a b : α} (h : a = b) : a = b := h
theorem fO {a b : Prop} (h : a = b) : a = b := h
def bq {α : Type} (_ : Tk) (o : Option α) (K : α → Prop) : Prop := match o with
 | some v => K v
 | none => False
theorem Oe {α : Type} {k : Tk} {o : Option α} {K : α → Prop} : bq k o K = match o with | some v => K v | none => False := fO rfl
theorem ga {α : Type} {k : Tk} {o : Option α} {K : α → Prop} : bq k o K ↔ ∃ v, o = some v ∧ K v := by
 cases o with
 | none => exact ⟨fun h => h.elim, fun ⟨_, h, _⟩ => by cases h⟩
 | some v => exact ⟨fun h => ⟨v, rfl, h⟩, fun ⟨_, e, h⟩ => by cases e; exact h⟩
def nq {α : Type} (_ : Tk) (o : Option α) (A : α → Prop) (B : Prop) : Prop := match o with
 | some v => A v
 | none => B
theorem Of {α : Type} {k : Tk} {o : Option α} {A : α → Prop} {B : Prop} : nq k o A B = match o with | some v => A v | none => B := fO rfl
theorem oV {α : Type} {k : Tk} {v : α} {A : α → Prop} {B : Prop} : nq k (some v) A B = A v := rfl
theorem oW {α : Type} {k : Tk} {A : α → Prop} {B : Prop} : nq k none A B = B := rfl
section
variable {m : Bool} {P : Program} {tt : Table} {st : St} {Q : St → Prop}
def oX (_ : Tk) (m : Bool) (P : Program) (f : FuncId) (vs : List V) (o : Option (List V)) (keys : List (Nat × Nat)) (st : St) (dst : Option Tmp) (Q : St → Prop) : Prop :=
 (∃ vs' r, o = some vs' ∧ aR P f vs' r ∧ Q ({ st with mem := eH st.mem keys r }.put dst r)) ∨
 (∃ r aF, bF P f vs st.mem r aF ∧ Q ({ st with mem := aF }.put dst r)) ∨
 (m = true ∧ ∃ R, fm P f vs st.mem R ∧ ∀ r aF, R r aF → Q ({ st with mem := aF }.put dst r)) ∨
 (∃ r, r8 P f vs r ∧ Q (st.put dst r))
def Sx (_ : Tk) (m : Bool) (P : Program) (k : Nat) (vs : List V) (st : St) (dst : Option Tmp) (Q : St → Prop) : Prop :=
 (∃ b aF, Jz P k vs st.mem b aF ∧ Q ({ st with mem := aF }.put dst (.sc (.bool b)))) ∨
 (m = true ∧ ∃ R, Eg P k vs st.mem R ∧ ∀ b aF, R b aF → Q ({ st with mem := aF }.put dst (.sc (.bool b))))
def UU (_ : Tk) (m : Bool) (r : Option (Nat × Nat × Nat × Nat × List V × List V)) (st : St) (dst : Option Tmp) (Q : St → Prop) : Prop := m = true ∧ match r with
 | some (size, b, v, l, rs, xs) => ∀ (o : Nat) (rs' : List V), rs'.drop o = rs ++ xs → o + (l + xs.length) = rs'.length → Q ({ st with mem := st.mem.set b (.rows (v + 1) size rs') }.put dst (.ms b (v + 1) o (l + xs.length)))
 | none => False
def YZ (_ : Tk) (m : Bool) (st : St) (dst : Option Tmp) (it : V) (str : Bool) (Q : St → Prop) : Prop := m = true ∧ oz st dst it str Q
def UW (_ : Tk) (m : Bool) (n : Nat) (op : BinOp) (st : St) (dst : Option Tmp) (Q : St → Prop) : Prop :=
 m = true ∧ ∀ b : Bool, (n ≠ 0 → b = false) → Q (st.put dst (.sc (.bool (jj op b))))
def Ky (tt : Table) (T : TypeId) (len : Nat) (parts : List (Nat × Operand)) (st : St) (key : Nat) : Option (List aC) :=
 match pH tt T len parts st.eval with
 | some (size, rs) => some (bj st.mem key (.rows 0 size rs))
 | none => match J0 tt T len parts st with
  | some (size, rs) => some (bj (cL st.mem (wx st.eval parts)) key (.rows 0 size rs))
  | none => none
def wQ (tt : Table) (mem : List aC) (T : TypeId) (p x : V) : Option (List aC) :=
 match iC tt mem T p x with
 | some m => some m
 | none => wy tt mem T p x
def jm (m : Bool) (P : Program) (tt : Table) (key : Nat) (o : Oper) (st : St) (Q : St → Prop) : Prop :=
 match o.op with
 | .alloc T => bq tk (tt T) fun i => Q ({ st with mem := bj st.mem key (.box (i.zero.map V.sc)) }.put o.dst (.ptr key 0))
 | .box _ x => bq tk (fU (st.eval x)) fun cs => Q ({ st with mem := bj st.mem key (.box cs) }.put o.dst (.ptr key 0))
 | .build T parts => bq tk (iD P tt T parts.toList st.eval) fun v => Q (st.put o.dst v)
 | .buildSlice T len parts => bq tk (Ky tt T len parts.toList st key) fun mem => Q ({ st with mem := mem }.put o.dst (.ms key 0 0 len))
 | .store T p x => bq tk (wQ tt st.mem T (st.eval p) (st.eval x)) fun mem => Q ({ st with mem := mem }.put o.dst (.sc undef))
 | .call { callee := .builtin .append, args := xs, argTypes := ts } => match xs.toList.map st.eval with
  | [s, x] => nq tk (dS tt st.mem ts.toList s x) (fun p => Q ({ st with mem := (cK st.mem key p.1 p.2.2 p.2.1).1 }.put o.dst (cK st.mem key p.1 p.2.2 p.2.1).2)) (UU tk m (jM tt st.mem ts.toList s x) st o.dst Q)
  | _ => False
 | .call { callee := .value f, args := xs, .. } => match st.eval f with
  | .gr k => Sx tk m P k (xs.toList.map st.eval) st o.dst Q
  | fv => bq tk (bw fv (xs.toList.map st.eval)) fun p => oX tk m P p.1 p.2 (dx st.mem p.2) (p.2.flatMap de) st o.dst Q
 | .makeSlice T l c => bq tk (nk tt T (st.eval l) (st.eval c)) fun p => Q ({ st with mem := bj st.mem key (.rows 0 p.1 p.2.1) }.put o.dst (.ms key 0 0 p.2.1.length))
 | .makeMap _ none => Q ({ st with mem := bj st.mem key (.map [] 0) }.put o.dst (.mp key))
 | .mapUpdate T d k x => bq tk (cD P st.mem T (st.eval d) (st.eval k) (st.eval x)) fun mem => Q ({ st with mem := mem }.put o.dst (.sc undef))
 | .insert T d k x => bq tk (cD P st.mem T (st.eval d) (st.eval k) (st.eval x)) fun mem => Q ({ st with mem := mem }.put o.dst (.sc undef))
 | .mapEntry T d k => bq tk (pI P st.mem T (st.eval d) (st.eval k)) fun p => Q ({ st with mem := p.1 }.put o.dst p.2)
 | .entryStore _ d s x => bq tk (pJ st.mem (st.eval d) (st.eval s) (st.eval x)) fun mem => Q ({ st with mem := mem }.put o.dst (.sc undef))
 | .call { callee := .builtin .delete, args := xs, argTypes := ts } => bq tk (mH P st.mem ts (xs.toList.map st.eval)) fun mem => Q ({ st with mem := mem }.put o.dst (.sc (.tuple #[])))
 | .range T x => bq tk (kg P st.mem T (st.eval x)) fun B => Q ({ st with mem := bj st.mem key B }.put o.dst (.ptr key 0))
 | .next it str => YZ tk m st o.dst (st.eval it) str Q
 | .binOp op T x y _ => nq tk (j1 tt op T (st.eval x) (st.eval y)) (fun n => UW tk m n op st o.dst Q) (bq tk (gp P tt st o) fun v => Q (st.put o.dst v))
 | _ => bq tk (gp P tt st o) fun v => Q (st.put o.dst v)
theorem mQ {α : Type} {k : Tk} {o : Option α} {A B : α → Prop} (h : bq k o A) (jA : ∀ v, A v → B v) : bq k o B := by
 cases o with
 | none => exact h
 | some v => exact jA v h
theorem Bh {dst : Option Tmp} {it : V} {str : Bool} {A B : St → Prop} (h : oz st dst it str A) (jA : ∀ s, A s → B s) : oz st dst it str B := by
 unfold oz at h ⊢
 split at h
 ·split at h
  ·split at h
   ·exact ⟨h.1, h.2.1, fun e => jA _ (h.2.2.1 e), fun e he => jA _ (h.2.2.2 e he)⟩
   ·exact h
  ·refine ⟨h.1, ?_⟩
   have := h.2
   split at this
   ·rename_i hp; rw [if_pos hp]; exact jA _ this
   ·rename_i hp; rw [if_neg hp]; exact jA _ this
  ·exact ⟨h.1, jA _ h.2⟩
  ·exact h
 ·exact h
theorem Bi {key : Nat} {o : Oper} {A B : St → Prop} (h : jm m P tt key o st A) (jA : ∀ s, A s → B s) : jm m P tt key o st B := by
 have app : ∀ {ts : List TypeId} {s x : V}, nq tk (dS tt st.mem ts s x) (fun p => A ({ st with mem := (cK st.mem key p.1 p.2.2 p.2.1).1 }.put o.dst (cK st.mem key p.1 p.2.2 p.2.1).2)) (UU tk m (jM tt st.mem ts s x) st o.dst A) →
   nq tk (dS tt st.mem ts s x) (fun p => B ({ st with mem := (cK st.mem key p.1 p.2.2 p.2.1).1 }.put o.dst (cK st.mem key p.1 p.2.2 p.2.1).2)) (UU tk m (jM tt st.mem ts s x) st o.dst B) := fun {ts s x} h => by
  cases ha : dS tt st.mem ts s x with
  | some p => rw [ha, oV] at h; exact jA _ h
  | none => rw [ha, oW] at h; exact ⟨h.1, Bg (show qy tt st ts s x o.dst A from h.2) jA⟩
 have cv : ∀ {f : FuncId} {vs : List V} {p : Option (List V)} {keys : List (Nat × Nat)}, oX tk m P f vs p keys st o.dst A → oX tk m P f vs p keys st o.dst B := fun h => by
  rcases h with ⟨vs', r, h1, h2, h3⟩ | ⟨r, m', h1, h2⟩ | ⟨hm, R, h1, h2⟩ | ⟨r, h1, h2⟩
  ·exact .inl ⟨vs', r, h1, h2, jA _ h3⟩
  ·exact .inr (.inl ⟨r, m', h1, jA _ h2⟩)
  ·exact .inr (.inr (.inl ⟨hm, R, h1, fun r m' h => jA _ (h2 r m' h)⟩))
  ·exact .inr (.inr (.inr ⟨r, h1, jA _ h2⟩))
 obtain ⟨dst, op, type, pos, after, guard⟩ := o
 cases op
 case call c =>
  obtain ⟨callee, args, ats⟩ := c
  cases callee
  case value f =>
   simp only [jm] at h ⊢
   split at h
   ·rcases h with ⟨b, m', h1, h2⟩ | ⟨hm, R, h1, h2⟩
    ·exact .inl ⟨b, m', h1, jA _ h2⟩
    ·exact .inr ⟨hm, R, h1, fun b m' h => jA _ (h2 b m' h)⟩
   ·exact mQ h fun v hv => cv hv
  case builtin b =>
   cases b
   case append =>
    simp only [jm] at h ⊢
    split at h
    ·exact app h
    ·exact h
   all_goals (simp only [jm] at h ⊢; exact mQ h fun v hv => jA _ hv)
  all_goals (simp only [jm] at h ⊢; exact mQ h fun v hv => jA _ hv)
 case makeMap T l =>
  cases l with
  | none => exact jA _ h
  | some l => simp only [jm] at h ⊢; exact mQ h fun v hv => jA _ hv
 case next it str => exact ⟨h.1, Bh h.2 jA⟩
 case binOp op T x y yt =>
  simp only [jm] at h ⊢
  cases hn : j1 tt op T (st.eval x) (st.eval y) with
  | some n =>
   rw [hn, oV] at h
   exact ⟨h.1, fun b hb => jA _ (h.2 b hb)⟩
  | none => rw [hn, oW] at h; exact mQ h fun v hv => jA _ hv
 all_goals (simp only [jm] at h ⊢; exact mQ h fun v hv => jA _ hv)
def Mu (m : Bool) (P : Program) (tt : Table) (key : Nat) (o : Oper) (st : St) (Q : St → Prop) : Prop := match m with
 | true => bI P tt key o st Q
 | false => ∃ s, Q s ∧ ∀ K : St → Prop, K s → bI P tt key o st K
theorem fc {key : Nat} {o : Oper} (s : St) (h : Q s) (hk : ∀ K : St → Prop, K s → bI P tt key o st K) : Mu m P tt key o st Q := by
 cases m
 ·exact ⟨s, h, hk⟩
 ·exact hk Q h
theorem Hj {f : FuncId} {vs : List V} {dst : Option Tmp} {k : Tk} (h : oX k m P f vs (dx st.mem vs) (vs.flatMap de) st dst Q) : (m = true ∧ uL P f vs st dst Q) ∨ ∃ s, Q s ∧ ∀ K : St → Prop, K s → uL P f vs st dst K := by
 rcases h with ⟨vs', r, h1, h2, h3⟩ | ⟨r, m', h1, h2⟩ | ⟨hm, R, h1, h2⟩ | ⟨r, h1, h2⟩
 ·exact .inr ⟨_, h3, fun K hK => .inl ⟨vs', r, h1, h2, hK⟩⟩
 ·exact .inr ⟨_, h2, fun K hK => .inr (.inl ⟨r, m', h1, hK⟩)⟩
 ·exact .inl ⟨hm, .inr (.inr (.inl ⟨R, h1, h2⟩))⟩
 ·exact .inr ⟨_, h2, fun K hK => .inr (.inr (.inr ⟨r, h1, hK⟩))⟩
theorem Hk {key : Nat} {o : Oper} (h : jm m P tt key o st Q) : Mu m P tt key o st Q := by
 unfold jm at h
 split at h
 all_goals try (rename_i lq; simp only [ga] at h; obtain ⟨v, h1, h2⟩ := h; refine fc _ h2 fun K hK => ?_; unfold bI; rw [lq]; dsimp only; rw [h1]; exact hK)
 ·rename_i lq
  simp only [ga] at h
  obtain ⟨mem, h1, h2⟩ := h
  refine fc _ h2 fun K hK => ?_
  unfold bI; rw [lq]; dsimp only
  unfold Ky at h1
  split at h1
  ·rename_i hl; cases h1; rw [hl]; exact hK
  ·rename_i hl
   rw [hl]
   split at h1
   ·rename_i hl; cases h1; dsimp only; rw [hl]; exact hK
   ·cases h1
 ·rename_i lq
  simp only [ga] at h
  obtain ⟨mem, h1, h2⟩ := h
  refine fc _ h2 fun K hK => ?_
  unfold bI; rw [lq]; dsimp only
  unfold wQ at h1
  split at h1
  ·rename_i hl; cases h1; rw [hl]; exact hK
  ·rename_i hl; rw [hl]; dsimp only; rw [h1]; exact hK
 ·rename_i lq
  split at h
  ·rename_i s x Nz
   cases ha : dS tt st.mem _ s x with
   | some p =>
    rw [ha, oV] at h
    refine fc _ h fun K hK => ?_
    unfold bI; rw [lq]; dsimp only; rw [Nz]; dsimp only; rw [ha]; exact hK
   | none =>
    rw [ha, oW] at h
    obtain ⟨rfl, h⟩ := h
    show bI P tt key o st Q
    unfold bI; rw [lq]; dsimp only; rw [Nz]; dsimp only; rw [ha]; exact h
  ·exact h.elim
 ·rename_i lq
  split at h
  ·rename_i k hk
   rcases h with ⟨b, m', h1, h2⟩ | ⟨rfl, R, h1, h2⟩
   ·refine fc _ h2 fun K hK => ?_
    unfold bI; rw [lq]; dsimp only; rw [hk]; exact .inl ⟨b, m', h1, hK⟩
   ·show bI P tt key o st Q
    unfold bI; rw [lq]; dsimp only; rw [hk]; exact .inr ⟨R, h1, h2⟩
  ·rename_i hk
   simp only [ga] at h
   obtain ⟨⟨g, vs⟩, h1, h2⟩ := h
   have Sy : ∀ K : St → Prop, uL P g vs st o.dst K → bI P tt key o st K := fun K hK => by
    unfold bI; rw [lq]; dsimp only
    split
    ·rename_i k hy; exact (hk k hy).elim
    ·rw [h1]; exact hK
   rcases Hj h2 with ⟨rfl, h3⟩ | ⟨s, h3, h4⟩
   ·exact Sy Q h3
   ·exact fc s h3 fun K hK => Sy K (h4 K hK)
 ·rename_i lq
  exact fc _ h fun K hK => by unfold bI; rw [lq]; exact hK
 ·rename_i lq
  obtain ⟨rfl, h⟩ := h
  show bI P tt key o st Q
  unfold bI; rw [lq]; exact h
 ·rename_i op T x y yt lq
  cases hn : j1 tt op T (st.eval x) (st.eval y) with
  | some n =>
   rw [hn, oV] at h
   obtain ⟨rfl, h⟩ := h
   show bI P tt key o st Q
   unfold bI; rw [lq]; dsimp only; rw [hn]; exact h
  | none =>
   rw [hn, oW, ga] at h
   obtain ⟨v, h1, h2⟩ := h
   exact fc _ h2 fun K hK => by unfold bI; rw [lq]; dsimp only; rw [hn]; dsimp only; rw [h1]; exact hK
 ·rw [ga] at h
  obtain ⟨v, h1, h2⟩ := h
  refine fc _ h2 fun K hK => ?_
  unfold bI
  split
  all_goals first
   | (rw [h1]; exact hK)
   | (exfalso; solve_by_elim)
end
end Go.Eng
end

section
namespace Go.Eng
variable [aK]
section
variable {P : Program} {ρ : Option Nat} {n0 : Nat} {c : Code} {st : St} {Q : Exit → St → Prop}
theorem wR {v v' : V} (t : Nat) (h0 : st.fr[t]? = some v) (hp : dR st.mem v = some v') (h : dA P ρ n0 c { fr := st.fr.set t v', mem := cL st.mem (de v) } Q) : dA P ρ n0 c st Q := fun E0 w0 Og E w a he hs mI => by
 obtain ⟨E', h1, h2, h3⟩ := hs.freeze (vs := [v]) (vs' := [v']) (by simp only [dx,hp])
 obtain ⟨x, hx, hr⟩ := hs.fr.get h0
 have uI := (h3 [x] (aV.cons hr (.nil _))).2 0 v' x rfl rfl
 have e1 : [v].flatMap de = de v := by simp
 rw [e1] at h1
 have e2 : a.tmps.toList.set t x = a.tmps.toList := by
  apply List.ext_getElem?
  intro i
  rw [List.getElem?_set]
  split
  ·rename_i hi; subst hi
   rw [if_pos (List.getElem?_eq_some_iff.1 hx).1, hx]
  ·rfl
 have h4 : aV E' (st.fr.set t v') a.tmps.toList := by
  have := (aV.set (n := t) h1.fr uI)
  rwa [e2] at this
 exact h E0 w0 Og E' w a (he.trans h2) ⟨h1.F, h1.lt, h1.mem, h1.top, h1.bW, h1.apart, h4⟩ (mI.Eh h2)
theorem Oh {v v' : V} (t : Nat) (h0 : st.fr[t]? = some v) (hp : dR st.mem v = some v') (h : Ex P ρ n0 c { fr := st.fr.set t v', mem := cL st.mem (de v) } Q) : Ex P ρ n0 c st Q := by
 obtain ⟨e, s2, hq, h2⟩ := h
 exact ⟨e, s2, hq, fun Q' h' => wR t h0 hp (h2 Q' h')⟩
theorem ig {α : Type} {l : List α} {t : Nat} {x : α} (h : l[t]? = some x) : l.set t x = l := by
 apply List.ext_getElem?
 intro i
 rw [List.getElem?_set]
 split
 ·rename_i hi; subst hi
  rw [if_pos (List.getElem?_eq_some_iff.1 h).1, h]
 ·rfl
theorem bc.sA {E : Env} {w : World} {a : Act} (hs : bc E w a st) {k t : Nat} {cs : List V} (hk : st.mem[k]? = some (.box cs)) (hp : cs.all gY = true) (h0 : st.fr[t]? = some (.ptr k 0)) :
  ∃ E', bc E' w a { fr := st.fr.set t (.cn cs), mem := st.mem.set k .dead } ∧ dO E w E' w := by
 obtain ⟨g, T, xs, hb, hh, hr, hf⟩ := hs.mem k _ hk
 have hF : ∀ ad x, E.F ad = some x → (if ad.block = g then w.cell? ad else E.F ad) = some x := fun ad x h => by
  split
  ·exact hs.F ad x h
  ·exact h
 obtain ⟨E', hE⟩ : ∃ E' : Env, E' = { F := fun ad => if ad.block = g then w.cell? ad else E.F ad, aM := E.aM, gl := E.gl.mono hF } := ⟨_, rfl⟩
 have eF : ∀ ad, E'.F ad = if ad.block = g then w.cell? ad else E.F ad := fun ad => by rw [hE]
 have eb : E'.aM = E.aM := by rw [hE]
 have hle : E.le E' := ⟨fun ad x h => by rw [eF]; exact hF ad x h, fun _ _ _ h => by rw [eb]; exact h⟩
 obtain ⟨x, hx, Wu⟩ := hs.fr.get h0
 have Wv : x = .pointer (some ⟨g, 0, none⟩) := by
  cases Wu with
  | ptr _ _ _ g' e c dt => rw [hb] at dt; cases dt; rfl
 subst Wv
 have Y0 := aV.pure hr hp
 have mY : a8 E' (.cn cs) (.pointer (some ⟨g, 0, none⟩)) := by
  have h1 : ∀ j, (Addr.mk g 0 none).add j = ⟨g, j, none⟩ := fun j => by unfold Addr.add; by_cases hj : j = 0 <;> simp [hj]
  refine .cn _ _ _ (fun j => (xs[j]?).getD undef) (fun j c hj => ?_) fun j c hj => ?_
  ·obtain ⟨y, hy, -⟩ := Y0.get hj
   rw [h1, eF, if_pos rfl, gM hh]
   simp only [Array.getElem?_toList] at hy
   rw [hy]; rfl
  ·obtain ⟨y, hy, vL⟩ := Y0.get hj
   simp only [Array.getElem?_toList] at hy
   rw [hy]
   exact vL.mono (Env.ft hle)
 have L2 : aV E' (st.fr.set t (.cn cs)) a.tmps.toList := by
  have := aV.set (n := t) (hs.fr.mono hle) mY
  rwa [ig hx] at this
 refine ⟨E', ⟨fun ad y hy => ?_, fun k' v g' e c h => hs.lt k' v g' e c (by rwa [eb] at h), fun k' B hB => ?_, fun k' fF v => ?_, fun k' B hB v hv => ?_, fun k1 k2 v1 v2 g' e c e' c' q1 q2 => ?_, L2⟩, ?_⟩
 ·rw [eF] at hy
  split at hy
  ·exact hy
  ·exact hs.F ad y hy
 ·rw [List.getElem?_set] at hB
  split at hB
  ·split at hB
   ·cases hB; exact trivial
   ·cases hB
  ·rename_i bL
   refine (hs.mem k' B hB).mono hle (fun v h => by rw [eb]; exact h) (fun _ _ _ _ => rfl) fun g' e c o q1 q2 => ?_
   rw [eF]
   split
   ·rename_i hg
    have hg : g' = g := hg
    subst hg
    exact absurd (hs.apart _ _ _ _ _ _ _ _ _ hb q1) bL
   ·exact q2
 ·rw [eb]; exact hs.top k' (by simpa using fF) v
 ·rw [eb]
  rw [List.getElem?_set] at hB
  split at hB
  ·rename_i JF
   split at hB
   ·cases hB
    subst JF
    exact hs.bW k _ hk v hv
   ·cases hB
  ·exact hs.bW k' B hB v hv
 ·rw [eb] at q1 q2; exact hs.apart _ _ _ _ _ _ _ _ _ q1 q2
 ·refine ⟨hle, fun k' v g' e c h => .inl ⟨k', v, e, c, by rwa [eb] at h⟩, fun ad y hy => ?_, rfl, rfl, rfl, Nat.le_refl _, fun _ _ _ => rfl⟩
  rw [eF] at hy
  split at hy
  ·rename_i hg; exact .inr (.inr ⟨k, 0, 0, 0, by rw [hg]; exact hb⟩)
  ·exact .inl hy
theorem bc.Hl {E : Env} {w : World} {a : Act} (hs : bc E w a st) {k j : Nat} {cs : List V} (hk : st.mem[k]? = some (.box cs)) (hj : cs[j]? = some (.sc (.slice none 0 0))) (b v : Nat) : bc E w a { st with mem := st.mem.set k (.box (cs.set j (.ms b v 0 0))) } := by
 have aL := (List.getElem?_eq_some_iff.1 hk).1
 refine ⟨hs.F, hs.lt, fun k' B hB => ?_, fun k' fF => hs.top k' (by simpa using fF), fun k' B hB v hv => ?_, hs.apart, hs.fr⟩
 ·rw [List.getElem?_set] at hB
  split at hB
  ·rename_i he; subst he
   cases hB
   obtain ⟨g, T, xs, hb, hh, hr, hf⟩ := hs.mem k _ hk
   refine ⟨g, T, xs, hb, hh, ?_, hf⟩
   obtain ⟨x, hx, Wu⟩ := hr.get hj
   have Wv := bS Wu
   subst Wv
   have := aV.set (n := j) hr (a8.dg E b v 0)
   rwa [ig hx] at this
  ·exact hs.mem k' B hB
 ·rw [List.getElem?_set] at hB
  split at hB
  ·rename_i he; subst he
   cases hB
   exact hs.bW k _ hk v hv
  ·exact hs.bW k' B hB v hv
theorem Bj {cs : List V} (k j v e : Nat) (hk : st.mem[k]? = some (.box cs)) (hj : cs[j]? = some (.sc (.slice none 0 0))) (h : dA P ρ n0 c { fr := st.fr, mem := st.mem.set k (.box (cs.set j (.ms st.mem.length v 0 0))) ++ [.rows v e []] } Q) : dA P ρ n0 c st Q :=
 oE (fun E w a hs => (hs.Hl hk hj st.mem.length v).oS v e) h
end
end Go.Eng
end

section
namespace Go.Eng
variable [aK]
def lk (t : Nat) : List (Nat × V) → V
 | [] => .undef
 | p :: ws => if p.1 = t then p.2 else lk t ws
def W (n : Nat) (ws : List (Nat × V)) : List V := (List.range n).map fun i => lk i ws
theorem oY (n : Nat) (ws : List (Nat × V)) (t : Nat) : (W n ws)[t]? = if t < n then some (lk t ws) else none := by
 unfold W
 rw [List.getElem?_map]
 by_cases h : t < n
 ·rw [if_pos h, List.getElem?_range h]; rfl
 ·rw [if_neg h, List.getElem?_eq_none (by simp; omega)]; rfl
theorem Oi (n : Nat) (ws : List (Nat × V)) (t : Nat) : (W n ws).getD t .undef = if t < n then lk t ws else .undef := by
 rw [List.getD_eq_getElem?_getD, oY]; split <;> rfl
theorem mb (n : Nat) (ws : List (Nat × V)) : (W n ws).length = n := by simp [W]
theorem C9 (n : Nat) (ws : List (Nat × V)) (d : Nat) (v : V) : (W n ws).set d v = W n ((d, v) :: ws) := by
 apply List.ext_getElem?
 intro i
 rw [List.getElem?_set, oY, oY, mb]
 simp only [lk]
 by_cases h : d = i
 ·subst h; simp
 ·simp [h]
def pD (ko : List (Nat × V)) : List (Nat × V) → Prop
 | [] => True
 | p :: r => lk p.1 ko = p.2 ∧ pD ko r
theorem Da {ko : List (Nat × V)} : ∀ {ws : List (Nat × V)}, pD ko ws → ∀ i, lk i ws = .undef ∨ lk i ws = lk i ko
 | [], _, i => .inl rfl
 | p :: r, h, i => by
  simp only [lk]
  by_cases e : p.1 = i
  ·subst e; rw [if_pos rfl]; exact .inr h.1.symm
  ·rw [if_neg e]; exact Da h.2 i
theorem Kz {E : Env} {n : Nat} {ko ws : List (Nat × V)} (h : pD ko ws) {xs : List Value} (hr : aV E (W n ko) xs) : aV E (W n ws) xs := by
 refine ⟨by rw [← hr.1, mb, mb], fun i v x hv hx => ?_⟩
 rw [oY] at hv
 split at hv
 ·rename_i hi
  cases hv
  rcases Da h i with e | e
  ·rw [e]; exact .undef _ _
  ·rw [e]; exact hr.2 i _ x (by rw [oY, if_pos hi]) hx
 ·cases hv
def Hm (k : Nat) (ws : List (Nat × V)) : Bool := ws.all fun p => ah k p.2
theorem Sz {k n : Nat} {ws : List (Nat × V)} (h : Hm k ws = true) : (W n ws).all (ah k) = true := by
 rw [List.all_eq_true]
 intro v hv
 unfold W at hv
 obtain ⟨i, -, rfl⟩ := List.mem_map.1 hv
 clear hv
 induction ws with
 | nil => rfl
 | cons p r ih =>
  unfold Hm at h ih
  rw [List.all_cons, Bool.and_eq_true] at h
  simp only [lk]
  split
  ·exact h.1
  ·exact ih h.2

def X (_ : Tk) (m : Bool) (P : Program) (ρ : Option Nat) (n0 : Nat) (c : Code) (st : St) (Q : Exit → St → Prop) : Prop := match m with
 | true => dA P ρ n0 c st Q
 | false => Ex P ρ n0 c st Q
section
variable {k_ : Tk} {m : Bool} {P : Program} {tt : Table} {sp : List Nat} {ρ : Option Nat} {n0 : Nat} {st : St} {Q : Exit → St → Prop} {n : Nat} {ws ko : List (Nat × V)} {mem gu : List aC}
theorem X.mono {c : Code} {Q2 : Exit → St → Prop} (h : X k_ m P ρ n0 c st Q) (hq : ∀ e s, Q e s → Q2 e s) : X k_ m P ρ n0 c st Q2 := by
 cases m
 ·exact Ex.mono h hq
 ·exact dA.mono h hq
theorem yI {x y : Code} (h : X k_ m P ρ n0 x st (ee (fun st' => X k_ m P ρ n0 y st' Q) Q)) : X k_ m P ρ n0 (.seq x y) st Q := by
 cases m
 ·exact Hg h
 ·exact bN h
theorem KA {id : Nat} {c : Code} (h : X k_ m P ρ n0 c st (eX id Q)) : X k_ m P ρ n0 (.block id c) st Q := by
 cases m
 ·exact Hh h
 ·exact b9 h
theorem wS {c : Code} {st' : St} (hw : ∀ E w a, bc E w a st → bc E w a st') (h : X k_ m P ρ n0 c st' Q) : X k_ m P ρ n0 c st Q := by
 cases m
 ·obtain ⟨e, s, hq, h⟩ := h
  exact ⟨e, s, hq, fun Q' h' => oE hw (h Q' h')⟩
 ·exact oE hw h
theorem Oj {c : Code} (k : Nat) (hn : n0 ≤ k) (hf : st.fr.all (ah k) = true) (hm : (st.mem.take k).all (aB k) = true) (h : X k_ m P ρ n0 c { st with mem := st.mem.take k } Q) : X k_ m P ρ n0 c st Q := by
 cases m
 ·obtain ⟨e, s, hq, h⟩ := h
  exact ⟨e, s, hq, fun Q' h' => sd k [] hn hf hm (h Q' h')⟩
 ·exact sd k [] hn hf hm h
def q7 (n0 k n : Nat) (ws : List (Nat × V)) (mem : List aC) (st : St) : Prop :=
 ∃ ko gu, st = ⟨W n ko, gu⟩ ∧ n0 ≤ k ∧ pD ko ws ∧ Hm k ws = true ∧ mem.all (aB k) = true ∧ gu.take k = mem
theorem bz {k : Nat} (h0 : n0 ≤ k) (h1 : pD ko ws ∧ Hm k ws = true ∧ mem.all (aB k) = true ∧ gu.take k = mem) : q7 n0 k n ws mem ⟨W n ko, gu⟩ := ⟨ko, gu, rfl, h0, h1⟩
theorem Hn {c : Code} {k : Nat} (hl : q7 n0 k n ws mem st) (h : X k_ m P ρ n0 c ⟨W n ws, mem⟩ Q) : X k_ m P ρ n0 c st Q := by
 obtain ⟨ko, gu, rfl, h0, h1, h2, h3, h4⟩ := hl
 subst h4
 exact wS (st' := ⟨W n ws, gu⟩) (fun E w a hs => ⟨hs.F, hs.lt, hs.mem, hs.top, hs.bW, hs.apart, Kz h1 hs.fr⟩) (Oj k h0 (Sz h2) h3 h)

def gate (_ : Tk) (b : Bool) (d : Nat) (st : St) (f : Bool → St → Prop) : Prop := ∀ b', b = b' → f b' { st with fr := st.fr.set d (.sc (.bool b')) }
theorem Ol {d : Nat} {f : Bool → St → Prop} : gate k_ true d st f = f true { st with fr := st.fr.set d (.sc (.bool true)) } := propext ⟨fun h => h _ rfl, fun h b' e => by subst e; exact h⟩
theorem Om {d : Nat} {f : Bool → St → Prop} : gate k_ false d st f = f false { st with fr := st.fr.set d (.sc (.bool false)) } := propext ⟨fun h => h _ rfl, fun h b' e => by subst e; exact h⟩
theorem aT {b : Bool} {d : Nat} {f : Bool → St → Prop} (h1 : b = true → f true { st with fr := st.fr.set d (.sc (.bool true)) }) (h2 : b = false → f false { st with fr := st.fr.set d (.sc (.bool false)) }) : gate k_ b d st f := by
 intro b' e
 cases b' with
 | true => exact h1 e
 | false => exact h2 e
theorem Db {b : Bool} {d : Nat} {f : Bool → St → Prop} (hd : st.fr[d]? = some (.sc (.bool b)) ∨ st.fr.getD d .undef = .sc (.bool b)) (h : gate k_ b d st f) : f b st := by
 have := h b rfl
 have e : st.fr.set d (.sc (.bool b)) = st.fr := by
  rcases hd with hd | hd
  ·exact ig hd
  ·rw [List.getD_eq_getElem?_getD] at hd
   cases hg : st.fr[d]? with
   | none => rw [hg] at hd; cases hd
   | some v => rw [hg] at hd; cases hd; exact ig hg
 rw [e] at this
 exact this
def wT (_ : Tk) (v : Option V) (d : Nat) (want : Bool) (st : St) (yes no : St → Prop) : Prop := match v with
 | some (.sc (.bool b)) => gate tk b d st fun b s => match b == want with | true => yes s | false => no s
 | some (.sc _) => no st
 | some _ => False
 | none => no st
def qM : List Oper → Nat → Option Tmp
 | [], _ => none
 | o :: _, 0 => o.dst
 | _ :: r, n + 1 => qM r n
theorem KB {o : Oper} {r : List Oper} : qM (o :: r) 0 = o.dst := rfl
theorem Dd {o : Oper} {r : List Oper} {n : Nat} : qM (o :: r) (n + 1) = qM r n := rfl
theorem yJ : ∀ (l : List Oper) (j : Nat), qM l j = (l[j]?).bind (·.dst)
 | [], j => by simp [qM]
 | o :: r, 0 => rfl
 | o :: r, j + 1 => by rw [Dd, yJ r j, List.getElem?_cons_succ]
def gd (all : List Oper) (o : Oper) (st : St) (yes no : St → Prop) : Prop := match o.guard with
 | none => yes st
 | some (j, want) => match qM all j with
  | none => no st
  | some d => wT tk st.fr[d]? d want st yes no
theorem Mv {all : Array Oper} {o : Oper} {yes no : St → Prop} (h : gd all.toList o st yes no) : (dq all st.fr o = some true ∧ yes st) ∨ (dq all st.fr o = some false ∧ no st) := by
 unfold gd at h
 unfold dq
 split at h
 ·rename_i hg; rw [hg]; exact .inl ⟨rfl, h⟩
 ·rename_i j want hg
  rw [hg]
  dsimp only
  rw [yJ, Array.getElem?_toList] at h
  cases hd : (all[j]?).bind (·.dst) with
  | none => rw [hd] at h; exact .inr ⟨rfl, h⟩
  | some d =>
   rw [hd] at h
   dsimp only at h ⊢
   unfold wT at h
   split at h
   ·rename_i b hb
    have h := Db (.inl hb) h
    rw [hb]
    dsimp only
    cases hc : b == want with
    | true => rw [hc] at h; exact .inl ⟨rfl, h⟩
    | false => rw [hc] at h; exact .inr ⟨rfl, h⟩
   ·rename_i x hx hb
    rw [hb]
    cases x with
    | bool b => exact absurd rfl (hx b)
    | _ => exact .inr ⟨rfl, h⟩
   ·exact h.elim
   ·rename_i hb; rw [hb]; exact .inr ⟨rfl, h⟩
def nM (m : Bool) (P : Program) (tt : Table) (all : List Oper) : List Oper → St → (St → Prop) → Prop
 | [], st, Q => Q st
 | o :: r, st, Q => gd all o st (fun s => jm m P tt s.mem.length o s fun s => nM m P tt all r s Q) (fun s => nM m P tt all r (s.put o.dst (.sc undef)) Q)
theorem On {all : List Oper} {Q : St → Prop} : nM m P tt all [] ⟨W n ws, mem⟩ Q = Q ⟨W n ws, mem⟩ := fO rfl
theorem Oo {all : List Oper} {o : Oper} {r : List Oper} {Q : St → Prop} : nM m P tt all (o :: r) ⟨W n ws, mem⟩ Q = gd all o ⟨W n ws, mem⟩ (fun s => jm m P tt s.mem.length o s fun s => nM m P tt all r s Q) (fun s => nM m P tt all r (s.put o.dst (.sc undef)) Q) := fO rfl
def SA (m : Bool) (P : Program) (tt : Table) (all : Array Oper) (l : List Oper) (st : St) (Q : St → Prop) : Prop := match m with
 | true => cZ P tt all l st Q
 | false => ∃ s, Q s ∧ ∀ K : St → Prop, K s → cZ P tt all l st K
theorem wU {all : Array Oper} {Q : St → Prop} : ∀ (l : List Oper) (st : St), nM m P tt all.toList l st Q → SA m P tt all l st Q
 | [], st, h => by
  cases m with
  | true => show cZ P tt all [] st Q; rw [cZ]; exact h
  | false => exact ⟨st, h, fun K hK => by rw [cZ]; exact hK⟩
 | o :: r, st, h => by
  rw [nM] at h
  rcases Mv h with ⟨hw, h⟩ | ⟨hw, h⟩
  ·have h := Hk (Bi (B := fun s => SA m P tt all r s Q) h fun s hs => wU r s hs)
   cases m with
   | true =>
    show cZ P tt all (o :: r) st Q
    rw [cZ, hw]
    exact h
   | false =>
    obtain ⟨s1, h1, h2⟩ := h
    obtain ⟨s2, h3, h4⟩ := h1
    exact ⟨s2, h3, fun K hK => by rw [cZ, hw]; exact h2 _ (h4 K hK)⟩
  ·have h := wU r _ h
   cases m with
   | true =>
    show cZ P tt all (o :: r) st Q
    rw [cZ, hw]; exact h
   | false =>
    obtain ⟨s2, h3, h4⟩ := h
    exact ⟨s2, h3, fun K hK => by rw [cZ, hw]; exact h4 K hK⟩
theorem oZ (ht : TT P tt) {id : Nat} {ops : Array Oper} (h : nM m P tt ops.toList ops.toList st (Q .normal)) : X k_ m P ρ n0 (.region id ops false) st Q := by
 have h := wU _ _ h
 cases m with
 | true => exact gE ht h
 | false =>
  obtain ⟨s, h1, h2⟩ := h
  exact ⟨.normal, s, h1, fun Q' h' => gE ht (h2 _ h')⟩
def De (c : Operand) (st : St) (f : Bool → St → Prop) : Prop := match st.eval c with
 | .sc (.bool b) => match c with
  | .tmp t => gate tk b t st f
  | _ => f b st
 | _ => False
def Ho (i : Nat) : List Nat → Bool
 | [] => false
 | a :: r => if a = i then true else Ho i r
def ky : Code → Nat
 | .cond (.tmp t) _ _ => 10000 + t
 | .block i _ => 20000 + i
 | .seq _ _ => 30000
 | .region i _ _ => i
 | _ => 40000
def vc (m : Bool) (P : Program) (tt : Table) (sp : List Nat) (ρ : Option Nat) (n0 : Nat) : Code → St → (Exit → St → Prop) → Prop
 | .seq x y, st, Q => match x with
  | .region id ops false => match Ho id sp with
   | false => nM m P tt ops.toList ops.toList st fun s => vc m P tt sp ρ n0 y s Q
   | true => X tk m P ρ n0 (.seq (.region id ops false) y) st Q
  | .skip => vc m P tt sp ρ n0 y st Q
  | _ => match Ho (ky x) sp with
   | false => vc m P tt sp ρ n0 x st (ee (fun s => vc m P tt sp ρ n0 y s Q) Q)
   | true => X tk m P ρ n0 (.seq x y) st Q
 | .region id ops false, st, Q => match Ho id sp with
  | false => nM m P tt ops.toList ops.toList st (Q .normal)
  | true => X tk m P ρ n0 (.region id ops false) st Q
 | .cond c x y, st, Q => De c st fun b s => match b with | true => vc m P tt sp ρ n0 x s Q | false => vc m P tt sp ρ n0 y s Q
 | .block id c, st, Q => vc m P tt sp ρ n0 c st (eX id Q)
 | .skip, st, Q => Q .normal st
 | .ret, st, Q => Q .ret st
 | .exit id, st, Q => Q (.exit id) st
 | c, st, Q => X tk m P ρ n0 c st Q
theorem vx (ht : TT P tt) : ∀ {c : Code} {st : St} {Q : Exit → St → Prop}, vc m P tt sp ρ n0 c st Q → X k_ m P ρ n0 c st Q := by
 intro c
 induction c with
 | seq x y UX QF =>
  intro st Q h
  unfold vc at h
  split at h
  ·split at h
   ·refine yI ((oZ (Q := ee (fun s => vc m P tt sp ρ n0 y s Q) Q) ht h).mono fun e s h => ?_)
    cases e with
    | normal => exact QF h
    | _ => exact h
   ·exact h
  ·have h := QF h
   cases m
   ·exact Hg (C8 h)
   ·exact bN (cq h)
  ·split at h
   ·refine yI ((UX h).mono fun e s h => ?_)
    cases e with
    | normal => exact QF h
    | _ => exact h
   ·exact h
 | region id ops mixed =>
  intro st Q h
  cases mixed
  ·unfold vc at h
   split at h
   ·exact oZ ht h
   ·exact h
  ·unfold vc at h; exact h
 | cond c x y UX QF =>
  intro st Q h
  unfold vc at h
  unfold De at h
  split at h
  ·rename_i b hb
   have h : X k_ m P ρ n0 (if b = true then x else y) st Q := by
    split at h
    ·rename_i t
     have h := Db (.inr hb) h
     cases b
     ·exact QF h
     ·exact UX h
    ·cases b
     ·exact QF h
     ·exact UX h
   cases m
   ·exact Kw hb h
   ·exact bG hb h
  ·exact h.elim
 | block id c ih => intro st Q h; unfold vc at h; exact KA (ih h)
 | skip =>
  intro st Q h; unfold vc at h
  cases m
  ·exact C8 h
  ·exact cq h
 | ret =>
  intro st Q h; unfold vc at h
  cases m
  ·exact N8 h
  ·exact fb h
 | exit id =>
  intro st Q h; unfold vc at h
  cases m
  ·exact Kv h
  ·exact ib h
 | _ => intro st Q h; unfold vc at h; exact h
section
variable {x y : Code} {id : Nat} {ops : Array Oper} {c : Operand}
theorem Bk {v : Option V} {d : Nat} {want : Bool} {yes no : St → Prop} {k : Tk} : wT k v d want st yes no = match v with
  | some (.sc (.bool b)) => gate tk b d st fun b s => match b == want with | true => yes s | false => no s
  | some (.sc _) => no st
  | some _ => False
  | none => no st := fO rfl
def sV := @jm
theorem EE {key : Nat} {o : Oper} {Q : St → Prop} : jm m P tt key o ⟨W n ws, mem⟩ Q = sV m P tt key o ⟨W n ws, mem⟩ Q := fO rfl
theorem Oq {key : Nat} {o : Oper} {Q : St → Prop} : sV m P tt key o st Q = match o.op with
   | .alloc T => bq tk (tt T) fun i => Q ({ st with mem := bj st.mem key (.box (i.zero.map V.sc)) }.put o.dst (.ptr key 0))
   | .box _ x => bq tk (fU (st.eval x)) fun cs => Q ({ st with mem := bj st.mem key (.box cs) }.put o.dst (.ptr key 0))
   | .build T parts => bq tk (iD P tt T parts.toList st.eval) fun v => Q (st.put o.dst v)
   | .buildSlice T len parts => bq tk (Ky tt T len parts.toList st key) fun mem => Q ({ st with mem := mem }.put o.dst (.ms key 0 0 len))
   | .store T p x => bq tk (wQ tt st.mem T (st.eval p) (st.eval x)) fun mem => Q ({ st with mem := mem }.put o.dst (.sc undef))
   | .call { callee := .builtin .append, args := xs, argTypes := ts } => match xs.toList.map st.eval with
    | [s, x] => nq tk (dS tt st.mem ts.toList s x) (fun p => Q ({ st with mem := (cK st.mem key p.1 p.2.2 p.2.1).1 }.put o.dst (cK st.mem key p.1 p.2.2 p.2.1).2)) (UU tk m (jM tt st.mem ts.toList s x) st o.dst Q)
    | _ => False
   | .call { callee := .value f, args := xs, .. } => match st.eval f with
    | .gr k => Sx tk m P k (xs.toList.map st.eval) st o.dst Q
    | fv => bq tk (bw fv (xs.toList.map st.eval)) fun p => oX tk m P p.1 p.2 (dx st.mem p.2) (p.2.flatMap de) st o.dst Q
   | .makeSlice T l c => bq tk (nk tt T (st.eval l) (st.eval c)) fun p => Q ({ st with mem := bj st.mem key (.rows 0 p.1 p.2.1) }.put o.dst (.ms key 0 0 p.2.1.length))
   | .makeMap _ none => Q ({ st with mem := bj st.mem key (.map [] 0) }.put o.dst (.mp key))
   | .mapUpdate T d k x => bq tk (cD P st.mem T (st.eval d) (st.eval k) (st.eval x)) fun mem => Q ({ st with mem := mem }.put o.dst (.sc undef))
   | .insert T d k x => bq tk (cD P st.mem T (st.eval d) (st.eval k) (st.eval x)) fun mem => Q ({ st with mem := mem }.put o.dst (.sc undef))
   | .mapEntry T d k => bq tk (pI P st.mem T (st.eval d) (st.eval k)) fun p => Q ({ st with mem := p.1 }.put o.dst p.2)
   | .entryStore _ d s x => bq tk (pJ st.mem (st.eval d) (st.eval s) (st.eval x)) fun mem => Q ({ st with mem := mem }.put o.dst (.sc undef))
   | .call { callee := .builtin .delete, args := xs, argTypes := ts } => bq tk (mH P st.mem ts (xs.toList.map st.eval)) fun mem => Q ({ st with mem := mem }.put o.dst (.sc (.tuple #[])))
   | .range T x => bq tk (kg P st.mem T (st.eval x)) fun B => Q ({ st with mem := bj st.mem key B }.put o.dst (.ptr key 0))
   | .next it str => YZ tk m st o.dst (st.eval it) str Q
   | .binOp op T x y _ => nq tk (j1 tt op T (st.eval x) (st.eval y)) (fun n => UW tk m n op st o.dst Q) (bq tk (gp P tt st o) fun v => Q (st.put o.dst v))
   | _ => bq tk (gp P tt st o) fun v => Q (st.put o.dst v) := fO rfl
theorem Ot {all : List Oper} {o : Oper} {yes no : St → Prop} : gd all o ⟨W n ws, mem⟩ yes no = match o.guard with
  | none => yes ⟨W n ws, mem⟩
  | some (j, want) => match qM all j with
   | none => no ⟨W n ws, mem⟩
   | some d => wT tk (W n ws)[d]? d want ⟨W n ws, mem⟩ yes no := fO rfl
theorem EF {f : Bool → St → Prop} : De c st f = match st.eval c with
  | .sc (.bool b) => match c with
   | .tmp t => gate tk b t st f
   | _ => f b st
  | _ => False := fO rfl
theorem SB : vc m P tt sp ρ n0 (.seq (.region id ops false) y) ⟨W n ws, mem⟩ Q = match Ho id sp with
  | false => nM m P tt ops.toList ops.toList ⟨W n ws, mem⟩ fun s => vc m P tt sp ρ n0 y s Q
  | true => X tk m P ρ n0 (.seq (.region id ops false) y) ⟨W n ws, mem⟩ Q := fO rfl
theorem SC : vc m P tt sp ρ n0 (.seq (.region id ops true) y) ⟨W n ws, mem⟩ Q = match Ho id sp with
  | false => vc m P tt sp ρ n0 (.region id ops true) ⟨W n ws, mem⟩ (ee (fun s => vc m P tt sp ρ n0 y s Q) Q)
  | true => X tk m P ρ n0 (.seq (.region id ops true) y) ⟨W n ws, mem⟩ Q := fO rfl
theorem SD {x1 : Code} : vc m P tt sp ρ n0 (.seq (.seq x x1) y) ⟨W n ws, mem⟩ Q = match Ho 30000 sp with
  | false => vc m P tt sp ρ n0 (.seq x x1) ⟨W n ws, mem⟩ (ee (fun s => vc m P tt sp ρ n0 y s Q) Q)
  | true => X tk m P ρ n0 (.seq (.seq x x1) y) ⟨W n ws, mem⟩ Q := fO rfl
theorem SE {x1 : Code} {t : Nat} : vc m P tt sp ρ n0 (.seq (.cond (.tmp t) x x1) y) ⟨W n ws, mem⟩ Q = match Ho (10000 + t) sp with
  | false => vc m P tt sp ρ n0 (.cond (.tmp t) x x1) ⟨W n ws, mem⟩ (ee (fun s => vc m P tt sp ρ n0 y s Q) Q)
  | true => X tk m P ρ n0 (.seq (.cond (.tmp t) x x1) y) ⟨W n ws, mem⟩ Q := fO rfl
theorem SG : vc m P tt sp ρ n0 (.seq (.block id x) y) ⟨W n ws, mem⟩ Q = match Ho (20000 + id) sp with
  | false => vc m P tt sp ρ n0 (.block id x) ⟨W n ws, mem⟩ (ee (fun s => vc m P tt sp ρ n0 y s Q) Q)
  | true => X tk m P ρ n0 (.seq (.block id x) y) ⟨W n ws, mem⟩ Q := fO rfl
theorem Ww : vc m P tt sp ρ n0 (.region id ops false) ⟨W n ws, mem⟩ Q = match Ho id sp with
  | false => nM m P tt ops.toList ops.toList ⟨W n ws, mem⟩ (Q .normal)
  | true => X tk m P ρ n0 (.region id ops false) ⟨W n ws, mem⟩ Q := fO rfl
theorem Wx : vc m P tt sp ρ n0 (.region id ops true) ⟨W n ws, mem⟩ Q = X tk m P ρ n0 (.region id ops true) ⟨W n ws, mem⟩ Q := fO rfl
theorem Wy : vc m P tt sp ρ n0 (.cond c x y) ⟨W n ws, mem⟩ Q = De c ⟨W n ws, mem⟩ fun b s => match b with | true => vc m P tt sp ρ n0 x s Q | false => vc m P tt sp ρ n0 y s Q := fO rfl
theorem Wz : vc m P tt sp ρ n0 (.block id x) ⟨W n ws, mem⟩ Q = vc m P tt sp ρ n0 x ⟨W n ws, mem⟩ (eX id Q) := fO rfl
theorem WA : vc m P tt sp ρ n0 .skip ⟨W n ws, mem⟩ Q = Q .normal ⟨W n ws, mem⟩ := fO rfl
theorem WB : vc m P tt sp ρ n0 .ret ⟨W n ws, mem⟩ Q = Q .ret ⟨W n ws, mem⟩ := fO rfl
theorem WC : vc m P tt sp ρ n0 (.exit id) ⟨W n ws, mem⟩ Q = Q (.exit id) ⟨W n ws, mem⟩ := fO rfl
theorem WD : vc m P tt sp ρ n0 (.loop x) ⟨W n ws, mem⟩ Q = X tk m P ρ n0 (.loop x) ⟨W n ws, mem⟩ Q := fO rfl
theorem WE {f : St → Prop} : ee f Q .normal st = f st := fO rfl
theorem WG {f : St → Prop} : ee f Q .ret st = Q .ret st := fO rfl
theorem WH {f : St → Prop} {j : Nat} : ee f Q (.exit j) st = Q (.exit j) st := fO rfl
theorem WI {j : Nat} : eX j Q .normal st = Q .normal st := fO rfl
theorem WJ {j : Nat} : eX j Q .ret st = Q .ret st := fO rfl
theorem WK {i j : Nat} : eX i Q (.exit j) st = if j = i then Q .normal st else Q (.exit j) st := fO rfl
end
attribute [irreducible] vc
end
end Go.Eng
end

section
namespace Go.Eng
variable [aK]
section
variable {k_ : Tk} {m : Bool} {P : Program} {tt : Table} {ρ : Option Nat} {n0 : Nat} {st : St} {Q : Exit → St → Prop} {n : Nat} {ws ko : List (Nat × V)} {mem gu : List aC}
theorem yK (ht : TT P tt) {sp : List Nat} {y : Code} (e : Exit) (s : St) (h : ee (fun s => vc m P tt sp ρ n0 y s Q) Q e s) : ee (fun s => X k_ m P ρ n0 y s Q) Q e s := by
 cases e with
 | normal => exact vx (k_ := k_) ht h
 | _ => exact h
theorem sq (ht : TT P tt) (sp : List Nat) {x y : Code} (h : vc m P tt sp ρ n0 x st (ee (fun s => vc m P tt sp ρ n0 y s Q) Q)) : X k_ m P ρ n0 (.seq x y) st Q := yI ((vx ht h).mono (yK ht))
theorem Mw (ht : TT P tt) (sp : List Nat) {id : Nat} {ops : Array Oper} {y : Code} (h : nM m P tt ops.toList ops.toList st fun s => vc m P tt sp ρ n0 y s Q) : X k_ m P ρ n0 (.seq (.region id ops false) y) st Q :=
 yI ((oZ (Q := ee (fun s => vc m P tt sp ρ n0 y s Q) Q) ht h).mono (yK ht))
theorem EG (ht : TT P tt) {id : Nat} {ops : Array Oper} (h : nM m P tt ops.toList ops.toList st (Q .normal)) : X k_ m P ρ n0 (.region id ops false) st Q := oZ ht h
theorem k6 {c : Code} {k j : Nat} (hl : q7 n0 k n ws mem st) (h : jO P ρ n0 c j ⟨W n ws, mem⟩ Q) : jO P ρ n0 c j st Q := by
 cases j with
 | zero => exact h.elim
 | succ j => exact Hn (k_ := .b) (m := true) hl h
theorem Ou {α : Type} (F : α → List (Nat × V)) (M : α → List aC) (μ : α → Nat) (Inv : α → Prop) (a0 : α) (k : Nat) {c : Code} (h0 : q7 n0 k n (F a0) (M a0) st) (hi : Inv a0)
  (step : ∀ a, Inv a → X k_ m P ρ n0 c ⟨W n (F a), M a⟩ (ee (fun s => ∃ a', Inv a' ∧ μ a' < μ a ∧ q7 n0 k n (F a') (M a') s) Q)) : X k_ m P ρ n0 (.loop c) st Q := by
 cases m with
 | true =>
  have key : ∀ (j : Nat) (a : α), Inv a → μ a = j → jO P ρ n0 c (j + 1) ⟨W n (F a), M a⟩ Q := by
   intro j
   induction j using Nat.strongRecOn with
   | _ j ih =>
    intro a hi hj
    refine dA.mono (step a hi) fun e s h => ?_
    cases e with
    | normal =>
     obtain ⟨a', h1, h2, h3⟩ := h
     exact k6 h3 (nI (by omega) (ih _ (by omega) a' h1 rfl))
    | _ => exact h
  exact oD _ (k6 h0 (key _ a0 hi rfl))
 | false =>
  have key : ∀ (j : Nat) (a : α), Inv a → μ a = j → ∃ (e : Exit) (s : St), Q e s ∧ ∀ Q' : Exit → St → Prop, Q' e s → ∃ i, jO P ρ n0 c i ⟨W n (F a), M a⟩ Q' := by
   intro j
   induction j using Nat.strongRecOn with
   | _ j ih =>
    intro a hi hj
    obtain ⟨e, s, hq, h⟩ := step a hi
    cases e with
    | normal =>
     obtain ⟨a', h1, h2, h3⟩ := hq
     obtain ⟨e2, s2, Qq, h5⟩ := ih _ (by omega) a' h1 rfl
     refine ⟨e2, s2, Qq, fun Q' h' => ?_⟩
     obtain ⟨i, h6⟩ := h5 Q' h'
     exact ⟨i + 1, h _ (k6 h3 h6)⟩
    | _ => exact ⟨_, s, hq, fun Q' h' => ⟨1, h (ee (fun st' => jO P ρ n0 c 0 st' Q') Q') h'⟩⟩
  obtain ⟨e, s, hq, h⟩ := key _ a0 hi rfl
  refine ⟨e, s, hq, fun Q' h' => ?_⟩
  obtain ⟨j, hj⟩ := h Q' h'
  exact oD j (k6 h0 hj)
theorem dk (ht : TT P tt) (sp : List Nat) {α : Type} (F : α → List (Nat × V)) (M : α → List aC) (μ : α → Nat) (Inv : α → Prop) (a0 : α) (k : Nat) {c : Code} (h0 : q7 n0 k n (F a0) (M a0) st) (hi : Inv a0)
  (step : ∀ a, Inv a → ∀ K : St → Prop, (∀ s, (∃ a', Inv a' ∧ μ a' < μ a ∧ q7 n0 k n (F a') (M a') s) → K s) → vc m P tt sp ρ n0 c ⟨W n (F a), M a⟩ (ee K Q)) : X k_ m P ρ n0 (.loop c) st Q := Ou F M μ Inv a0 k h0 hi fun a h => vx ht (step a h _ fun _ h => h)
def pk (ws : List (Nat × V)) : List Nat → List (Nat × V)
 | [] => []
 | k :: r => (k, lk k ws) :: pk ws r
def zk : List Nat → List V → List (Nat × V) → List (Nat × V)
 | t :: ts, v :: vs, r => (t, v) :: zk ts vs r
 | _, _, r => r
theorem Ov {ks : List Nat} : pD ws (pk ws ks) := by
 induction ks with
 | nil => trivial
 | cons k r ih => exact ⟨rfl, ih⟩
theorem cA {k : Nat} {p : Nat × V} : Hm k (p :: ws) = (ah k p.2 && Hm k ws) := Sw rfl
theorem dK {k : Nat} : Hm k [] = true := Sw rfl
theorem Ow (ht : TT P tt) (sp : List Nat) (ts : List Nat) (SH : List V) (k : Nat) (ks : List Nat) (μ : List V → Nat) (Inv : List V → Prop) {c : Code} (hn : n0 ≤ k) (h0 : pD ko (zk ts SH (pk ko ks)) ∧ Hm k (zk ts SH (pk ko ks)) = true ∧ (gu.take k).all (aB k) = true) (hi : Inv SH)
  (step : ∀ vs, Inv vs → ∀ K : St → Prop, (∀ s, (∃ vs', Inv vs' ∧ μ vs' < μ vs ∧ q7 n0 k n (zk ts vs' (pk ko ks)) (gu.take k) s) → K s) → vc m P tt sp ρ n0 c ⟨W n (zk ts vs (pk ko ks)), gu.take k⟩ (ee K Q)) : X k_ m P ρ n0 (.loop c) ⟨W n ko, gu⟩ Q :=
 dk ht sp (fun vs => zk ts vs (pk ko ks)) (fun _ => gu.take k) μ Inv SH k (bz hn ⟨h0.1, h0.2.1, h0.2.2, rfl⟩) hi step
def dY (ws : List (Nat × V)) : List Nat → List V
 | [] => []
 | t :: r => lk t ws :: dY ws r
theorem wV : ∀ {ts : List Nat} {r : List (Nat × V)}, pD ws r → pD ws (zk ts (dY ws ts) r)
 | [], r, h => h
 | t :: ts, r, h => ⟨rfl, wV h⟩
theorem bk (ht : TT P tt) (sp : List Nat) (ts : List Nat) (k : Nat) (ks : List Nat) (μ : List V → Nat) (Inv : List V → Prop) {c : Code} (hn : n0 ≤ k) (h0 : Hm k (zk ts (dY ko ts) (pk ko ks)) = true ∧ (gu.take k).all (aB k) = true) (hi : Inv (dY ko ts))
  (step : ∀ vs, Inv vs → ∀ K : St → Prop, (∀ s, (∃ vs', Inv vs' ∧ μ vs' < μ vs ∧ q7 n0 k n (zk ts vs' (pk ko ks)) (gu.take k) s) → K s) → vc m P tt sp ρ n0 c ⟨W n (zk ts vs (pk ko ks)), gu.take k⟩ (ee K Q)) : X k_ m P ρ n0 (.loop c) ⟨W n ko, gu⟩ Q :=
 Ow ht sp ts (dY ko ts) k ks μ Inv hn ⟨wV Ov, h0⟩ hi step
theorem b5 {ts ks : List Nat} {k j : Nat} {Inv : List V → Prop} {μ : List V → Nat} {JG : List (Nat × V)} {Hp : List aC} (hn : n0 ≤ k) (h : pD JG (pk ko ks) ∧ Hm k (zk ts (dY JG ts) (pk ko ks)) = true ∧ (gu.take k).all (aB k) = true ∧ Hp.take k = gu.take k) (hi : Inv (dY JG ts)) (hm : μ (dY JG ts) < j) :
  ∃ vs', Inv vs' ∧ μ vs' < j ∧ q7 n0 k n (zk ts vs' (pk ko ks)) (gu.take k) ⟨W n JG, Hp⟩ := ⟨_, hi, hm, bz hn ⟨wV h.1, h.2⟩⟩
theorem Hq {ts ks : List Nat} {k : Nat} {Inv : List V → Prop} {JG : List (Nat × V)} {Hp : List aC} (hn : n0 ≤ k) (h : pD JG (pk ko ks) ∧ Hm k (zk ts (dY JG ts) (pk ko ks)) = true ∧ (gu.take k).all (aB k) = true ∧ Hp.take k = gu.take k) (hi : Inv (dY JG ts)) :
  ∃ vs', Inv vs' ∧ q7 n0 k n (zk ts vs' (pk ko ks)) (gu.take k) ⟨W n JG, Hp⟩ := ⟨_, hi, bz hn ⟨wV h.1, h.2⟩⟩
theorem Mx (ht : TT P tt) (sp : List Nat) (ts : List Nat) (k : Nat) (ks : List Nat) (Inv : List V → Prop) {x y : Code}
  (h1 : ∀ K : St → Prop, (∀ s, (∃ vs, Inv vs ∧ q7 n0 k n (zk ts vs (pk ko ks)) (gu.take k) s) → K s) → vc m P tt sp ρ n0 x ⟨W n ko, gu⟩ (ee K Q))
  (h2 : ∀ vs, Inv vs → vc m P tt sp ρ n0 y ⟨W n (zk ts vs (pk ko ks)), gu.take k⟩ Q) : X k_ m P ρ n0 (.seq x y) ⟨W n ko, gu⟩ Q := by
 refine yI ((vx ht (h1 _ fun _ h => h)).mono fun e s h => ?_)
 cases e with
 | normal =>
  obtain ⟨vs, hv, hl⟩ := h
  exact Hn (k_ := k_) hl (vx ht (h2 vs hv))
 | _ => exact h
theorem o0 {c : Code} {v v' : V} (t : Nat) (hn : t < n) (h0 : lk t ws = v) (hp : dR mem v = some v') (h : X k_ m P ρ n0 c ⟨W n ((t, v') :: ws), cL mem (de v)⟩ Q) : X k_ m P ρ n0 c ⟨W n ws, mem⟩ Q := by
 have hg : (⟨W n ws, mem⟩ : St).fr[t]? = some v := by rw [← h0]; show (W n ws)[t]? = _; rw [oY, if_pos hn]
 rw [← C9] at h
 cases m
 ·exact Oh t hg hp h
 ·exact wR t hg hp h
def My (_ : Tk) (P : Program) (f : FuncId) (o : Option (List V)) (st : St) (dst : Option Tmp) (Q : St → Prop) : Prop := ∃ vs' r, o = some vs' ∧ wG P f vs' r ∧ Q (st.put dst r)
def Ox (_ : Tk) (P : Program) (f : FuncId) (o : Option (List V)) (st : St) (key : Nat) (dst : Option Tmp) (Q : St → Prop) : Prop := ∃ vs' e rs, o = some vs' ∧ sj P f vs' e rs ∧ Q (sk st key dst e rs)
def Oy (_ : Tk) (P : Program) (f : FuncId) (o : Option (List V)) (keys : List (Nat × Nat)) (st : St) (dst : Option Tmp) (Q : St → Prop) : Prop := ∃ vs' r, o = some vs' ∧ aR P f vs' r ∧ Q ({ st with mem := eH st.mem keys r }.put dst r)
def Oz (_ : Tk) (P : Program) (f : FuncId) (vs : List V) (k : Nat) (st : St) (dst : Option Tmp) (Q : St → Prop) : Prop := GO P f vs k st dst Q
def fH (P : Program) (tt : Table) (o : Oper) (uj st : St) (Q : St → Prop) : Prop :=
 match o.op with
 | .call { callee := .value f, args := xs, .. } => bq tk (bw (uj.eval f) (xs.toList.map uj.eval)) fun p => My tk P p.1 (dx [] p.2) st o.dst Q
 | _ => bq tk (qZ P tt o uj) fun v => Q (st.put o.dst v)
def OA (P : Program) (o : Oper) (key : Nat) (st : St) (Q : St → Prop) : Prop :=
 match o.op with
 | .call { callee := .value f, args := xs, .. } => bq tk (bw (st.eval f) (xs.toList.map st.eval)) fun p => Ox tk P p.1 (dx [] p.2) st key o.dst Q
 | _ => False
def zG (P : Program) (o : Oper) (st : St) (Q : St → Prop) : Prop :=
 match o.op with
 | .call { callee := .value f, args := xs, .. } => bq tk (bw (st.eval f) (xs.toList.map st.eval)) fun p => Oy tk P p.1 (dx st.mem p.2) (p.2.flatMap de) st o.dst Q
 | _ => False
def eG (P : Program) (o : Oper) (k : Nat) (st : St) (Q : St → Prop) : Prop :=
 match o.op with
 | .call { callee := .value f, args := xs, .. } => bq tk (bw (st.eval f) (xs.toList.map st.eval)) fun p => Oz tk P p.1 p.2 k st o.dst Q
 | _ => False
def Hr (P : Program) (tt : Table) (base : Nat) (o : Oper) (p : Pl) (st : St) (Q : St → Prop) : Prop := match p.cls with
 | .n => fH P tt o { st with mem := [] } st Q
 | .r => fH P tt o { st with mem := dJ (p.mask.map (base + ·) ++ p.abs) st.mem } st Q
 | .a => isHole st.mem (base + p.key) = true ∧ nq tk (eR tt o (base + p.key) st) (fun q => Q ({ st with mem := st.mem.set (base + p.key) q.1 }.put o.dst q.2)) (OA P o (base + p.key) st Q)
 | .w => isHole st.mem (base + p.key) = true ∧ bq tk (oI P tt (base + p.key) o st) fun q => Q ({ st with mem := q.1 }.put o.dst q.2)
 | .s => bq tk (q6 tt (base + p.key) o st) fun mem => Q ({ st with mem := mem }.put o.dst (.sc undef))
 | .b => bq tk (lu tt o st) fun v => Q (st.put o.dst v)
 | .z => zG P o st Q
 | .e => eG P o p.key st Q
theorem OB {all : Array Oper} {base : Nat} {o : Oper} {p : Pl} {Q : St → Prop} (hw : dq all st.fr o = some true) (h : Hr P tt base o p st Q) : dV P tt all base o p st Q := by
 have hv : ∀ {uj : St}, fH P tt o uj st Q → q5 P tt o uj st Q := fun {uj} h => by
  unfold fH at h
  unfold q5
  split at h
  ·rename_i f xs ts lq
   rw [lq]
   dsimp only
   rw [ga] at h
   obtain ⟨⟨g, vs⟩, h1, h2⟩ := h
   rw [h1]
   exact h2
  ·rename_i lq
   split
   ·rename_i f xs ts WL; exact (lq f xs ts WL).elim
   ·rw [ga] at h
    obtain ⟨v, h1, h2⟩ := h
    rw [h1]; exact h2
 unfold Hr at h
 unfold dV
 rw [hw]
 dsimp only
 split at h <;> (rename_i hc; rw [hc]; dsimp only)
 ·exact hv h
 ·exact hv h
 ·refine ⟨h.1, ?_⟩
  have h := h.2
  cases hn : eR tt o (base + p.key) st with
  | some q => rw [hn, oV] at h; exact h
  | none =>
   rw [hn, oW] at h
   dsimp only
   unfold OA at h
   unfold nJ
   split at h
   ·rename_i lq
    rw [lq]
    dsimp only
    rw [ga] at h
    obtain ⟨⟨g, vs⟩, h1, h2⟩ := h
    rw [h1]; exact h2
   ·exact h.elim
 ·refine ⟨h.1, ?_⟩
  have h := h.2
  rw [ga] at h
  obtain ⟨q, h1, h2⟩ := h
  rw [h1]; exact h2
 ·rw [ga] at h
  obtain ⟨q, h1, h2⟩ := h
  rw [h1]; exact h2
 ·rw [ga] at h
  obtain ⟨q, h1, h2⟩ := h
  rw [h1]; exact h2
 ·unfold zG at h
  unfold l4
  split at h
  ·rename_i lq
   rw [lq]
   dsimp only
   rw [ga] at h
   obtain ⟨⟨g, vs⟩, h1, h2⟩ := h
   rw [h1]; exact h2
  ·exact h.elim
 ·unfold eG at h
  unfold uP
  split at h
  ·rename_i lq
   rw [lq]
   dsimp only
   rw [ga] at h
   obtain ⟨⟨g, vs⟩, h1, h2⟩ := h
   rw [h1]; exact h2
  ·exact h.elim
def yL (P : Program) (tt : Table) (all : List Oper) (base : Nat) : List Oper → List Pl → St → (St → Prop) → Prop
 | [], _, st, K => K st
 | o :: r, p :: ps, st, K => gd all o st (fun st => Hr P tt base o p st fun st' => yL P tt all base r ps st' K) (fun st => yL P tt all base r ps (st.put o.dst (.sc undef)) K)
 | _ :: _, [], _, _ => False
theorem OC {all : List Oper} {base : Nat} {ps : List Pl} {K : St → Prop} : yL P tt all base [] ps ⟨W n ws, mem⟩ K = K ⟨W n ws, mem⟩ := fO rfl
theorem OD {all : List Oper} {base : Nat} {o : Oper} {r : List Oper} {p : Pl} {ps : List Pl} {K : St → Prop} : yL P tt all base (o :: r) (p :: ps) ⟨W n ws, mem⟩ K = gd all o ⟨W n ws, mem⟩ (fun st => Hr P tt base o p st fun st' => yL P tt all base r ps st' K) (fun st => yL P tt all base r ps (st.put o.dst (.sc undef)) K) := fO rfl
theorem rC {all : Array Oper} {base : Nat} {Q : St → Prop} : ∀ (l : List Oper) (ps : List Pl) (st : St), yL P tt all.toList base l ps st Q → runM P tt all base l ps st Q
 | [], ps, st, h => h
 | o :: r, [], st, h => h.elim
 | o :: r, p :: ps, st, h => by
  rw [runM]
  rcases Mv (show gd all.toList o st _ _ from h) with ⟨hw, h⟩ | ⟨hw, h⟩
  ·have h := OB hw h
   by_cases hz : p.cls = .z
   ·unfold dV at h ⊢
    rw [hw, hz] at h ⊢
    exact sm h fun s hs => rC r ps s hs
   ·obtain ⟨v, m, h1, h2⟩ := (eM hz).1 h
    exact (eM hz).2 ⟨v, m, h1, rC r ps _ h2⟩
  ·unfold dV
   rw [hw]
   exact rC r ps _ h
theorem bR (ht : TT P tt) (hm : P.follows .mixedOrders = true) (plan : List Pl) (j : Nat) {id : Nat} {ops : Array Oper} (dc : su ops plan = true) (h : yL P tt ops.toList st.mem.length ops.toList plan { st with mem := st.mem ++ List.replicate j .hole } (Q .normal)) : X k_ m P ρ n0 (.region id ops true) st Q := by
 have h := rC _ _ _ h
 cases m
 ·obtain ⟨s, h1, h2⟩ := rB _ _ _ h
  exact ⟨.normal, s, h1, fun Q' h' => mO ht hm plan j dc (h2 _ h')⟩
 ·exact mO ht hm plan j dc h
section
variable {k : Tk} {f : FuncId} {vs vs' : List V} {o : Option (List V)} {keys : List (Nat × Nat)} {dst : Option Tmp} {Q : St → Prop}
theorem cF {R : V → Prop} (hr : ∃ v, R v ∧ aR P f vs' v) (h : ∀ v, R v → Q ({ st with mem := eH st.mem keys v }.put dst v)) : oX k m P f vs (some vs') keys st dst Q := by
 obtain ⟨v, h1, h2⟩ := hr
 exact .inl ⟨vs', v, rfl, h2, h v h1⟩
theorem cW {R : V → List aC → Prop} (hr : ∃ v m', R v m' ∧ bF P f vs st.mem v m') (h : ∀ v m', R v m' → Q ({ st with mem := m' }.put dst v)) : oX k m P f vs o keys st dst Q := by
 obtain ⟨v, m', h1, h2⟩ := hr
 exact .inr (.inl ⟨v, m', h2, h v m' h1⟩)
theorem cS {R : V → Prop} (hr : ∃ v, R v ∧ bF P f vs st.mem v st.mem) (h : ∀ v, R v → Q (st.put dst v)) : oX k m P f vs o keys st dst Q := by
 obtain ⟨v, h1, h2⟩ := hr
 exact .inr (.inl ⟨v, _, h2, h v h1⟩)
theorem cR {R : V → List aC → Prop} (hr : fm P f vs st.mem R) (h : ∀ v m', R v m' → Q ({ st with mem := m' }.put dst v)) : oX k true P f vs o keys st dst Q := .inr (.inr (.inl ⟨rfl, R, hr, h⟩))
theorem cG {R : V → Prop} (hr : ∃ v, R v ∧ aR P f vs' v) (h : ∀ v, R v → Q (st.put dst v)) : My k P f (some vs') st dst Q := by
 obtain ⟨v, h1, h2⟩ := hr
 exact ⟨vs', v, rfl, .inl h2, h v h1⟩
end
def q8 : Nat → List V → List (Nat × V)
 | i, v :: vs => (i, v) :: q8 (i + 1) vs
 | _, [] => []
theorem Df : ∀ (vs : List V) (i t : Nat), lk t (q8 i vs) = if i ≤ t then vs.getD (t - i) .undef else .undef
 | [], i, t => by simp [q8, lk]
 | v :: vs, i, t => by
  simp only [q8,lk]
  rw [Df vs (i + 1) t]
  by_cases h : i = t
  ·subst h; simp
  ·rw [if_neg h]
   by_cases h2 : i + 1 ≤ t
   ·rw [if_pos h2, if_pos (by omega), show t - i = (t - (i + 1)) + 1 by omega]; simp
   ·rw [if_neg h2, if_neg (by omega)]
theorem rD {fn : Func} {args : List V} {c : Code} (hn : fn.ntmps = n) (hl : args.length ≤ n) (h : X k_ m P ρ n0 c ⟨W n (q8 0 args), mem⟩ Q) : X k_ m P ρ n0 c (cE fn args mem) Q := by
 refine wS (st' := ⟨W n (q8 0 args), mem⟩) (fun E w a hs => ⟨hs.F, hs.lt, hs.mem, hs.top, hs.bW, hs.apart, ?_⟩) h
 have hr := hs.fr
 simp only [cE,hn] at hr
 refine ⟨by rw [← hr.1, mb, List.length_append, List.length_replicate]; omega, fun i v x hv hx => ?_⟩
 rw [oY] at hv
 split at hv
 ·rename_i hi
  cases hv
  rw [Df, if_pos (Nat.zero_le _), Nat.sub_zero, List.getD_eq_getElem?_getD]
  cases ha : args[i]? with
  | none => exact .undef _ _
  | some v => exact hr.2 i v x (by rw [List.getElem?_append_left (List.getElem?_eq_some_iff.1 ha).1]; exact ha) hx
 ·cases hv
def KC (R : V → Prop) (o : Option V) : Prop := ∃ r, R r ∧ o = some r
theorem EH {R : V → Prop} {v : V} : KC R (some v) = R v := propext ⟨fun ⟨_, h, e⟩ => by cases e; exact h, fun h => ⟨v, h, rfl⟩⟩
theorem Hs {K : V → Prop} {L : List V} {k : Nat} (h : L.length = k) (hk : K (.slice L)) : KC K (if k ≤ L.length then some (.slice (L.take k)) else none) := by
 subst h
 rw [if_pos (Nat.le_refl _), List.take_length]
 exact ⟨_, hk, rfl⟩
def OE (R : V → Prop) (tt : Table) (rs : Array ResultVar) (e : Exit) (s : St) : Prop := (e = .ret ∨ e = .normal) ∧ KC R (wB tt rs s)
theorem Ht {R : V → Prop} {rs : Array ResultVar} : OE R tt rs .ret ⟨W n ws, mem⟩ = KC R (wB tt rs ⟨W n ws, mem⟩) := propext ⟨fun h => h.2, fun h => ⟨.inl rfl, h⟩⟩
def KD (R : V → List aC → Prop) (k : Nat) (o : Option V) (mem : List aC) : Prop := ∃ r, R r mem ∧ o = some r ∧ ah k r = true ∧ mem.all (aB k) = true
theorem EI {R : V → List aC → Prop} {k : Nat} {v : V} : KD R k (some v) mem = (R v mem ∧ ah k v = true ∧ mem.all (aB k) = true) := propext ⟨fun ⟨_, h, e, h2⟩ => by cases e; exact ⟨h, h2⟩, fun ⟨h, h2⟩ => ⟨v, h, rfl, h2⟩⟩
def Hu (R : V → List aC → Prop) (k : Nat) (tt : Table) (rs : Array ResultVar) (e : Exit) (s : St) : Prop := (e = .ret ∨ e = .normal) ∧ KD R k (kU tt rs s) (s.mem.take k)
theorem Hv {R : V → List aC → Prop} {k : Nat} {rs : Array ResultVar} : Hu R k tt rs .ret ⟨W n ws, mem⟩ = KD R k (kU tt rs ⟨W n ws, mem⟩) (mem.take k) := propext ⟨fun h => h.2, fun h => ⟨.inl rfl, h⟩⟩
theorem EJ {R : V → List aC → Prop} {k : Nat} {rs : Array ResultVar} : Hu R k tt rs .normal ⟨W n ws, mem⟩ = KD R k (kU tt rs ⟨W n ws, mem⟩) (mem.take k) := propext ⟨fun h => h.2, fun h => ⟨.inr rfl, h⟩⟩
end
section
variable {P : Program} {tt : Table} {f : FuncId} {fn : Func} {body : Code} {args : List V}
theorem eu (ht : TT P tt) (sp : List Nat) (n : Nat) (rs : List ResultVar) {R : V → Prop} (hf : P.funcs[f]? = some fn) (hb : fn.body = some body)
  (bO : ∀ (xs : Array Value) (w : World), (callFunc f xs).run P w = .ok (.enter f xs) w) (hn : fn.ntmps = n ∧ fn.results = rs.toArray ∧ args.length ≤ n)
  (h : ∀ K : V → Prop, (∀ v, R v → K v) → vc false P tt sp none 0 body ⟨W n (q8 0 args), []⟩ (OE K tt rs.toArray)) : ∃ r, R r ∧ aR P f args r := by
 have h := h R fun _ h => h
 obtain ⟨e, s, ⟨h1, r, hr, h2⟩, h3⟩ := rD (m := false) hn.1 hn.2.2 (vx (k_ := .b) ht h)
 exact ⟨r, hr, GH ht hf hb bO (h3 _ ⟨h1, by rw [hn.2.1]; exact h2⟩)⟩
theorem Y1 (ht : TT P tt) (sp : List Nat) (n : Nat) (rs : List ResultVar) {r : V} (hf : P.funcs[f]? = some fn) (hb : fn.body = some body)
  (bO : ∀ (xs : Array Value) (w : World), (callFunc f xs).run P w = .ok (.enter f xs) w) (hn : fn.ntmps = n ∧ fn.results = rs.toArray ∧ args.length ≤ n)
  (h : ∀ K : V → Prop, (∀ v, v = r → K v) → vc true P tt sp none 0 body ⟨W n (q8 0 args), []⟩ (OE K tt rs.toArray)) : aR P f args r := by
 have h := h (fun v => v = r) fun _ h => h
 exact GH ht hf hb bO (dA.mono (rD (m := true) hn.1 hn.2.2 (vx (k_ := .b) ht h)) fun e s ⟨h1, r', hr, h2⟩ => ⟨h1, by rw [hn.2.1, ← hr]; exact h2⟩)
theorem WM (ht : TT P tt) (sp : List Nat) (n : Nat) (rs : List ResultVar) {R : V → List aC → Prop} {mem : List aC} (k : Nat) (hk : mem.length ≤ k) (hf : P.funcs[f]? = some fn) (hb : fn.body = some body)
  (bO : ∀ (xs : Array Value) (w : World), (callFunc f xs).run P w = .ok (.enter f xs) w) (hn : fn.ntmps = n ∧ fn.results = rs.toArray ∧ args.length ≤ n)
  (h : ∀ K : V → List aC → Prop, (∀ v m', R v m' → K v m') → vc false P tt sp none mem.length body ⟨W n (q8 0 args), mem⟩ (Hu K k tt rs.toArray)) : ∃ r m', R r m' ∧ bF P f args mem r m' := by
 have h := h R fun _ _ h => h
 obtain ⟨e, s, ⟨h1, r, hr, h2, h4⟩, h5⟩ := rD (m := false) hn.1 hn.2.2 (vx (k_ := .b) ht h)
 exact ⟨r, _, hr, lY ht k hk hf hb bO (h5 _ ⟨h1, by rw [hn.2.1]; exact h2, h4.1, h4.2, rfl⟩)⟩
theorem Mz (ht : TT P tt) (sp : List Nat) (n : Nat) (rs : List ResultVar) {R : V → Prop} {mem : List aC} (hf : P.funcs[f]? = some fn) (hb : fn.body = some body)
  (bO : ∀ (xs : Array Value) (w : World), (callFunc f xs).run P w = .ok (.enter f xs) w) (hn : fn.ntmps = n ∧ fn.results = rs.toArray ∧ args.length ≤ n)
  (h : ∀ K : V → List aC → Prop, (∀ v m', R v ∧ m' = mem → K v m') → vc false P tt sp none mem.length body ⟨W n (q8 0 args), mem⟩ (Hu K mem.length tt rs.toArray)) : ∃ r, R r ∧ bF P f args mem r mem := by
 obtain ⟨r, m', ⟨hr, rfl⟩, h⟩ := WM ht sp n rs (R := fun r m' => R r ∧ m' = mem) mem.length (Nat.le_refl _) hf hb bO hn h
 exact ⟨r, hr, h⟩
theorem vfr (ht : TT P tt) (sp : List Nat) (n : Nat) (rs : List ResultVar) {R : V → List aC → Prop} {mem : List aC} (k : Nat) (hk : mem.length ≤ k) (hf : P.funcs[f]? = some fn) (hb : fn.body = some body)
  (bO : ∀ (xs : Array Value) (w : World), (callFunc f xs).run P w = .ok (.enter f xs) w) (hn : fn.ntmps = n ∧ fn.results = rs.toArray ∧ args.length ≤ n)
  (h : ∀ K : V → List aC → Prop, (∀ v m', R v m' → K v m') → vc true P tt sp none mem.length body ⟨W n (q8 0 args), mem⟩ (Hu K k tt rs.toArray)) : fm P f args mem R := by
 have h := h R fun _ _ h => h
 exact AR ht hf hb bO (R := R) (dA.mono (rD (m := true) hn.1 hn.2.2 (vx (k_ := .b) ht h)) fun ex s ⟨h1, r, h2, h3, h4, h5⟩ => ⟨h1, r, k, hk, by rw [hn.2.1]; exact h3, h4, h5, h2⟩)
end
end Go.Eng
end

section
namespace Go.Eng
variable [aK]
open Go.RowKit (Below)

mutual
def dm (σ : Nat → Nat) : V → V
 | .undef => .undef
 | .sc v => .sc v
 | .agg cs => .agg (kp σ cs)
 | .slice rows => .slice rows
 | .ms b v s l => .ms (σ b) v s l
 | .ptr b o => .ptr (σ b) o
 | .dw b v i o => .dw (σ b) v i o
 | .cn cs => .cn cs
 | .iw f first cap => .iw f (kp σ first) (kp σ cap)
 | .ch vs => .ch (kp σ vs)
 | .gr b => .gr (σ b)
 | .mp b => .mp (σ b)
 | .gn => .gn
 | .full rows => .full rows
def kp (σ : Nat → Nat) : List V → List V
 | [] => []
 | c :: r => dm σ c :: kp σ r
end
theorem dL (σ : Nat → Nat) : ∀ l : List V, kp σ l = l.map (dm σ)
 | [] => rfl
 | c :: r => by rw [kp, dL σ r]; rfl
def j5 (σ : Nat → Nat) : aC → aC
 | .box cs => .box (kp σ cs)
 | .loop s p fr ps a b => .loop s p (kp σ fr) ps a b
 | .map bK c => .map (bK.map fun e => (e.1, e.2.1, dm σ e.2.2)) c
 | .eA m since seen last => .eA (σ m) since seen last
 | B => B
theorem yM (σ : Nat → Nat) (B : aC) : (j5 σ B).bW = B.bW := by cases B <;> rfl
theorem a8.F6 {E : Env} {v : V} {x : Value} (h : a8 E v x) : ∀ {n : Nat} {σ : Nat → Nat} {E2 : Env}, ah n v = true → (∀ ad y, E.F ad = some y → E2.F ad = some y) → (∀ k v t, k < n → E.aM k v = some t → E2.aM (σ k) v = some t) → a8 E2 (dm σ v) x := by
 induction h with
 | undef => intros; exact .undef _ _
 | sc => intros; exact .sc _ _
 | slice E rows a cap nB ad xf ha iS hz hF h1 hR ih =>
  intro n σ E2 hb ec hk
  exact .slice _ _ _ _ nB ad xf ha iS hz (fun i row j c hi hj => ec _ _ (hF i row j c hi hj)) h1 fun i row j c hi hj => (hR i row j c hi hj).mono ⟨ec, fun _ _ _ h => by cases h⟩
 | ms E b v s l g e c a cap fh hl h0 CE =>
  intro n σ E2 hb ec hk
  exact .ms _ _ _ _ _ g e c _ _ (hk _ _ _ (by simpa [ah] using hb) fh) hl h0 CE
 | dg => intros; exact .dg _ _ _ _
 | ptr E b o g e c fh =>
  intro n σ E2 hb ec hk
  exact .ptr _ _ _ g e c (hk _ _ _ (by simpa [ah] using hb) fh)
 | gr E b l e c fh =>
  intro n σ E2 hb ec hk
  exact .gr _ _ l e c (hk _ _ _ (by simpa [ah] using hb) fh)
 | mp E b l e c fh =>
  intro n σ E2 hb ec hk
  exact .mp _ _ l e c (hk _ _ _ (by simpa [ah] using hb) fh)
 | dw E b v i o g e c fh =>
  intro n σ E2 hb ec hk
  exact .dw _ _ _ _ _ g e c (hk _ _ _ (by simpa [ah] using hb) fh)
 | cn E cs ad xf hF hR ih =>
  intro n σ E2 hb ec hk
  exact .cn _ _ _ xf (fun j c hj => ec _ _ (hF j c hj)) fun j c hj => (hR j c hj).mono ⟨ec, fun _ _ _ h => by cases h⟩
 | gn => intros; exact .gn _
 | full E rows a h ih =>
  intro n σ E2 hb ec hk
  exact .full _ _ _ (ih (n := n) (σ := σ) rfl ec hk)
 | agg E cs xs hl hh ih =>
  intro n σ E2 hb ec hk
  rw [ah, cM] at hb
  rw [dm, dL]
  refine .agg _ _ _ (by rw [List.length_map]; exact hl) fun i c x hc hx => ?_
  rw [List.getElem?_map, Option.map_eq_some_iff] at hc
  obtain ⟨c0, yD, rfl⟩ := hc
  exact ih i c0 x yD hx (List.all_eq_true.1 hb c0 (List.mem_of_getElem? yD)) ec hk
 | ch E cs xs hl hh ih =>
  intro n σ E2 hb ec hk
  rw [ah, cM] at hb
  rw [dm, dL]
  refine .ch _ _ _ (by rw [List.length_map]; exact hl) fun i c x hc hx => ?_
  rw [List.getElem?_map, Option.map_eq_some_iff] at hc
  obtain ⟨c0, yD, rfl⟩ := hc
  exact ih i c0 x yD hx (List.all_eq_true.1 hb c0 (List.mem_of_getElem? yD)) ec hk
 | iw E f first cap xs ys hx hy h1 h2 Nb Nc =>
  intro n σ E2 hb ec hk
  rw [ah, cM, cM, Bool.and_eq_true] at hb
  rw [dm, dL, dL]
  refine .iw _ _ _ _ _ _ (by rw [List.length_map]; exact hx) (by rw [List.length_map]; exact hy) (fun i c x hc hx => ?_) fun i c x hc hx => ?_
  ·rw [List.getElem?_map, Option.map_eq_some_iff] at hc
   obtain ⟨c0, yD, rfl⟩ := hc
   exact Nb i c0 x yD hx (List.all_eq_true.1 hb.1 c0 (List.mem_of_getElem? yD)) ec hk
  ·rw [List.getElem?_map, Option.map_eq_some_iff] at hc
   obtain ⟨c0, yD, rfl⟩ := hc
   exact Nc i c0 x yD hx (List.all_eq_true.1 hb.2 c0 (List.mem_of_getElem? yD)) ec hk
theorem a8.qN {E : Env} {u : V} {x : Value} (h : a8 E u x) : ∀ {v : V} {n : Nat} {σ : Nat → Nat} {E2 : Env}, u = dm σ v → ah n v = true → (∀ ad y, E.F ad = some y → E2.F ad = some y) → (∀ k v t, k < n → E.aM (σ k) v = some t → E2.aM k v = some t) → a8 E2 v x := by
 induction h with
 | undef =>
  intro v n σ E2 he hb ec hk
  cases v <;> simp only [dm,reduceCtorEq] at he
  exact .undef _ _
 | sc =>
  intro v n σ E2 he hb ec hk
  cases v <;> simp only [dm,reduceCtorEq,V.sc.injEq] at he
  subst he; exact .sc _ _
 | slice E rows a cap nB ad xf ha iS hz hF h1 hR ih =>
  intro v n σ E2 he hb ec hk
  cases v <;> simp only [dm,reduceCtorEq,V.slice.injEq] at he
  subst he
  exact .slice _ _ _ _ nB ad xf ha iS hz (fun i row j c hi hj => ec _ _ (hF i row j c hi hj)) h1 fun i row j c hi hj => (hR i row j c hi hj).mono ⟨ec, fun _ _ _ h => by cases h⟩
 | ms E b v s l g e c a cap fh hl h0 CE =>
  intro v n σ E2 he hb ec hk
  cases v <;> simp only [dm,reduceCtorEq,V.ms.injEq] at he
  obtain ⟨rfl, rfl, rfl, rfl⟩ := he
  exact .ms _ _ _ _ _ g e c _ _ (hk _ _ _ (by simpa [ah] using hb) fh) hl h0 CE
 | dg =>
  intro v n σ E2 he hb ec hk
  cases v <;> simp only [dm,reduceCtorEq,V.ms.injEq] at he
  obtain ⟨rfl, rfl, rfl, rfl⟩ := he
  exact .dg _ _ _ _
 | ptr E b o g e c fh =>
  intro v n σ E2 he hb ec hk
  cases v <;> simp only [dm,reduceCtorEq,V.ptr.injEq] at he
  obtain ⟨rfl, rfl⟩ := he
  exact .ptr _ _ _ g e c (hk _ _ _ (by simpa [ah] using hb) fh)
 | gr E b l e c fh =>
  intro v n σ E2 he hb ec hk
  cases v <;> simp only [dm,reduceCtorEq,V.gr.injEq] at he
  subst he
  exact .gr _ _ l e c (hk _ _ _ (by simpa [ah] using hb) fh)
 | mp E b l e c fh =>
  intro v n σ E2 he hb ec hk
  cases v <;> simp only [dm,reduceCtorEq,V.mp.injEq] at he
  subst he
  exact .mp _ _ l e c (hk _ _ _ (by simpa [ah] using hb) fh)
 | dw E b v i o g e c fh =>
  intro v n σ E2 he hb ec hk
  cases v <;> simp only [dm,reduceCtorEq,V.dw.injEq] at he
  obtain ⟨rfl, rfl, rfl, rfl⟩ := he
  exact .dw _ _ _ _ _ g e c (hk _ _ _ (by simpa [ah] using hb) fh)
 | cn E cs ad xf hF hR ih =>
  intro v n σ E2 he hb ec hk
  cases v <;> simp only [dm,reduceCtorEq,V.cn.injEq] at he
  subst he
  exact .cn _ _ _ xf (fun j c hj => ec _ _ (hF j c hj)) fun j c hj => (hR j c hj).mono ⟨ec, fun _ _ _ h => by cases h⟩
 | full E rows a h ih =>
  intro v n σ E2 he hb ec hk
  cases v <;> simp only [dm,reduceCtorEq,V.full.injEq] at he
  subst he
  exact .full _ _ _ (ih (v := .slice rows) (n := n) (σ := σ) rfl rfl ec hk)
 | gn =>
  intro v n σ E2 he hb ec hk
  cases v <;> simp only [dm,reduceCtorEq] at he
  exact .gn _
 | agg E cs xs hl hh ih =>
  intro v n σ E2 he hb ec hk
  cases v <;> simp only [dm,reduceCtorEq,V.agg.injEq] at he
  subst he
  rw [ah, cM] at hb
  rw [dL, List.length_map] at hl
  refine .agg _ _ _ hl fun i c x hc hx => ?_
  exact ih i (dm σ c) x (by rw [dL, List.getElem?_map, hc]; rfl) hx rfl (List.all_eq_true.1 hb c (List.mem_of_getElem? hc)) ec hk
 | ch E cs xs hl hh ih =>
  intro v n σ E2 he hb ec hk
  cases v <;> simp only [dm,reduceCtorEq,V.ch.injEq] at he
  subst he
  rw [ah, cM] at hb
  rw [dL, List.length_map] at hl
  refine .ch _ _ _ hl fun i c x hc hx => ?_
  exact ih i (dm σ c) x (by rw [dL, List.getElem?_map, hc]; rfl) hx rfl (List.all_eq_true.1 hb c (List.mem_of_getElem? hc)) ec hk
 | iw E f first cap xs ys hx hy h1 h2 Nb Nc =>
  intro v n σ E2 he hb ec hk
  cases v <;> simp only [dm,reduceCtorEq,V.iw.injEq] at he
  obtain ⟨rfl, rfl, rfl⟩ := he
  rw [ah, cM, cM, Bool.and_eq_true] at hb
  rw [dL, List.length_map] at hx hy
  refine .iw _ _ _ _ _ _ hx hy (fun i c x hc hx => ?_) fun i c x hc hx => ?_
  ·exact Nb i (dm σ c) x (by rw [dL, List.getElem?_map, hc]; rfl) hx rfl (List.all_eq_true.1 hb.1 c (List.mem_of_getElem? hc)) ec hk
  ·exact Nc i (dm σ c) x (by rw [dL, List.getElem?_map, hc]; rfl) hx rfl (List.all_eq_true.1 hb.2 c (List.mem_of_getElem? hc)) ec hk
theorem aV.F6 {E E2 : Env} {vs : List V} {xs : List Value} {n : Nat} {σ : Nat → Nat} (h : aV E vs xs) (hb : vs.all (ah n) = true) (hF : ∀ ad y, E.F ad = some y → E2.F ad = some y) (hk : ∀ k v t, k < n → E.aM k v = some t → E2.aM (σ k) v = some t) : aV E2 (kp σ vs) xs := by
 rw [dL]
 refine ⟨by rw [List.length_map]; exact h.1, fun i v x hv hx => ?_⟩
 rw [List.getElem?_map, Option.map_eq_some_iff] at hv
 obtain ⟨c, hc, rfl⟩ := hv
 exact (h.2 i c x hc hx).F6 (List.all_eq_true.1 hb c (List.mem_of_getElem? hc)) hF hk
theorem aV.qN {E E2 : Env} {vs : List V} {xs : List Value} {n : Nat} {σ : Nat → Nat} (h : aV E (kp σ vs) xs) (hb : vs.all (ah n) = true) (hF : ∀ ad y, E.F ad = some y → E2.F ad = some y) (hk : ∀ k v t, k < n → E.aM (σ k) v = some t → E2.aM k v = some t) : aV E2 vs xs := by
 rw [dL] at h
 refine ⟨by have := h.1; rwa [List.length_map] at this, fun i v x hv hx => ?_⟩
 exact (h.2 i (dm σ v) x (by rw [List.getElem?_map, hv]; rfl) hx).qN rfl (List.all_eq_true.1 hb v (List.mem_of_getElem? hv)) hF hk
theorem iP.F6 {E E2 : Env} {w w2 : World} {k : Nat} {B : aC} {n : Nat} {σ : Nat → Nat} (h : iP E w k B) (gF : k < n) (hb : aB n B = true) (hF : E2.F = E.F) (hk : ∀ k v, k < n → E2.aM (σ k) v = E.aM k v) (hw : w2.heap = w.heap) : iP E2 w2 (σ k) (j5 σ B) := by
 have AK : ∀ ad y, E.F ad = some y → E2.F ad = some y := fun ad y h => by rw [hF]; exact h
 have dP : ∀ k v t, k < n → E.aM k v = some t → E2.aM (σ k) v = some t := fun k v t hn h => by rw [hk k v hn]; exact h
 have hp : E2.pure = E.pure := Env.DY hF rfl
 cases B with
 | hole => exact fun v => by rw [hk k v gF]; exact h v
 | dead => trivial
 | box cs =>
  obtain ⟨g, T, xs, h1, h2, h3, h4⟩ := h
  exact ⟨g, T, xs, dP _ _ _ gF h1, by rw [hw]; exact h2, h3.F6 hb AK dP, fun o => by rw [hF]; exact h4 o⟩
 | rows v e rs =>
  rcases h with ⟨h1, h2⟩ | ⟨g, T, xs, c, h1, h2, h3, h4, h5, h6⟩
  ·exact .inl ⟨h1, by rw [hk k v gF]; exact h2⟩
  ·exact .inr ⟨g, T, xs, c, dP _ _ _ gF h1, by rw [hw]; exact h2, h3, h4, by rw [hp]; exact h5, fun o => by rw [hF]; exact h6 o⟩
 | pB v e rs =>
  rcases h with ⟨h1, h2⟩ | ⟨g, c, h1, h2, h3⟩
  ·exact .inl ⟨h1, by rw [hk k v gF]; exact h2⟩
  ·exact .inr ⟨g, c, dP _ _ _ gF h1, h2, by rw [hp, hF]; exact h3⟩
 | loop s iU fr params assign body =>
  obtain ⟨l, fn, tmps, db, h1, h2, h3, h4⟩ := h
  exact ⟨l, fn, tmps, db, dP _ _ _ gF h1, by rw [hw]; exact h2, h3.F6 hb AK dP, fun o => by rw [hF]; exact h4 o⟩
 | map bK clock =>
  obtain ⟨g, es, h1, h2, h3, h4⟩ := h
  refine ⟨g, es, dP _ _ _ gF h1, by rw [hw]; exact h2, ⟨by rw [List.length_map]; exact h3.1, fun i kb e eQ he => ?_⟩, fun o => by rw [hF]; exact h4 o⟩
  rw [List.getElem?_map, Option.map_eq_some_iff] at eQ
  obtain ⟨q, hq, rfl⟩ := eQ
  obtain ⟨p1, p2, p3⟩ := h3.2 i q e hq he
  exact ⟨p1, p2, p3.F6 (List.all_eq_true.1 hb q (List.mem_of_getElem? hq)) AK dP⟩
 | eA m since seen last =>
  obtain ⟨g, gm, e, c, h1, h2, h3, h4⟩ := h
  exact ⟨g, gm, e, c, dP _ _ _ gF h1, dP _ _ _ (by simpa [aB] using hb) h2, by rw [hw]; exact h3, fun o => by rw [hF]; exact h4 o⟩
 | iO s pos =>
  obtain ⟨g, h1, h2, h3⟩ := h
  exact ⟨g, dP _ _ _ gF h1, by rw [hw]; exact h2, fun o => by rw [hF]; exact h3 o⟩
 | je =>
  obtain ⟨g, h1, h2, h3⟩ := h
  exact ⟨g, dP _ _ _ gF h1, by rw [hw]; exact h2, fun o => by rw [hF]; exact h3 o⟩
theorem iP.qN {E E2 : Env} {w : World} {k : Nat} {B : aC} {n : Nat} {σ : Nat → Nat} (h : iP E w (σ k) (j5 σ B)) (gF : k < n) (hb : aB n B = true) (hF : E2.F = E.F) (hk : ∀ k v, k < n → E2.aM k v = E.aM (σ k) v) : iP E2 w k B := by
 have AK : ∀ ad y, E.F ad = some y → E2.F ad = some y := fun ad y h => by rw [hF]; exact h
 have dP : ∀ k v t, k < n → E.aM (σ k) v = some t → E2.aM k v = some t := fun k v t hn h => by rw [hk k v hn]; exact h
 have hp : E2.pure = E.pure := Env.DY hF rfl
 cases B with
 | hole => exact fun v => by rw [hk k v gF]; exact h v
 | dead => trivial
 | box cs =>
  obtain ⟨g, T, xs, h1, h2, h3, h4⟩ := h
  exact ⟨g, T, xs, dP _ _ _ gF h1, h2, h3.qN hb AK dP, fun o => by rw [hF]; exact h4 o⟩
 | rows v e rs =>
  rcases h with ⟨h1, h2⟩ | ⟨g, T, xs, c, h1, h2, h3, h4, h5, h6⟩
  ·exact .inl ⟨h1, by rw [hk k v gF]; exact h2⟩
  ·exact .inr ⟨g, T, xs, c, dP _ _ _ gF h1, h2, h3, h4, by rw [hp]; exact h5, fun o => by rw [hF]; exact h6 o⟩
 | pB v e rs =>
  rcases h with ⟨h1, h2⟩ | ⟨g, c, h1, h2, h3⟩
  ·exact .inl ⟨h1, by rw [hk k v gF]; exact h2⟩
  ·exact .inr ⟨g, c, dP _ _ _ gF h1, h2, by rw [hp, hF]; exact h3⟩
 | loop s iU fr params assign body =>
  obtain ⟨l, fn, tmps, db, h1, h2, h3, h4⟩ := h
  exact ⟨l, fn, tmps, db, dP _ _ _ gF h1, h2, h3.qN hb AK dP, fun o => by rw [hF]; exact h4 o⟩
 | map bK clock =>
  obtain ⟨g, es, h1, h2, h3, h4⟩ := h
  refine ⟨g, es, dP _ _ _ gF h1, h2, ⟨by have := h3.1; rwa [List.length_map] at this, fun i q e hq he => ?_⟩, fun o => by rw [hF]; exact h4 o⟩
  obtain ⟨p1, p2, p3⟩ := h3.2 i _ e (by rw [List.getElem?_map, hq]; rfl) he
  exact ⟨p1, p2, p3.qN rfl (List.all_eq_true.1 hb q (List.mem_of_getElem? hq)) AK dP⟩
 | eA m since seen last =>
  obtain ⟨g, gm, e, c, h1, h2, h3, h4⟩ := h
  exact ⟨g, gm, e, c, dP _ _ _ gF h1, dP _ _ _ (by simpa [aB] using hb) h2, h3, fun o => by rw [hF]; exact h4 o⟩
 | iO s pos =>
  obtain ⟨g, h1, h2, h3⟩ := h
  exact ⟨g, dP _ _ _ gF h1, h2, fun o => by rw [hF]; exact h3 o⟩
 | je =>
  obtain ⟨g, h1, h2, h3⟩ := h
  exact ⟨g, dP _ _ _ gF h1, h2, fun o => by rw [hF]; exact h3 o⟩

def jn (σ : Nat → Nat) : Nat → List aC → List aC → List aC
 | _, [], M => M
 | i, B :: r, M => jn σ (i + 1) r (M.set (σ i) (j5 σ B))
def o3 (σ : Nat → Nat) (n : Nat) (aF M : List aC) : List aC := jn σ 0 (aF.take n) M ++ (aF.drop n).map (j5 σ)
theorem eO (σ : Nat → Nat) : ∀ (l : List aC) (i : Nat) (M : List aC), (jn σ i l M).length = M.length
 | [], _, _ => rfl
 | B :: r, i, M => by rw [jn, eO σ r]; simp
theorem pW (σ : Nat → Nat) : ∀ (l : List aC) (i : Nat) (M : List aC) (k : Nat), (∀ j, i ≤ j → j < i + l.length → σ j ≠ k) → (jn σ i l M)[k]? = M[k]?
 | [], _, _, _, _ => rfl
 | B :: r, i, M, k, h => by
  rw [jn, pW σ r (i + 1) _ k fun j h1 h2 => h j (by omega) (by simp; omega), List.getElem?_set_ne (h i (Nat.le_refl _) (by simp))]
theorem uX (σ : Nat → Nat) : ∀ (l : List aC) (i : Nat) (M : List aC) (j : Nat) (B : aC), (∀ a b, i ≤ a → a < i + l.length → i ≤ b → b < i + l.length → σ a = σ b → a = b) → i ≤ j → l[j - i]? = some B → σ j < M.length → (jn σ i l M)[σ j]? = some (j5 σ B)
 | [], _, _, _, _, _, _, h, _ => by simp at h
 | C :: r, i, M, j, B, EK, qW, h, aL => by
  rw [jn]
  by_cases hj : j = i
  ·subst hj
   rw [Nat.sub_self] at h; cases h
   rw [pW σ r (j + 1) _ (σ j) fun a h1 h2 e => by have := EK a j (by omega) (by simp; omega) (Nat.le_refl _) (by simp) e; omega]
   rw [List.getElem?_set]; simp [aL]
  ·refine uX σ r (i + 1) _ j B (fun a b h1 h2 h3 h4 => EK a b (by omega) (by simp; omega) (by omega) (by simp; omega)) (by omega) ?_ (by simpa using aL)
   rw [show j - i = (j - (i + 1)) + 1 by omega] at h
   simpa using h
theorem bF.F6 {P : Program} {f : FuncId} {vs : List V} {r : V} {mem aF : List aC} (h : bF P f vs mem r aF) (M : List aC) (σ : Nat → Nat) (n : Nat) (hn : n = mem.length) (hv : vs.all (ah n) = true) (hm : mem.all (aB n) = true) (hr : ah aF.length r = true)
  (NW : aF.all (aB aF.length) = true) (hlen : n ≤ aF.length) (hσ : ∀ i B, mem[i]? = some B → M[σ i]? = some (j5 σ B)) (EK : ∀ i j, i < n → j < n → σ i = σ j → i = j) (gZ : ∀ j, n ≤ j → σ j = M.length + (j - n)) :
  bF P f (kp σ vs) M (dm σ r) (o3 σ n aF M) := by
 subst hn
 have hold : ∀ i, i < mem.length → σ i < M.length := fun i hi => (List.getElem?_eq_some_iff.1 (hσ i _ (List.getElem?_eq_getElem hi))).1
 have hL : (o3 σ mem.length aF M).length = M.length + (aF.length - mem.length) := by
  unfold o3
  rw [List.length_append, eO, List.length_map, List.length_drop]
 have tV : ∀ i B, aF[i]? = some B → (o3 σ mem.length aF M)[σ i]? = some (j5 σ B) := fun i B hi => by
  unfold o3
  rcases Nat.lt_or_ge i mem.length with aL | cP
  ·rw [List.getElem?_append_left (by rw [eO]; exact hold i aL)]
   refine uX σ _ 0 M i B (fun a b _ h2 _ h4 he => ?_) (Nat.zero_le _) (by rw [Nat.sub_zero, List.getElem?_take_of_lt aL]; exact hi) (hold i aL)
   rw [List.length_take] at h2 h4
   exact EK a b (by omega) (by omega) he
  ·rw [gZ i cP, List.getElem?_append_right (by rw [eO]; omega), eO, Nat.add_sub_cancel_left, List.getElem?_map, List.getElem?_drop, show mem.length + (i - mem.length) = i by omega, hi]; rfl
 have bL : ∀ k, k < M.length → (∀ i, i < mem.length → σ i ≠ k) → (o3 σ mem.length aF M)[k]? = M[k]? := fun k hk h => by
  unfold o3
  rw [List.getElem?_append_left (by rw [eO]; exact hk)]
  exact pW σ _ 0 M k fun j _ h2 => h j (by rw [List.length_take] at h2; omega)
 generalize o3 σ mem.length aF M = M' at hL tV bL
 refine ⟨h.1, fun E w xs hs hx => ?_⟩
 have OF : ∀ k v, k < mem.length → (⟨E.F, fun k v => if k < mem.length then E.aM (σ k) v else none, E.gl⟩ : Env).aM k v = E.aM (σ k) v := fun k v hk => if_pos hk
 have OG : ∀ k v, mem.length ≤ k → (⟨E.F, fun k v => if k < mem.length then E.aM (σ k) v else none, E.gl⟩ : Env).aM k v = none := fun k v hk => if_neg (by omega)
 have Bl : (⟨E.F, fun k v => if k < mem.length then E.aM (σ k) v else none, E.gl⟩ : Env).F = E.F := rfl
 generalize (⟨E.F, fun k v => if k < mem.length then E.aM (σ k) v else none, E.gl⟩ : Env) = E0 at OF OG Bl
 have jg : ∀ k v t, E0.aM k v = some t → k < mem.length ∧ E.aM (σ k) v = some t := fun k v t h => by
  rcases Nat.lt_or_ge k mem.length with hk | hk
  ·exact ⟨hk, by rw [← OF k v hk]; exact h⟩
  ·rw [OG k v hk] at h; cases h
 have F3 : bc E0 w { tmps := #[], defers := [] } { fr := [], mem := mem } :=
  ⟨fun ad y hy => hs.F ad y (by rw [← Bl]; exact hy), fun k v g e c hk => hs.lt _ _ _ _ _ (jg _ _ _ hk).2,
   fun k B hk => (hs.mem _ _ (hσ k B hk)).qN (List.getElem?_eq_some_iff.1 hk).1 (List.all_eq_true.1 hm B (List.mem_of_getElem? hk)) Bl OF,
   fun k hk v => OG k v hk, fun k B hk v hv => by
    rw [OF k v (List.getElem?_eq_some_iff.1 hk).1]
    exact hs.bW _ _ (hσ k B hk) v (by rw [yM]; exact hv),
   fun k k' v v' g e c e' c' h1 h2 => by
    obtain ⟨p1, p2⟩ := jg _ _ _ h1
    obtain ⟨q1, q2⟩ := jg _ _ _ h2
    exact EK k k' p1 q1 (hs.apart _ _ _ _ _ _ _ _ _ p2 q2), .nil _⟩
 have j9 : aV E0 vs xs.toList := hx.qN hv (fun ad y hy => by rw [Bl]; exact hy) fun k v t hk h => by rw [OF k v hk]; exact h
 refine (h.2 E0 w xs F3 j9).mono ?_
 rintro en w1 ⟨E1, x, rfl, dX, kc, uI⟩
 have SI : ∀ i v, i < mem.length → (⟨E1.F, fun K v => match (List.range mem.length).find? (fun i => σ i == K) with | some i => E1.aM i v | none => if K < M.length then E.aM K v else E1.aM (K - M.length + mem.length) v, E1.gl⟩ : Env).aM (σ i) v = E1.aM i v := fun i v hi => by
  show (match (List.range mem.length).find? (fun j => σ j == σ i) with | some i => E1.aM i v | none => _) = _
  have : (List.range mem.length).find? (fun j => σ j == σ i) = some i := by
   cases hf : (List.range mem.length).find? (fun j => σ j == σ i) with
   | none =>
    have := List.find?_eq_none.1 hf i (List.mem_range.2 hi)
    simp at this
   | some j =>
    have h1 := List.find?_some hf
    have h2 := List.mem_range.1 (List.mem_of_find?_eq_some hf)
    rw [EK j i h2 hi (by simpa using h1)]
  rw [this]
 have cT : ∀ K, (∀ i, i < mem.length → σ i ≠ K) → (List.range mem.length).find? (fun i => σ i == K) = none := fun K h => List.find?_eq_none.2 fun i hi => by
  have := h i (List.mem_range.1 hi)
  simpa using this
 have hB : ∀ K v, K < M.length → (∀ i, i < mem.length → σ i ≠ K) → (⟨E1.F, fun K v => match (List.range mem.length).find? (fun i => σ i == K) with | some i => E1.aM i v | none => if K < M.length then E.aM K v else E1.aM (K - M.length + mem.length) v, E1.gl⟩ : Env).aM K v = E.aM K v := fun K v hK h => by
  show (match (List.range mem.length).find? (fun j => σ j == K) with | some i => E1.aM i v | none => _) = _
  rw [cT K h]
  exact if_pos hK
 have JU : ∀ i v, mem.length ≤ i → (⟨E1.F, fun K v => match (List.range mem.length).find? (fun i => σ i == K) with | some i => E1.aM i v | none => if K < M.length then E.aM K v else E1.aM (K - M.length + mem.length) v, E1.gl⟩ : Env).aM (σ i) v = E1.aM i v := fun i v hi => by
  show (match (List.range mem.length).find? (fun j => σ j == σ i) with | some i => E1.aM i v | none => _) = _
  have kF := gZ i hi
  rw [cT (σ i) fun j hj e => by have := hold j hj; omega]
  show (if σ i < M.length then E.aM (σ i) v else E1.aM (σ i - M.length + mem.length) v) = _
  rw [if_neg (by omega), kF, show M.length + (i - mem.length) - M.length + mem.length = i by omega]
 have Bm : (⟨E1.F, fun K v => match (List.range mem.length).find? (fun i => σ i == K) with | some i => E1.aM i v | none => if K < M.length then E.aM K v else E1.aM (K - M.length + mem.length) v, E1.gl⟩ : Env).F = E1.F := rfl
 generalize (⟨E1.F, fun K v => match (List.range mem.length).find? (fun i => σ i == K) with | some i => E1.aM i v | none => if K < M.length then E.aM K v else E1.aM (K - M.length + mem.length) v, E1.gl⟩ : Env) = E2 at SI hB JU Bm
 have hA : ∀ i v, E2.aM (σ i) v = E1.aM i v := fun i v => by
  rcases Nat.lt_or_ge i mem.length with hi | hi
  ·exact SI i v hi
  ·exact JU i v hi
 have cl : ∀ K, (∃ i, K = σ i) ∨ (K < M.length ∧ ∀ i, i < mem.length → σ i ≠ K) := fun K => by
  rcases Nat.lt_or_ge K M.length with hK | hK
  ·by_cases h : ∃ i, i < mem.length ∧ σ i = K
   ·obtain ⟨i, -, hi⟩ := h
    exact .inl ⟨i, hi.symm⟩
   ·exact .inr ⟨hK, fun i hi e => h ⟨i, hi, e⟩⟩
  ·exact .inl ⟨K - M.length + mem.length, by rw [gZ _ (by omega)]; omega⟩
 have r6 : ∀ K v g e c, (∀ i, i < mem.length → σ i ≠ K) → E.aM K v = some (g, e, c) → ∀ k0 v0 e0 c0, E0.aM k0 v0 ≠ some (g, e0, c0) := fun K v g e c hK hb k0 v0 e0 c0 h => by
  obtain ⟨h1, h2⟩ := jg _ _ _ h
  exact hK k0 h1 (hs.apart _ _ _ _ _ _ _ _ _ h2 hb)
 have hle : E.le E2 := ⟨fun ad y hy => by rw [Bm]; exact dX.le.F _ _ (by rw [Bl]; exact hy), fun K v t hk => by
  rcases cl K with ⟨i, rfl⟩ | ⟨hK, o4⟩
  ·rw [hA i v]
   rcases Nat.lt_or_ge i mem.length with hi | hi
   ·exact dX.le.aM _ _ _ (by rw [OF i v hi]; exact hk)
   ·rw [hs.top (σ i) (by rw [gZ i hi]; dsimp only; omega) v] at hk; cases hk
  ·rw [hB K v hK o4]; exact hk⟩
 refine ⟨E2, x, rfl, ⟨hle, fun K v g e c hk => ?_, fun ad y hy => ?_, dX.os, dX.tape, dX.output, dX.size, fun b hb bL => dX.heap b hb fun k v e c h => bL _ _ _ _ (jg _ _ _ h).2⟩,
  ⟨fun ad y hy => kc.F _ _ (by rw [← Bm]; exact hy), fun K v g e c hk => ?_, fun K B hk => ?_, fun K hk v => ?_, fun K B hk v hv => ?_, fun K K' v v' g e1 c1 e2 c2 h5 h6 => ?_, .nil _⟩, uI.F6 hr (fun ad y hy => by rw [Bm]; exact hy) fun k v t _ hk => by rw [hA]; exact hk⟩
 ·rcases cl K with ⟨i, rfl⟩ | ⟨hK, o4⟩
  ·rw [hA i v] at hk
   rcases dX.aM _ _ _ _ _ hk with ⟨k0, v0, e0, c0, h⟩ | h
   ·exact .inl ⟨_, _, _, _, (jg _ _ _ h).2⟩
   ·exact .inr h
  ·rw [hB K v hK o4] at hk; exact .inl ⟨_, _, _, _, hk⟩
 ·rw [Bm] at hy
  rcases dX.F _ _ hy with h | h | ⟨k0, v0, e0, c0, h⟩
  ·exact .inl (by rw [← Bl]; exact h)
  ·exact .inr (.inl h)
  ·exact .inr (.inr ⟨_, _, _, _, (jg _ _ _ h).2⟩)
 ·rcases cl K with ⟨i, rfl⟩ | ⟨hK, o4⟩
  ·rw [hA i v] at hk; exact kc.lt _ _ _ _ _ hk
  ·rw [hB K v hK o4] at hk; exact Nat.lt_of_lt_of_le (hs.lt _ _ _ _ _ hk) dX.size
 ·rcases cl K with ⟨i, rfl⟩ | ⟨hK, o4⟩
  ·have hi : i < aF.length := by
    have h1 := (List.getElem?_eq_some_iff.1 hk).1
    rcases Nat.lt_or_ge i mem.length with h2 | h2
    ·omega
    ·have h3 := gZ i h2
     dsimp only at h1; omega
   have fF := tV i _ (List.getElem?_eq_getElem hi)
   rw [hk] at fF
   cases fF
   exact (kc.mem i _ (List.getElem?_eq_getElem hi)).F6 hi (List.all_eq_true.1 NW _ (List.getElem_mem hi)) Bm (fun k v _ => hA k v) rfl
  ·dsimp only at hk
   rw [bL K hK o4] at hk
   refine (hs.mem K B hk).mono hle (fun v hv => by rw [hB K v hK o4]; exact hv) (fun g e c hb => dX.heap g (hs.lt _ _ _ _ _ hb) fun k0 v0 e0 c0 h => r6 _ _ _ _ _ o4 hb _ _ _ _ h) fun g e c o hb hn => ?_
   rw [Bm]
   cases hy : E1.F ⟨g, o, none⟩ with
   | none => rfl
   | some y =>
    rcases dX.F _ _ hy with h | h | ⟨k0, v0, e0, c0, h⟩
    ·rw [Bl, hn] at h; cases h
    ·have := hs.lt _ _ _ _ _ hb; simp at h; omega
    ·exact absurd h (r6 _ _ _ _ _ o4 hb _ _ _ _)
 ·rcases cl K with ⟨i, rfl⟩ | ⟨hK, o4⟩
  ·rw [hA i v]
   refine kc.top i ?_ v
   dsimp only at hk ⊢
   rcases Nat.lt_or_ge i mem.length with h2 | h2
   ·have := hold i h2; omega
   ·have h3 := gZ i h2; omega
  ·dsimp only at hk; omega
 ·rcases cl K with ⟨i, rfl⟩ | ⟨hK, o4⟩
  ·rw [hA i v]
   have hi : i < aF.length := by
    have h1 := (List.getElem?_eq_some_iff.1 hk).1
    rcases Nat.lt_or_ge i mem.length with h2 | h2
    ·omega
    ·have h3 := gZ i h2
     dsimp only at h1; omega
   have fF := tV i _ (List.getElem?_eq_getElem hi)
   rw [hk] at fF
   cases fF
   rw [yM] at hv
   exact kc.bW i _ (List.getElem?_eq_getElem hi) v hv
  ·rw [hB K v hK o4]
   dsimp only at hk
   rw [bL K hK o4] at hk
   exact hs.bW K B hk v hv
 ·have mixed : ∀ i K' v v' g e1 c1 e2 c2, (∀ i, i < mem.length → σ i ≠ K') → E1.aM i v = some (g, e1, c1) → E.aM K' v' = some (g, e2, c2) → False := fun i K' v v' g e1 c1 e2 c2 UY h h' => by
   rcases dX.aM _ _ _ _ _ h with ⟨k0, v0, e0, c0, h0⟩ | h0
   ·exact absurd h0 (r6 _ _ _ _ _ UY h' _ _ _ _)
   ·have := hs.lt _ _ _ _ _ h'; omega
  rcases cl K with ⟨i, rfl⟩ | ⟨hK, OH⟩ <;> rcases cl K' with ⟨j, rfl⟩ | ⟨UY, Bn⟩
  ·rw [hA] at h5 h6
   rw [kc.apart _ _ _ _ _ _ _ _ _ h5 h6]
  ·rw [hA] at h5; rw [hB K' _ UY Bn] at h6
   exact (mixed _ _ _ _ _ _ _ _ _ Bn h5 h6).elim
  ·rw [hB K _ hK OH] at h5; rw [hA] at h6
   exact (mixed _ _ _ _ _ _ _ _ _ OH h6 h5).elim
  ·rw [hB K _ hK OH] at h5; rw [hB K' _ UY Bn] at h6
   exact hs.apart _ _ _ _ _ _ _ _ _ h5 h6
theorem pX (σ : Nat → Nat) : ∀ {v : V}, ah 0 v = true → dm σ v = v := fun {v} => by
 exact V.rec (motive_1 := fun v => ah 0 v = true → dm σ v = v) (motive_2 := fun l => bA 0 l = true → kp σ l = l)
  (fun _ => rfl) (fun _ _ => rfl) (fun cs ih h => by rw [dm, ih (by simpa [ah] using h)]) (fun _ _ _ => rfl) (fun b v s l h => by simp [ah] at h) (fun b o h => by simp [ah] at h)
  (fun b v i o h => by simp [ah] at h) (fun _ _ _ => rfl) (fun f a c i1 i2 h => by simp only [ah,Bool.and_eq_true] at h; rw [dm, i1 h.1, i2 h.2]) (fun vs ih h => by rw [dm, ih (by simpa [ah] using h)])
  (fun b h => by simp [ah] at h) (fun b h => by simp [ah] at h) (fun _ => rfl) (fun _ _ _ => rfl) (fun _ => rfl) (fun c r i1 i2 h => by simp only [bA,Bool.and_eq_true] at h; rw [kp, i1 h.1, i2 h.2]) v
end Go.Eng
end

section
namespace Go.Eng
variable [aK]
section
variable {P : Program} {ρ : Option Nat} {n0 : Nat} {c : Code} {st : St} {Q : Exit → St → Prop}
end
end Go.Eng
end

section
namespace Go.Eng
variable [aK]
theorem Bo (mem : List aC) (keys : List (Nat × Nat)) (k : Nat) {cs : List V} (h : mem[k]? = some (.box cs)) : (cL mem keys)[k]? = some (.box cs) := by
 rw [kR, h]
 have : ∀ (ks : List (Nat × Nat)), jN ks k (some (.box cs)) = some (.box cs) := fun ks => by
  unfold jN; rfl
 exact this keys
section
variable {P : Program} {ρ : Option Nat} {n0 : Nat} {Q : Exit → St → Prop} {c : Code} {st : St}
theorem bc.Hw {E : Env} {w : World} {a : Act} (hs : bc E w a st) {k : Nat} {cs vs' : List V} (hk : st.mem[k]? = some (.box cs)) (hp : dx st.mem cs = some vs') :
  ∃ E', bc E' w a { st with mem := (cL st.mem (cs.flatMap de)).set k (.box vs') } ∧ dO E w E' w := by
 obtain ⟨E', h1, h2, h3⟩ := hs.freeze hp
 have hb := Bo st.mem (cs.flatMap de) k hk
 refine ⟨E', ⟨h1.F, h1.lt, fun k' B hB => ?_, fun k' fF => h1.top k' (by simpa using fF), fun k' B hB v hv => ?_, h1.apart, h1.fr⟩, h2⟩
 ·dsimp only at hB
  rw [List.getElem?_set] at hB
  split at hB
  ·rename_i he; subst he
   split at hB
   ·cases hB
    obtain ⟨g, T, xs, q1, q2, q3, q4⟩ := hs.mem k _ hk
    obtain ⟨g', T', og, p1, p2, p3, p4⟩ := h1.mem k _ hb
    rw [h2.le.aM _ _ _ q1] at p1
    cases p1
    rw [q2] at p2
    cases p2
    exact ⟨g, T, xs, h2.le.aM _ _ _ q1, q2, h3 _ q3, p4⟩
   ·cases hB
  ·exact h1.mem k' B hB
 ·dsimp only at hB
  rw [List.getElem?_set] at hB
  split at hB
  ·rename_i he; subst he
   split at hB
   ·cases hB
    exact h1.bW k _ hb v hv
   ·cases hB
  ·exact h1.bW k' B hB v hv
end
end Go.Eng
end

section
namespace Go.Eng
variable [aK]
section
variable {k_ : Tk} {m : Bool} {P : Program} {ρ : Option Nat} {n0 : Nat} {st : St} {Q : Exit → St → Prop} {n : Nat} {ws : List (Nat × V)} {mem : List aC} {c : Code}
theorem SJ {st' : St} (hw : ∀ E w a, bc E w a st → ∃ E', bc E' w a st' ∧ dO E w E' w) (h : X k_ m P ρ n0 c st' Q) : X k_ m P ρ n0 c st Q := by
 have key : ∀ Q' : Exit → St → Prop, dA P ρ n0 c st' Q' → dA P ρ n0 c st Q' := fun Q' h E0 w0 Og E w a he hs hm => by
  obtain ⟨E', h3, h4⟩ := hw E w a hs
  exact h E0 w0 Og E' w a (he.trans h4) h3 (hm.Eh h4)
 cases m
 ·obtain ⟨e, s2, hq, h2⟩ := h
  exact ⟨e, s2, hq, fun Q' h' => key Q' (h2 Q' h')⟩
 ·exact key Q h
theorem SK {t : Nat} {v : V} (hn : t < n) (h : lk t ws = v) : (W n ws)[t]? = some v := by rw [oY, if_pos hn, h]
theorem OI (t v e : Nat) (hn : t < n) (h0 : lk t ws = .sc (.slice none 0 0)) (h : X k_ m P ρ n0 c ⟨W n ((t, .ms mem.length v 0 0) :: ws), mem ++ [.rows v e []]⟩ Q) : X k_ m P ρ n0 c ⟨W n ws, mem⟩ Q := by
 rw [← C9] at h
 exact wS (st' := ⟨(W n ws).set t (.ms mem.length v 0 0), mem ++ [.rows v e []]⟩) (fun E w a hs => (hs.G3 (i := t) mem.length v (SK hn h0)).oS v e) h
theorem wW {cs : List V} (k j v e : Nat) (hk : mem[k]? = some (.box cs)) (hj : cs[j]? = some (.sc (.slice none 0 0))) (h : X k_ m P ρ n0 c ⟨W n ws, mem.set k (.box (cs.set j (.ms mem.length v 0 0))) ++ [.rows v e []]⟩ Q) : X k_ m P ρ n0 c ⟨W n ws, mem⟩ Q :=
 wS (st' := ⟨W n ws, mem.set k (.box (cs.set j (.ms mem.length v 0 0))) ++ [.rows v e []]⟩) (fun E w a hs => (hs.Hl hk hj mem.length v).oS v e) h
theorem pY {k : Nat} {cs vs' : List V} (hk : mem[k]? = some (.box cs)) (hp : dx mem cs = some vs') (h : X k_ m P ρ n0 c ⟨W n ws, (cL mem (cs.flatMap de)).set k (.box vs')⟩ Q) : X k_ m P ρ n0 c ⟨W n ws, mem⟩ Q :=
 SJ (fun _ _ _ hs => bc.Hw hs hk hp) h
theorem KE {k : Nat} {cs : List V} (t : Nat) (hn : t < n) (h0 : lk t ws = .ptr k 0) (hk : mem[k]? = some (.box cs)) (hp : cs.all gY = true) (h : X k_ m P ρ n0 c ⟨W n ((t, .cn cs) :: ws), mem.set k .dead⟩ Q) : X k_ m P ρ n0 c ⟨W n ws, mem⟩ Q := by
 rw [← C9] at h
 exact SJ (fun _ _ _ hs => bc.sA hs hk hp (SK hn h0)) h
end
end Go.Eng
end

section
namespace Go.Proofs.YtefbaladomfccaaGreatDoor
open Go.Eng
attribute [go_sem] cZ bI dq gp St.eval St.put fg fU vZ List.all_cons List.all_nil Bool.and_true Bool.true_and Bool.and_self Value.oneCell' if_true if_false bj List.length_cons List.length_nil Nat.lt_irrefl List.nil_append List.cons_append List.append_nil List.set_cons_zero List.set_cons_succ List.getD_cons_zero List.getD_cons_succ pH dT jG lP mG List.map_nil List.map_cons Nat.zero_mul vK JP fieldAt lj eK List.drop_zero List.drop_succ_cons List.take_succ_cons List.take_zero List.getElem?_cons_zero List.getElem?_cons_succ List.head?_cons Nat.zero_add Nat.add_zero Nat.zero_le Nat.le_refl true_and and_true and_self dS lQ rowsOf cK Bool.false_eq_true vR ND NF NG NH NI NJ NK NL NM NN NO NP Gd J5 J6 J7 Int.natCast_nonneg jf indexAt rN CG vT pG Int.toNat_natCast V.cells xG vP Nf bw Option.map_some Option.map_none Option.bind_some List.size_toArray List.getElem?_toArray beq_self_eq_true decide_true decide_false Bool.not_true Bool.not_false j1 lV jj iC cg gY JR kP rowOf dU ne_eq not_true_eq_false not_false_eq_true iD ia oB V.sc.injEq Value.bool.injEq oN List.flatMap_cons List.flatMap_nil de fa RL RM Kh Ki Kj CF tt3 tt4 tt5 YV V7 V8 V9 Wa Wb RY Wc Wd We RZ Wf R1 Wg Wh Wi Wj Wl Wm R3 R4 R5 R6 R7 R8 R9 Sa Sb Sc Sd Se Sf Sg Sh Si Sj Sk List.toList_toArray List.append_eq Gk Gm AI L0 lu dr l4 uP qy jM fZ dx dR dH br runM dV q5 qZ eR oI q6 isHole dJ yd aC.bW nJ Oi oY C9 mb lk pD cA dK pk zk dY cL x6 List.foldl_cons List.foldl_nil q8 ah bA aB Ol Om On Oo Ky wQ UW fH OA zG eG Hr OC OD sk Ho SB SC SD SE SG Ww Wx Wy Wz WA WB WC WD WE WG WH WI WJ WK Ht EH Hv EJ EI wB kU wA Ei Nu List.replicate List.take_length
attribute [go_sem ↓] Bk EF Ot EE Oq Oe Of KB Dd
end Go.Proofs.YtefbaladomfccaaGreatDoor
end

section
namespace Go.Eng
variable [aK]
open Go.RowKit (Below)
theorem bc.below {E : Env} {w w' : World} {a : Act} {st : St} (hs : bc E w a st) (hb : Below w.heap.size w w') : bc E w' a st ∧ dO E w E w' := by
 refine ⟨⟨fun ad y hy => ?_, fun k v g e c h => Nat.lt_of_lt_of_le (hs.lt _ _ _ _ _ h) hb.size, fun k B hk => ?_, hs.top, hs.bW, hs.apart, hs.fr⟩,
  ⟨E.le_refl, fun k v g e c h => .inl ⟨k, v, e, c, h⟩, fun _ _ h => .inl h, hb.os, hb.tape, hb.output, hb.size, fun b aL _ => hb.block b aL⟩⟩
 ·rw [hb.cell (World.block_lt_of_cell? w ad (hs.F ad y hy))]; exact hs.F ad y hy
 ·exact (hs.mem k B hk).mono E.le_refl (fun _ h => h) (fun g e c h => hb.block _ (hs.lt _ _ _ _ _ h)) fun _ _ _ _ _ h => h
end Go.Eng
end

section
namespace Go.Eng
variable [aK]
def uY : List (FuncId × List V × V) → FuncId → List V → Option V
 | [], _, _ => none
 | e :: t, f, vs => if e.1 = f then (if fi e.2.1 vs = true then some e.2.2 else uY t f vs) else uY t f vs
theorem df {P : Program} : l9 P (uY []) := fun f vs r h => by cases h
theorem bx {P : Program} {f : FuncId} {vs : List V} {r : V} {t : List (FuncId × List V × V)} (h : aR P f vs r) (ht : l9 P (uY t)) : l9 P (uY ((f, vs, r) :: t)) := fun g ws s hs => by
 unfold uY at hs
 dsimp only at hs
 split at hs
 ·rename_i hf
  split at hs
  ·rename_i hv
   cases hs
   rw [← hf, ← dC hv]; exact h
  ·exact ht g ws s hs
 ·exact ht g ws s hs
end Go.Eng
end

section
namespace Go.Eng
variable [aK]
def wX (tt : Table) (mem : List aC) (ts : List TypeId) (xs : List V) : Option (List aC) :=
 match ts, xs with
 | [t], [.ms b v s n] => match tt t with
  | some iT => match iT.elem with
   | some e => match tt e with
    | some i => match mem[b]? with
     | some (.rows v' e' rs) => if v' = v ∧ e' = i.size ∧ i.zero.length = i.size ∧ i.zero.all (fun z => z.oneCell') = true ∧ 0 < n ∧ rs.length = s + n then some (mem.set b (.rows v' e' (rs.take s))) else none
     | _ => none
    | none => none
   | none => none
  | none => none
 | _, _ => none
theorem wY {P : Program} {tt : Table} (ht : TT P tt) {E : Env} {w : World} {a : Act} {st : St} (hs : bc E w a st) {ts : Array TypeId} {ty : TypeId} {xs : List V} {ys : Array Value} {aF : List aC} (hx : aV E xs ys.toList)
  (h : wX tt st.mem ts.toList xs = some aF) : ∃ w', (Builtin.clear_ ts ty ys).run P w = .ok (.tuple #[]) w' ∧ bc E w' a { st with mem := aF } ∧ dO E w E w' := by
 unfold wX at h
 split at h
 ·rename_i t b v s n JT
  obtain ⟨y, zs, KF, hr, hz⟩ := hx.of_cons
  have D8 := hz.of_nil
  subst D8
  obtain rfl : ys = #[y] := by rw [← Array.toArray_toList (xs := ys), KF]
  obtain rfl : ts = #[t] := by rw [← Array.toArray_toList (xs := ts), JT]
  split at h
  ·rename_i iT hT
   split at h
   ·rename_i e he
    split at h
    ·rename_i i hi
     split at h
     ·rename_i v' e' rs hm
      split at h
      ·rename_i hc
       obtain ⟨rfl, rfl, xS, jX, hn, hlen⟩ := hc
       cases h
       obtain ⟨d, hd, -, qp, -⟩ := ht.desc t iT hT
       obtain rfl := qp e he
       obtain ⟨info, oe, JS, Qs, z, hz, L7⟩ := ht.size e i hi
       have WN : z.cells.size = i.size := by rw [← xS, ← L7]; simp
       rcases hs.mem b _ hm with ⟨vW, -⟩ | ⟨g, T, cs, c, hblk, hh, pC, Gv, eD, hF⟩
       ·subst vW; simp at hlen; omega
       obtain ⟨cap, rfl⟩ : ∃ cap, y = .slice (some ⟨g, s * i.size, none⟩) n cap := by
        cases hr with
        | ms _ _ _ _ _ g' e' c' a cap dt Nd QG LX =>
         rw [hblk] at dt; cases dt
         rw [Nd hn]; exact ⟨cap, rfl⟩
        | dg => omega
       obtain ⟨vs, Mb⟩ : ∃ vs, vs = (Builtin.zeroCells z.cells n).toList := ⟨_, rfl⟩
       have hvl : vs.length = n * i.size := by rw [Mb]; simp [Builtin.zeroCells, WN]
       have xz : ∀ x ∈ vs, x.oneCell' = true := fun x hx => by
        rw [Mb] at hx
        simp only [Builtin.zeroCells,Array.toList_map,List.mem_map,Array.toList_range,List.mem_range] at hx
        obtain ⟨k, hk, rfl⟩ := hx
        have gC : 0 < z.cells.size := by
         rcases Nat.eq_zero_or_pos z.cells.size with h0 | h0
         ·rw [h0] at hk; simp at hk
         ·exact h0
        have aL : k % z.cells.size < z.cells.size := Nat.mod_lt _ gC
        rw [getElem!_pos z.cells _ aL]
        refine List.all_eq_true.1 jX _ ?_
        rw [← L7]
        simp
       have oA : s * i.size + 0 + vs.length ≤ cs.size := by
        rw [hvl, pC, Nat.add_zero, ← Nat.add_mul]
        exact Nat.mul_le_mul_right _ (by omega)
       obtain ⟨w', h1, h2, h3⟩ := ek (P := P) (s * i.size) vs 0 w cs hh oA xz
       have hB : iP E w' b (.rows v' i.size (rs.take s)) := by
        refine .inr ⟨g, T, _, c, hblk, h2, by rw [e9]; exact pC, by rw [List.length_take]; omega, fun k row hk => ?_, hF⟩
        have yC : k < s := by
         have := (List.getElem?_eq_some_iff.1 hk).1
         rw [List.length_take] at this; omega
        rw [List.getElem?_take_of_lt yC] at hk
        obtain ⟨r1, r2⟩ := eD k row hk
        refine ⟨r1, fun j cc hj => ?_⟩
        obtain ⟨x, hx, ua, CJ⟩ := r2 j cc hj
        refine ⟨x, ?_, ua, CJ⟩
        show (ej cs (s * i.size + 0) vs)[k * i.size + j]? = some x
        have hx : cs[k * i.size + j]? = some x := hx
        rw [ea _ _ _ _ oA, if_neg, hx]
        have UC : j < i.size := by rw [← r1]; exact (List.getElem?_eq_some_iff.1 hj).1
        have : (k + 1) * i.size ≤ s * i.size := Nat.mul_le_mul_right _ yC
        rw [Nat.add_mul] at this
        omega
       obtain ⟨h4, h5⟩ := hs.v8 (B' := .rows v' i.size (rs.take s)) hm rfl rfl hblk hF h3 hB
       refine ⟨w', ?_, h4, h5⟩
       have Nt : (zeroValue e).run P w = .ok z w := by simp [zeroValue, cy oe, hz]
       obtain ⟨m, rfl⟩ : ∃ m, n = m + 1 := ⟨n - 1, by omega⟩
       rw [Mb] at h1
       simp [Builtin.clear_, ao hd, Nt, h1]
      ·cases h
     ·cases h
    ·cases h
   ·cases h
  ·cases h
 ·cases h
section
variable {P : Program} {tt : Table} {ρ : Option Nat} {n0 : Nat} {st : St} {Q : Exit → St → Prop}
theorem uq (ht : TT P tt) {n : Nat} {all : Array Oper} {o : Oper} {R : St → Prop} {Q' : Exit → Act → World → Prop} : ∀ (F1 pre : List Oper), all.toList = pre ++ (F1 ++ [o]) →
  ∀ {E : Env} {w : World} {a : Act} {st : St}, bc E w a st → cZ P tt all F1 st R → (∀ E' w' a' st', a'.defers = a.defers → bc E' w' a' st' → dO E w E' w' → R st' → wpOpsIn (WF ρ) n P all Q' [pre.length + F1.length] a' w') → wpOpsIn (WF ρ) n P all Q' (List.range' pre.length (F1.length + 1)) a w := by
 intro F1
 induction F1 with
 | nil => intro pre _ E w a st hs h hq; exact hq E w a st rfl hs (dO.refl E w) h
 | cons o' r ih =>
  intro pre bp E w a st hs h hq
  have eC : all[pre.length]? = some o' := by
   rw [← Array.getElem?_toList, bp, List.getElem?_append_right (Nat.le_refl _)]; simp
  have GF : all.toList = (pre ++ [o']) ++ (r ++ [o]) := by rw [bp]; simp
  have NB := @ih (pre ++ [o']) GF
  simp only [List.length_append,List.length_cons,List.length_nil,Nat.zero_add] at NB
  have el : pre.length + (r.length + 1) = pre.length + 1 + r.length := by omega
  rw [List.length_cons, el] at hq
  rw [List.length_cons, List.range'_succ, wpOpsIn, eC]
  dsimp only
  simp only [cZ] at h
  split at h
  ·rename_i hw
   rw [if_pos (eL hs hw)]
   refine cY ht hs (.inr rfl) h ?_
   rintro v w' ⟨E', st', h1, h2, h3⟩
   exact NB h1 h3 fun tU Me Rt AO hd h4 h5 h6 => hq tU Me Rt AO (hd.trans (put_defers _ _ _)) h4 (h2.trans h5) h6
  ·rename_i hw
   rw [if_neg (by rw [eL hs hw]; simp)]
   exact ⟨fun _ _ => trivial, NB (hs.put o'.dst (.sc _ _)) h fun tU Me Rt AO hd h4 h5 h6 => hq tU Me Rt AO (hd.trans (put_defers _ _ _)) h4 h5 h6⟩
  ·exact h.elim
theorem ur (ht : TT P tt) {id : Nat} {ops : Array Oper} {y : Code} (pre : List Oper) {dst : Option Tmp} {ty : TypeId} {pos : String} {after : Array Edge} {ts : Array TypeId} {xs : Array Operand}
  (OJ : ops.toList = pre ++ [⟨dst, .call { callee := .builtin .clear, args := xs, argTypes := ts }, ty, pos, after, none⟩])
  (h : cZ P tt ops pre st fun st1 => ∃ aF, wX tt st1.mem ts.toList (xs.toList.map st1.eval) = some aF ∧ dA P ρ n0 y ({ st1 with mem := aF }.put dst (.sc (.tuple #[]))) Q) : dA P ρ n0 (.seq (.region id ops false) y) st Q := by
 refine bN fun E0 w0 h0 E w a he hs hm => ?_
 refine wpIn_region ?_
 have jW : ops.size = pre.length + 1 := by rw [← Array.length_toList, OJ]; simp
 rw [List.range_eq_range', jW]
 refine uq ht pre [] (by rw [OJ]; rfl) hs h fun E' w' a' st' hd h1 h2 ⟨aF, h3, h4⟩ => ?_
 have eC : ops[0 + pre.length]? = some ⟨dst, .call { callee := .builtin .clear, args := xs, argTypes := ts }, ty, pos, after, none⟩ := by
  rw [← Array.getElem?_toList, OJ, Nat.zero_add, List.getElem?_append_right (Nat.le_refl _)]; simp
 obtain ⟨Me, h5, h6, h7⟩ := wY (ty := ty) ht h1 (h1.jL xs) h3
 show wpOpsIn _ _ _ _ _ [0 + pre.length] a' w'
 rw [wpOpsIn, eC]
 dsimp only
 rw [if_pos (by rfl)]
 refine bd (by rintro c ⟨⟩) (v := .tuple #[]) (w' := Me) ?_ ?_
 ·simp only [execOp,resolve,Sem.run_bind,Sem.run_pure,Result.andThen_ok,invoke,builtin,h5]
 ·exact ⟨E', _, h6.put dst (.sc _ _), he.trans (h2.trans h7), by rw [put_defers, hd]; exact hm.Eh (h2.trans h7), h4⟩
end
end Go.Eng
end
