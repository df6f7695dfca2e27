/-
  THE ENGINE, TM: the walk without a settled outcome: calls of which only a relation is told, and append behind a block's beginning.
  THE ENGINE, VA: one operation, for both forms of walk (m = true: Tri, m = false: Ex); what is stuck keeps what follows out of sight.
  THE ENGINE, FZ: a slot whose rows nobody will write any more.
  THE ENGINE, VC: sparse frames; code carried out as far as the data settle it; both forms of walk (m = true: Tri, m = false: Ex).
  THE ENGINE, VD: what stands between the stretches of VC: loops, ways that meet, regions that draw, functions' beginnings and ends.
  THE ENGINE, RN: a contract at a small store holds at every store that has the small one's blocks under other keys.
  THE ENGINE, SW: two blocks of a call's own change keys; the values of a map are frozen.
  THE ENGINE, FC: the rows that a struct's cells name are frozen.
  THE ENGINE, VF: what may be made of a state without a step: rows frozen, nil slices taken for empty rows, keys changed.
  THE ENGINE, GS: the facts for carrying code out, in the library's own simp set.
  THE ENGINE, AD: a block that a call has made is taken into the store.
  THE ENGINE, Ky: a contract of a small store, where one block changes, in a big store under a list of keys.
  THE ENGINE, VG: the rows that one cell of a struct names are frozen.
  THE ENGINE, OR: contracts that are proved already, as a table for the evaluator.
  THE ENGINE, VP: what a call at a store leaves behind, without what nobody needs.
-/
import Derived.Test.YtnboooapeopjoaaGreatDoorE6
set_option linter.all false
section
namespace Go.Eng
variable [aA]
section
variable {P : Program} {tt : Table} {ρ : Option Nat} {n0 : Nat} {st : St} {Q : Exit → St → Prop}
def Mv (P : Program) (f : FuncId) (vs : List V) (st : St) (dst : Option Tmp) (Q : St → Prop) : Prop :=
 ∃ R, cj P f vs st.mem R ∧ ∀ v m', R v m' → Q ({ st with mem := m' }.put dst v)
def P8 (P : Program) (f : FuncId) (vs : List V) (st : St) (dst : Option Tmp) (Q : St → Prop) : Prop := Et P f vs st dst Q ∨ Mv P f vs st dst Q
def P9 (P : Program) (tt : Table) (key : Nat) (o : Oper) (st : St) (Q : St → Prop) : Prop :=
 match o.op with
 | .call c => match c.callee with
  | .value f => match bD (st.eval f) (c.args.toList.map st.eval) with
   | some (g, vs) => P8 P g vs st o.dst Q
   | none => False
  | .builtin .append => match c.args.toList.map st.eval with
   | [s, x] => match eK tt st.mem c.argTypes.toList s x with
    | some (size, o4, rows) => Q ({ st with mem := (dt st.mem key size rows o4).1 }.put o.dst (dt st.mem key size rows o4).2)
    | none => sC tt st c.argTypes.toList s x o.dst Q
   | _ => False
  | _ => jS P tt key o st Q
 | _ => jS P tt key o st Q
def Ip (P : Program) (tt : Table) (gl : List (Nat × Nat)) (all : Array Oper) : List Oper → St → (St → Prop) → Prop
 | [], st, Q => Q st
 | o :: r, st, Q => match og gl all st.fr o with
  | some true => P9 P tt st.mem.length o st fun st' => Ip P tt gl all r st' Q
  | some false => Ip P tt gl all r (st.put o.dst (.sc undef)) Q
  | none => False
theorem CT {ts : List TypeId} {s x : V} {dst : Option Tmp} {A B : St → Prop} (h : sC tt st ts s x dst A) (jQ : ∀ s, A s → B s) : sC tt st ts s x dst B := by
 unfold sC at h ⊢
 split at h
 ·exact fun o jw h1 h2 => jQ _ (h o jw h1 h2)
 ·exact h
attribute [irreducible] Ip

end
end Go.Eng
end

section
namespace Go.Eng
variable [aA]
inductive Tk where
 | a
 | b
def tk : Tk := .b
theorem T2 {α : Type} {a b : α} (h : a = b) : a = b := h
theorem iw {a b : Prop} (h : a = b) : a = b := h
def bq {α : Type} (_ : Tk) (o : Option α) (K : α → Prop) : Prop := match o with
 | some v => K v
 | none => False
theorem Qa {α : Type} {k : Tk} {o : Option α} {K : α → Prop} : bq k o K = match o with | some v => K v | none => False := iw rfl
theorem gV {α : Type} {k : Tk} {o : Option α} {K : α → Prop} : bq k o K ↔ ∃ v, o = some v ∧ K v := by
 cases o with
 | none => exact ⟨fun h => h.elim, fun ⟨_, h, _⟩ => by cases h⟩
 | some v => exact ⟨fun h => ⟨v, rfl, h⟩, fun ⟨_, e, h⟩ => by cases e; exact h⟩
def nq {α : Type} (_ : Tk) (o : Option α) (A : α → Prop) (B : Prop) : Prop := match o with
 | some v => A v
 | none => B
theorem Qb {α : Type} {k : Tk} {o : Option α} {A : α → Prop} {B : Prop} : nq k o A B = match o with | some v => A v | none => B := iw rfl
theorem qx {α : Type} {k : Tk} {v : α} {A : α → Prop} {B : Prop} : nq k (some v) A B = A v := rfl
theorem qy {α : Type} {k : Tk} {A : α → Prop} {B : Prop} : nq k none A B = B := rfl
section
variable {m : Bool} {P : Program} {tt : Table} {st : St} {Q : St → Prop}
def qz (_ : Tk) (m : Bool) (P : Program) (f : FuncId) (vs : List V) (o : Option (List V)) (keys : List (Nat × Nat)) (st : St) (dst : Option Tmp) (Q : St → Prop) : Prop :=
 (∃ vs' r, o = some vs' ∧ aT P f vs' r ∧ Q ({ st with mem := bx st.mem keys r }.put dst r)) ∨
 (∃ r aQ, aF P f vs st.mem r aQ ∧ Q ({ st with mem := aQ }.put dst r)) ∨
 (m = true ∧ ∃ R, cj P f vs st.mem R ∧ ∀ r aQ, R r aQ → Q ({ st with mem := aQ }.put dst r)) ∨
 (∃ r, m9 P f vs r ∧ Q (st.put dst r))
def T3 (_ : Tk) (m : Bool) (P : Program) (k : Nat) (vs : List V) (st : St) (dst : Option Tmp) (Q : St → Prop) : Prop :=
 (∃ b aQ, BW P k vs st.mem b aQ ∧ Q ({ st with mem := aQ }.put dst (.sc (.bool b)))) ∨
 (m = true ∧ ∃ R, Fi P k vs st.mem R ∧ ∀ b aQ, R b aQ → Q ({ st with mem := aQ }.put dst (.sc (.bool b))))
def X7 (_ : Tk) (m : Bool) (r : Option (Nat × Nat × Nat × Nat × List V × List V)) (st : St) (dst : Option Tmp) (Q : St → Prop) : Prop := m = true ∧ match r with
 | some (size, b, v, l, rs, xs) => ∀ (o : Nat) (jw : List V), jw.drop o = rs ++ xs → o + (l + xs.length) = jw.length → Q ({ st with mem := st.mem.set b (.rows (v + 1) size jw) }.put dst (.ms b (v + 1) o (l + xs.length)))
 | none => False
def nxV (_ : Tk) (m : Bool) (st : St) (dst : Option Tmp) (it : V) (str : Bool) (Q : St → Prop) : Prop := m = true ∧ p8 st dst it str Q
def ZC (_ : Tk) (m : Bool) (n : Nat) (op : BinOp) (st : St) (dst : Option Tmp) (Q : St → Prop) : Prop :=
 m = true ∧ ∀ b : Bool, (n ≠ 0 → b = false) → Q (st.put dst (.sc (.bool (l0 op b))))
def Mw (tt : Table) (T : TypeId) (len : Nat) (parts : List (Nat × Operand)) (st : St) (key : Nat) : Option (List aC) :=
 match rE tt T len parts st.eval with
 | some (size, rs) => some (bO st.mem key (.rows 0 size rs))
 | none => match LQ tt T len parts st with
  | some (size, rs) => some (bO (aR st.mem (xU st.eval parts)) key (.rows 0 size rs))
  | none => none
def yg (tt : Table) (mem : List aC) (T : TypeId) (p x : V) : Option (List aC) :=
 match jF tt mem T p x with
 | some m => some m
 | none => xV tt mem T p x
def kj (m : Bool) (P : Program) (tt : Table) (key : Nat) (o : Oper) (st : St) (Q : St → Prop) : Prop :=
 match o.op with
 | .alloc T => bq tk (tt T) fun i => Q ({ st with mem := bO st.mem key (.box (i.zero.map V.sc)) }.put o.dst (.ptr key 0))
 | .box _ x => bq tk (iB (st.eval x)) fun cs => Q ({ st with mem := bO st.mem key (.box cs) }.put o.dst (.ptr key 0))
 | .build T parts => bq tk (jG P tt T parts.toList st.eval) fun v => Q (st.put o.dst v)
 | .buildSlice T len parts => bq tk (Mw tt T len parts.toList st key) fun mem => Q ({ st with mem := mem }.put o.dst (.ms key 0 0 len))
 | .store T p x => bq tk (yg tt st.mem T (st.eval p) (st.eval x)) fun mem => Q ({ st with mem := mem }.put o.dst (.sc undef))
 | .call { callee := .builtin .append, args := xs, argTypes := ts } => match xs.toList.map st.eval with
  | [s, x] => nq tk (eK tt st.mem ts.toList s x) (fun p => Q ({ st with mem := (dt st.mem key p.1 p.2.2 p.2.1).1 }.put o.dst (dt st.mem key p.1 p.2.2 p.2.1).2)) (X7 tk m (kJ tt st.mem ts.toList s x) st o.dst Q)
  | _ => False
 | .call { callee := .value f, args := xs, .. } => match st.eval f with
  | .fP k => T3 tk m P k (xs.toList.map st.eval) st o.dst Q
  | fv => bq tk (bD fv (xs.toList.map st.eval)) fun p => qz tk m P p.1 p.2 (dq st.mem p.2) (p.2.flatMap cL) st o.dst Q
 | .makeSlice T l c => bq tk (sy tt T (st.eval l) (st.eval c)) fun p => Q ({ st with mem := bO st.mem key (.rows 0 p.1 p.2.1) }.put o.dst (.ms key 0 0 p.2.1.length))
 | .makeMap _ none => Q ({ st with mem := bO st.mem key (.map [] 0) }.put o.dst (.mp key))
 | .mapUpdate T d k x => bq tk (bX P st.mem T (st.eval d) (st.eval k) (st.eval x)) fun mem => Q ({ st with mem := mem }.put o.dst (.sc undef))
 | .insert T d k x => bq tk (bX P st.mem T (st.eval d) (st.eval k) (st.eval x)) fun mem => Q ({ st with mem := mem }.put o.dst (.sc undef))
 | .mapEntry T d k => bq tk (rF P st.mem T (st.eval d) (st.eval k)) fun p => Q ({ st with mem := p.1 }.put o.dst p.2)
 | .entryStore _ d s x => bq tk (rG st.mem (st.eval d) (st.eval s) (st.eval x)) fun mem => Q ({ st with mem := mem }.put o.dst (.sc undef))
 | .call { callee := .builtin .delete, args := xs, argTypes := ts } => bq tk (n6 P st.mem ts (xs.toList.map st.eval)) fun mem => Q ({ st with mem := mem }.put o.dst (.sc (.tuple #[])))
 | .range T x => bq tk (lB P st.mem T (st.eval x)) fun B => Q ({ st with mem := bO st.mem key B }.put o.dst (.ptr key 0))
 | .next it str => nxV tk m st o.dst (st.eval it) str Q
 | .binOp op T x y _ => nq tk (k7 tt op T (st.eval x) (st.eval y)) (fun n => ZC tk m n op st o.dst Q) (bq tk (iJ P tt st o) fun v => Q (st.put o.dst v))
 | _ => bq tk (iJ P tt st o) fun v => Q (st.put o.dst v)
theorem oh {α : Type} {k : Tk} {o : Option α} {A B : α → Prop} (h : bq k o A) (jQ : ∀ v, A v → B v) : bq k o B := by
 cases o with
 | none => exact h
 | some v => exact jQ v h
theorem CU {dst : Option Tmp} {it : V} {str : Bool} {A B : St → Prop} (h : p8 st dst it str A) (jQ : ∀ s, A s → B s) : p8 st dst it str B := by
 unfold p8 at h ⊢
 split at h
 ·split at h
  ·split at h
   ·exact ⟨h.1, h.2.1, fun e => jQ _ (h.2.2.1 e), fun e he => jQ _ (h.2.2.2 e he)⟩
   ·exact h
  ·refine ⟨h.1, ?_⟩
   have := h.2
   split at this
   ·rename_i hp; rw [if_pos hp]; exact jQ _ this
   ·rename_i hp; rw [if_neg hp]; exact jQ _ this
  ·exact ⟨h.1, jQ _ h.2⟩
  ·exact h
 ·exact h
theorem CV {key : Nat} {o : Oper} {A B : St → Prop} (h : kj m P tt key o st A) (jQ : ∀ s, A s → B s) : kj m P tt key o st B := by
 have app : ∀ {ts : List TypeId} {s x : V}, nq tk (eK tt st.mem ts s x) (fun p => A ({ st with mem := (dt st.mem key p.1 p.2.2 p.2.1).1 }.put o.dst (dt st.mem key p.1 p.2.2 p.2.1).2)) (X7 tk m (kJ tt st.mem ts s x) st o.dst A) →
   nq tk (eK tt st.mem ts s x) (fun p => B ({ st with mem := (dt st.mem key p.1 p.2.2 p.2.1).1 }.put o.dst (dt st.mem key p.1 p.2.2 p.2.1).2)) (X7 tk m (kJ tt st.mem ts s x) st o.dst B) := fun {ts s x} h => by
  cases ha : eK tt st.mem ts s x with
  | some p => rw [ha, qx] at h; exact jQ _ h
  | none => rw [ha, qy] at h; exact ⟨h.1, CT (show sC tt st ts s x o.dst A from h.2) jQ⟩
 have cv : ∀ {f : FuncId} {vs : List V} {p : Option (List V)} {keys : List (Nat × Nat)}, qz tk m P f vs p keys st o.dst A → qz tk m P f vs p keys st o.dst B := fun h => by
  rcases h with ⟨vs', r, h1, h2, h3⟩ | ⟨r, m', h1, h2⟩ | ⟨hm, R, h1, h2⟩ | ⟨r, h1, h2⟩
  ·exact .inl ⟨vs', r, h1, h2, jQ _ h3⟩
  ·exact .inr (.inl ⟨r, m', h1, jQ _ h2⟩)
  ·exact .inr (.inr (.inl ⟨hm, R, h1, fun r m' h => jQ _ (h2 r m' h)⟩))
  ·exact .inr (.inr (.inr ⟨r, h1, jQ _ h2⟩))
 obtain ⟨dst, op, type, pos, after, guard⟩ := o
 cases op
 case call c =>
  obtain ⟨callee, args, ats⟩ := c
  cases callee
  case value f =>
   simp only [kj] at h ⊢
   split at h
   ·rcases h with ⟨b, m', h1, h2⟩ | ⟨hm, R, h1, h2⟩
    ·exact .inl ⟨b, m', h1, jQ _ h2⟩
    ·exact .inr ⟨hm, R, h1, fun b m' h => jQ _ (h2 b m' h)⟩
   ·exact oh h fun v hv => cv hv
  case builtin b =>
   cases b
   case append =>
    simp only [kj] at h ⊢
    split at h
    ·exact app h
    ·exact h
   all_goals (simp only [kj] at h ⊢; exact oh h fun v hv => jQ _ hv)
  all_goals (simp only [kj] at h ⊢; exact oh h fun v hv => jQ _ hv)
 case makeMap T l =>
  cases l with
  | none => exact jQ _ h
  | some l => simp only [kj] at h ⊢; exact oh h fun v hv => jQ _ hv
 case next it str => exact ⟨h.1, CU h.2 jQ⟩
 case binOp op T x y yt =>
  simp only [kj] at h ⊢
  cases hn : k7 tt op T (st.eval x) (st.eval y) with
  | some n =>
   rw [hn, qx] at h
   exact ⟨h.1, fun b hb => jQ _ (h.2 b hb)⟩
  | none => rw [hn, qy] at h; exact oh h fun v hv => jQ _ hv
 all_goals (simp only [kj] at h ⊢; exact oh h fun v hv => jQ _ hv)
def Ok (m : Bool) (P : Program) (tt : Table) (key : Nat) (o : Oper) (st : St) (Q : St → Prop) : Prop := match m with
 | true => bP P tt key o st Q
 | false => ∃ s, Q s ∧ ∀ K : St → Prop, K s → bP P tt key o st K
theorem gi {key : Nat} {o : Oper} (s : St) (h : Q s) (hk : ∀ K : St → Prop, K s → bP P tt key o st K) : Ok m P tt key o st Q := by
 cases m
 ·exact ⟨s, h, hk⟩
 ·exact hk Q h
theorem Iq {f : FuncId} {vs : List V} {dst : Option Tmp} {k : Tk} (h : qz k m P f vs (dq st.mem vs) (vs.flatMap cL) st dst Q) : (m = true ∧ sB P f vs st dst Q) ∨ ∃ s, Q s ∧ ∀ K : St → Prop, K s → sB P f vs st dst K := by
 rcases h with ⟨vs', r, h1, h2, h3⟩ | ⟨r, m', h1, h2⟩ | ⟨hm, R, h1, h2⟩ | ⟨r, h1, h2⟩
 ·exact .inr ⟨_, h3, fun K hK => .inl ⟨vs', r, h1, h2, hK⟩⟩
 ·exact .inr ⟨_, h2, fun K hK => .inr (.inl ⟨r, m', h1, hK⟩)⟩
 ·exact .inl ⟨hm, .inr (.inr (.inl ⟨R, h1, h2⟩))⟩
 ·exact .inr ⟨_, h2, fun K hK => .inr (.inr (.inr ⟨r, h1, hK⟩))⟩
theorem Ir {key : Nat} {o : Oper} (h : kj m P tt key o st Q) : Ok m P tt key o st Q := by
 unfold kj at h
 split at h
 all_goals try (rename_i jD; simp only [gV] at h; obtain ⟨v, h1, h2⟩ := h; refine gi _ h2 fun K hK => ?_; unfold bP; rw [jD]; dsimp only; rw [h1]; exact hK)
 ·rename_i jD
  simp only [gV] at h
  obtain ⟨mem, h1, h2⟩ := h
  refine gi _ h2 fun K hK => ?_
  unfold bP; rw [jD]; dsimp only
  unfold Mw at h1
  split at h1
  ·rename_i hl; cases h1; rw [hl]; exact hK
  ·rename_i hl
   rw [hl]
   split at h1
   ·rename_i hl; cases h1; dsimp only; rw [hl]; exact hK
   ·cases h1
 ·rename_i jD
  simp only [gV] at h
  obtain ⟨mem, h1, h2⟩ := h
  refine gi _ h2 fun K hK => ?_
  unfold bP; rw [jD]; dsimp only
  unfold yg at h1
  split at h1
  ·rename_i hl; cases h1; rw [hl]; exact hK
  ·rename_i hl; rw [hl]; dsimp only; rw [h1]; exact hK
 ·rename_i jD
  split at h
  ·rename_i s x LU
   cases ha : eK tt st.mem _ s x with
   | some p =>
    rw [ha, qx] at h
    refine gi _ h fun K hK => ?_
    unfold bP; rw [jD]; dsimp only; rw [LU]; dsimp only; rw [ha]; exact hK
   | none =>
    rw [ha, qy] at h
    obtain ⟨rfl, h⟩ := h
    show bP P tt key o st Q
    unfold bP; rw [jD]; dsimp only; rw [LU]; dsimp only; rw [ha]; exact h
  ·exact h.elim
 ·rename_i jD
  split at h
  ·rename_i k hk
   rcases h with ⟨b, m', h1, h2⟩ | ⟨rfl, R, h1, h2⟩
   ·refine gi _ h2 fun K hK => ?_
    unfold bP; rw [jD]; dsimp only; rw [hk]; exact .inl ⟨b, m', h1, hK⟩
   ·show bP P tt key o st Q
    unfold bP; rw [jD]; dsimp only; rw [hk]; exact .inr ⟨R, h1, h2⟩
  ·rename_i hk
   simp only [gV] at h
   obtain ⟨⟨g, vs⟩, h1, h2⟩ := h
   have T4 : ∀ K : St → Prop, sB P g vs st o.dst K → bP P tt key o st K := fun K hK => by
    unfold bP; rw [jD]; dsimp only
    split
    ·rename_i k hy; exact (hk k hy).elim
    ·rw [h1]; exact hK
   rcases Iq h2 with ⟨rfl, h3⟩ | ⟨s, h3, h4⟩
   ·exact T4 Q h3
   ·exact gi s h3 fun K hK => T4 K (h4 K hK)
 ·rename_i jD
  exact gi _ h fun K hK => by unfold bP; rw [jD]; exact hK
 ·rename_i jD
  obtain ⟨rfl, h⟩ := h
  show bP P tt key o st Q
  unfold bP; rw [jD]; exact h
 ·rename_i op T x y yt jD
  cases hn : k7 tt op T (st.eval x) (st.eval y) with
  | some n =>
   rw [hn, qx] at h
   obtain ⟨rfl, h⟩ := h
   show bP P tt key o st Q
   unfold bP; rw [jD]; dsimp only; rw [hn]; exact h
  | none =>
   rw [hn, qy, gV] at h
   obtain ⟨v, h1, h2⟩ := h
   exact gi _ h2 fun K hK => by unfold bP; rw [jD]; dsimp only; rw [hn]; dsimp only; rw [h1]; exact hK
 ·rw [gV] at h
  obtain ⟨v, h1, h2⟩ := h
  refine gi _ h2 fun K hK => ?_
  unfold bP
  split
  all_goals first
   | (rw [h1]; exact hK)
   | (exfalso; solve_by_elim)
end
end Go.Eng
end

section
namespace Go.Eng
variable [aA]
section
variable {P : Program} {ρ : Option Nat} {n0 : Nat} {c : Code} {st : St} {Q : Exit → St → Prop}
theorem Eu {v v' : V} (t : Nat) (h0 : st.fr[t]? = some v) (hp : e8 st.mem v = some v') (h : cD P ρ n0 c { fr := st.fr.set t v', mem := aR st.mem (cL v) } Q) : cD P ρ n0 c st Q := fun E0 w0 Mx E w a he hs y3 => by
 obtain ⟨E', h1, h2, h3⟩ := hs.freeze (vs := [v]) (vs' := [v']) (by simp only [dq,hp])
 obtain ⟨x, hx, hr⟩ := hs.fr.get h0
 have y1 := (h3 [x] (bo.cons hr (.nil _))).2 0 v' x rfl rfl
 have e1 : [v].flatMap cL = cL v := by simp
 rw [e1] at h1
 have e2 : a.tmps.toList.set t x = a.tmps.toList := by
  apply List.ext_getElem?
  intro i
  rw [List.getElem?_set]
  split
  ·rename_i hi; subst hi
   rw [if_pos (List.getElem?_eq_some_iff.1 hx).1, hx]
  ·rfl
 have h4 : bo E' (st.fr.set t v') a.tmps.toList := by
  have := (bo.set (n := t) h1.fr y1)
  rwa [e2] at this
 exact h E0 w0 Mx E' w a (he.trans h2) ⟨h1.F, h1.lt, h1.mem, h1.top, h1.b7, h1.apart, h4⟩ (y3.G4 h2)
theorem Qc {v v' : V} (t : Nat) (h0 : st.fr[t]? = some v) (hp : e8 st.mem v = some v') (h : Ex P ρ n0 c { fr := st.fr.set t v', mem := aR st.mem (cL v) } Q) : Ex P ρ n0 c st Q := by
 obtain ⟨e, s2, hq, h2⟩ := h
 exact ⟨e, s2, hq, fun Q' h' => Eu t h0 hp (h2 Q' h')⟩
theorem bH.Qd {E : Env} {w : World} {a : Act} (hs : bH E w a st) {k j : Nat} {cs : List V} (hk : st.mem[k]? = some (.box cs)) (hj : cs[j]? = some (.sc (.slice none 0 0))) (b v : Nat) : bH E w a { st with mem := st.mem.set k (.box (cs.set j (.ms b v 0 0))) } := by
 have aZ := (List.getElem?_eq_some_iff.1 hk).1
 refine ⟨hs.F, hs.lt, fun k' B hB => ?_, fun k' gD => hs.top k' (by simpa using gD), fun k' B hB v hv => ?_, hs.apart, hs.fr⟩
 ·rw [List.getElem?_set] at hB
  split at hB
  ·rename_i he; subst he
   cases hB
   obtain ⟨g, T, xs, hb, hh, hr, hf⟩ := hs.mem k _ hk
   refine ⟨g, T, xs, hb, hh, ?_, hf⟩
   obtain ⟨x, hx, Tw⟩ := hr.get hj
   have Y7 := dk Tw
   subst Y7
   have := bo.set (n := j) hr (bC.eN E b v 0)
   rwa [ki hx] at this
  ·exact hs.mem k' B hB
 ·rw [List.getElem?_set] at hB
  split at hB
  ·rename_i he; subst he
   cases hB
   exact hs.b7 k _ hk v hv
  ·exact hs.b7 k' B hB v hv
end
end Go.Eng
end

section
namespace Go.Eng
variable [aA]
def lk (t : Nat) : List (Nat × V) → V
 | [] => .undef
 | p :: ws => if p.1 = t then p.2 else lk t ws
def W (n : Nat) (ws : List (Nat × V)) : List V := (List.range n).map fun i => lk i ws
theorem qA (n : Nat) (ws : List (Nat × V)) (t : Nat) : (W n ws)[t]? = if t < n then some (lk t ws) else none := by
 unfold W
 rw [List.getElem?_map]
 by_cases h : t < n
 ·rw [if_pos h, List.getElem?_range h]; rfl
 ·rw [if_neg h, List.getElem?_eq_none (by simp; omega)]; rfl
theorem Qe (n : Nat) (ws : List (Nat × V)) (t : Nat) : (W n ws).getD t .undef = if t < n then lk t ws else .undef := by
 rw [List.getD_eq_getElem?_getD, qA]; split <;> rfl
theorem nE (n : Nat) (ws : List (Nat × V)) : (W n ws).length = n := by simp [W]
theorem Ev (n : Nat) (ws : List (Nat × V)) (d : Nat) (v : V) : (W n ws).set d v = W n ((d, v) :: ws) := by
 apply List.ext_getElem?
 intro i
 rw [List.getElem?_set, qA, qA, nE]
 simp only [lk]
 by_cases h : d = i
 ·subst h; simp
 ·simp [h]
def rT (lN : List (Nat × V)) : List (Nat × V) → Prop
 | [] => True
 | p :: r => lk p.1 lN = p.2 ∧ rT lN r
theorem Ew {lN : List (Nat × V)} : ∀ {ws : List (Nat × V)}, rT lN ws → ∀ i, lk i ws = .undef ∨ lk i ws = lk i lN
 | [], _, i => .inl rfl
 | p :: r, h, i => by
  simp only [lk]
  by_cases e : p.1 = i
  ·subst e; rw [if_pos rfl]; exact .inr h.1.symm
  ·rw [if_neg e]; exact Ew h.2 i
theorem My {E : Env} {n : Nat} {lN ws : List (Nat × V)} (h : rT lN ws) {xs : List Value} (hr : bo E (W n lN) xs) : bo E (W n ws) xs := by
 refine ⟨by rw [← hr.1, nE, nE], fun i v x hv hx => ?_⟩
 rw [qA] at hv
 split at hv
 ·rename_i hi
  cases hv
  rcases Ew h i with e | e
  ·rw [e]; exact .undef _ _
  ·rw [e]; exact hr.2 i _ x (by rw [qA, if_pos hi]) hx
 ·cases hv
def Is (k : Nat) (ws : List (Nat × V)) : Bool := ws.all fun p => au k p.2
theorem T5 {k n : Nat} {ws : List (Nat × V)} (h : Is k ws = true) : (W n ws).all (au k) = true := by
 rw [List.all_eq_true]
 intro v hv
 unfold W at hv
 obtain ⟨i, -, rfl⟩ := List.mem_map.1 hv
 clear hv
 induction ws with
 | nil => rfl
 | cons p r ih =>
  unfold Is at h ih
  rw [List.all_cons, Bool.and_eq_true] at h
  simp only [lk]
  split
  ·exact h.1
  ·exact ih h.2

def X (_ : Tk) (m : Bool) (P : Program) (ρ : Option Nat) (n0 : Nat) (c : Code) (st : St) (Q : Exit → St → Prop) : Prop := match m with
 | true => cD P ρ n0 c st Q
 | false => Ex P ρ n0 c st Q
section
variable {k_ : Tk} {m : Bool} {P : Program} {tt : Table} {sp : List Nat} {ρ : Option Nat} {n0 : Nat} {st : St} {Q : Exit → St → Prop} {n : Nat} {ws lN : List (Nat × V)} {mem iO : List aC}
theorem X.mono {c : Code} {Q2 : Exit → St → Prop} (h : X k_ m P ρ n0 c st Q) (hq : ∀ e s, Q e s → Q2 e s) : X k_ m P ρ n0 c st Q2 := by
 cases m
 ·exact Ex.mono h hq
 ·exact cD.mono h hq
theorem uN {x y : Code} (h : X k_ m P ρ n0 x st (dV (fun st' => X k_ m P ρ n0 y st' Q) Q)) : X k_ m P ρ n0 (.seq x y) st Q := by
 cases m
 ·exact uK h
 ·exact aS h
theorem Mz {id : Nat} {c : Code} (h : X k_ m P ρ n0 c st (fR id Q)) : X k_ m P ρ n0 (.block id c) st Q := by
 cases m
 ·exact uL h
 ·exact bf h
theorem yh {c : Code} {st' : St} (hw : ∀ E w a, bH E w a st → bH E w a st') (h : X k_ m P ρ n0 c st' Q) : X k_ m P ρ n0 c st Q := by
 cases m
 ·obtain ⟨e, s, hq, h⟩ := h
  exact ⟨e, s, hq, fun Q' h' => nj hw (h Q' h')⟩
 ·exact nj hw h
theorem Qf {c : Code} (k : Nat) (hn : n0 ≤ k) (hf : st.fr.all (au k) = true) (hm : (st.mem.take k).all (az k) = true) (h : X k_ m P ρ n0 c { st with mem := st.mem.take k } Q) : X k_ m P ρ n0 c st Q := by
 cases m
 ·obtain ⟨e, s, hq, h⟩ := h
  exact ⟨e, s, hq, fun Q' h' => uj k [] hn hf hm (h Q' h')⟩
 ·exact uj k [] hn hf hm h
def rU (n0 k n : Nat) (ws : List (Nat × V)) (mem : List aC) (st : St) : Prop :=
 ∃ lN iO, st = ⟨W n lN, iO⟩ ∧ n0 ≤ k ∧ rT lN ws ∧ Is k ws = true ∧ mem.all (az k) = true ∧ iO.take k = mem
theorem cV {k : Nat} (h0 : n0 ≤ k) (h1 : rT lN ws ∧ Is k ws = true ∧ mem.all (az k) = true ∧ iO.take k = mem) : rU n0 k n ws mem ⟨W n lN, iO⟩ := ⟨lN, iO, rfl, h0, h1⟩
theorem CW {c : Code} {k : Nat} (hl : rU n0 k n ws mem st) (h : X k_ m P ρ n0 c ⟨W n ws, mem⟩ Q) : X k_ m P ρ n0 c st Q := by
 obtain ⟨lN, iO, rfl, h0, h1, h2, h3, h4⟩ := hl
 subst h4
 exact yh (st' := ⟨W n ws, iO⟩) (fun E w a hs => ⟨hs.F, hs.lt, hs.mem, hs.top, hs.b7, hs.apart, My h1 hs.fr⟩) (Qf k h0 (T5 h2) h3 h)

def gate (_ : Tk) (b : Bool) (d : Nat) (st : St) (f : Bool → St → Prop) : Prop := ∀ b', b = b' → f b' { st with fr := st.fr.set d (.sc (.bool b')) }
theorem Qg {d : Nat} {f : Bool → St → Prop} : gate k_ true d st f = f true { st with fr := st.fr.set d (.sc (.bool true)) } := propext ⟨fun h => h _ rfl, fun h b' e => by subst e; exact h⟩
theorem Qh {d : Nat} {f : Bool → St → Prop} : gate k_ false d st f = f false { st with fr := st.fr.set d (.sc (.bool false)) } := propext ⟨fun h => h _ rfl, fun h b' e => by subst e; exact h⟩
theorem aV {b : Bool} {d : Nat} {f : Bool → St → Prop} (h1 : b = true → f true { st with fr := st.fr.set d (.sc (.bool true)) }) (h2 : b = false → f false { st with fr := st.fr.set d (.sc (.bool false)) }) : gate k_ b d st f := by
 intro b' e
 cases b' with
 | true => exact h1 e
 | false => exact h2 e
theorem Ey {b : Bool} {d : Nat} {f : Bool → St → Prop} (hd : st.fr[d]? = some (.sc (.bool b)) ∨ st.fr.getD d .undef = .sc (.bool b)) (h : gate k_ b d st f) : f b st := by
 have := h b rfl
 have e : st.fr.set d (.sc (.bool b)) = st.fr := by
  rcases hd with hd | hd
  ·exact ki hd
  ·rw [List.getD_eq_getElem?_getD] at hd
   cases hg : st.fr[d]? with
   | none => rw [hg] at hd; cases hd
   | some v => rw [hg] at hd; cases hd; exact ki hg
 rw [e] at this
 exact this
def yi (_ : Tk) (v : Option V) (d : Nat) (want : Bool) (st : St) (yes no : St → Prop) : Prop := match v with
 | some (.sc (.bool b)) => gate tk b d st fun b s => match b == want with | true => yes s | false => no s
 | some (.sc _) => no st
 | some _ => False
 | none => no st
def sW : List Oper → Nat → Option Tmp
 | [], _ => none
 | o :: _, 0 => o.dst
 | _ :: r, n + 1 => sW r n
theorem MA {o : Oper} {r : List Oper} : sW (o :: r) 0 = o.dst := rfl
theorem Ez {o : Oper} {r : List Oper} {n : Nat} : sW (o :: r) (n + 1) = sW r n := rfl
theorem Av : ∀ (l : List Oper) (j : Nat), sW l j = (l[j]?).bind (·.dst)
 | [], j => by simp [sW]
 | o :: r, 0 => rfl
 | o :: r, j + 1 => by rw [Ez, Av r j, List.getElem?_cons_succ]
def gd (all : List Oper) (o : Oper) (st : St) (yes no : St → Prop) : Prop := match o.guard with
 | none => yes st
 | some (j, want) => match sW all j with
  | none => no st
  | some d => yi tk st.fr[d]? d want st yes no
theorem Ol {all : Array Oper} {o : Oper} {yes no : St → Prop} (h : gd all.toList o st yes no) : (df all st.fr o = some true ∧ yes st) ∨ (df all st.fr o = some false ∧ no st) := by
 unfold gd at h
 unfold df
 split at h
 ·rename_i hg; rw [hg]; exact .inl ⟨rfl, h⟩
 ·rename_i j want hg
  rw [hg]
  dsimp only
  rw [Av, Array.getElem?_toList] at h
  cases hd : (all[j]?).bind (·.dst) with
  | none => rw [hd] at h; exact .inr ⟨rfl, h⟩
  | some d =>
   rw [hd] at h
   dsimp only at h ⊢
   unfold yi at h
   split at h
   ·rename_i b hb
    have h := Ey (.inl hb) h
    rw [hb]
    dsimp only
    cases hc : b == want with
    | true => rw [hc] at h; exact .inl ⟨rfl, h⟩
    | false => rw [hc] at h; exact .inr ⟨rfl, h⟩
   ·rename_i x hx hb
    rw [hb]
    cases x with
    | bool b => exact absurd rfl (hx b)
    | _ => exact .inr ⟨rfl, h⟩
   ·exact h.elim
   ·rename_i hb; rw [hb]; exact .inr ⟨rfl, h⟩
def pn (m : Bool) (P : Program) (tt : Table) (all : List Oper) : List Oper → St → (St → Prop) → Prop
 | [], st, Q => Q st
 | o :: r, st, Q => gd all o st (fun s => kj m P tt s.mem.length o s fun s => pn m P tt all r s Q) (fun s => pn m P tt all r (s.put o.dst (.sc undef)) Q)
theorem Qi {all : List Oper} {Q : St → Prop} : pn m P tt all [] ⟨W n ws, mem⟩ Q = Q ⟨W n ws, mem⟩ := iw rfl
theorem Qj {all : List Oper} {o : Oper} {r : List Oper} {Q : St → Prop} : pn m P tt all (o :: r) ⟨W n ws, mem⟩ Q = gd all o ⟨W n ws, mem⟩ (fun s => kj m P tt s.mem.length o s fun s => pn m P tt all r s Q) (fun s => pn m P tt all r (s.put o.dst (.sc undef)) Q) := iw rfl
def T6 (m : Bool) (P : Program) (tt : Table) (all : Array Oper) (l : List Oper) (st : St) (Q : St → Prop) : Prop := match m with
 | true => dc P tt all l st Q
 | false => ∃ s, Q s ∧ ∀ K : St → Prop, K s → dc P tt all l st K
theorem yj {all : Array Oper} {Q : St → Prop} : ∀ (l : List Oper) (st : St), pn m P tt all.toList l st Q → T6 m P tt all l st Q
 | [], st, h => by
  cases m with
  | true => show dc P tt all [] st Q; rw [dc]; exact h
  | false => exact ⟨st, h, fun K hK => by rw [dc]; exact hK⟩
 | o :: r, st, h => by
  rw [pn] at h
  rcases Ol h with ⟨hw, h⟩ | ⟨hw, h⟩
  ·have h := Ir (CV (B := fun s => T6 m P tt all r s Q) h fun s hs => yj r s hs)
   cases m with
   | true =>
    show dc P tt all (o :: r) st Q
    rw [dc, hw]
    exact h
   | false =>
    obtain ⟨s1, h1, h2⟩ := h
    obtain ⟨s2, h3, h4⟩ := h1
    exact ⟨s2, h3, fun K hK => by rw [dc, hw]; exact h2 _ (h4 K hK)⟩
  ·have h := yj r _ h
   cases m with
   | true =>
    show dc P tt all (o :: r) st Q
    rw [dc, hw]; exact h
   | false =>
    obtain ⟨s2, h3, h4⟩ := h
    exact ⟨s2, h3, fun K hK => by rw [dc, hw]; exact h4 K hK⟩
theorem qB (ht : TT P tt) {id : Nat} {ops : Array Oper} (h : pn m P tt ops.toList ops.toList st (Q .normal)) : X k_ m P ρ n0 (.region id ops false) st Q := by
 have h := yj _ _ h
 cases m with
 | true => exact ja ht h
 | false =>
  obtain ⟨s, h1, h2⟩ := h
  exact ⟨.normal, s, h1, fun Q' h' => ja ht (h2 _ h')⟩
def EA (c : Operand) (st : St) (f : Bool → St → Prop) : Prop := match st.eval c with
 | .sc (.bool b) => match c with
  | .tmp t => gate tk b t st f
  | _ => f b st
 | _ => False
def lq (i : Nat) : List Nat → Bool
 | [] => false
 | a :: r => if a = i then true else lq i r
def ky : Code → Nat
 | .cond (.tmp t) _ _ => 10000 + t
 | .block i _ => 20000 + i
 | .seq _ _ => 30000
 | .region i _ _ => i
 | _ => 40000
def vc (m : Bool) (P : Program) (tt : Table) (sp : List Nat) (ρ : Option Nat) (n0 : Nat) : Code → St → (Exit → St → Prop) → Prop
 | .seq x y, st, Q => match x with
  | .region id ops false => match lq id sp with
   | false => pn m P tt ops.toList ops.toList st fun s => vc m P tt sp ρ n0 y s Q
   | true => X tk m P ρ n0 (.seq (.region id ops false) y) st Q
  | .skip => vc m P tt sp ρ n0 y st Q
  | _ => match lq (ky x) sp with
   | false => vc m P tt sp ρ n0 x st (dV (fun s => vc m P tt sp ρ n0 y s Q) Q)
   | true => X tk m P ρ n0 (.seq x y) st Q
 | .region id ops false, st, Q => match lq id sp with
  | false => pn m P tt ops.toList ops.toList st (Q .normal)
  | true => X tk m P ρ n0 (.region id ops false) st Q
 | .cond c x y, st, Q => EA c st fun b s => match b with | true => vc m P tt sp ρ n0 x s Q | false => vc m P tt sp ρ n0 y s Q
 | .block id c, st, Q => vc m P tt sp ρ n0 c st (fR id Q)
 | .skip, st, Q => Q .normal st
 | .ret, st, Q => Q .ret st
 | .exit id, st, Q => Q (.exit id) st
 | c, st, Q => X tk m P ρ n0 c st Q
theorem vx (ht : TT P tt) : ∀ {c : Code} {st : St} {Q : Exit → St → Prop}, vc m P tt sp ρ n0 c st Q → X k_ m P ρ n0 c st Q := by
 intro c
 induction c with
 | seq x y X8 Si =>
  intro st Q h
  unfold vc at h
  split at h
  ·split at h
   ·refine uN ((qB (Q := dV (fun s => vc m P tt sp ρ n0 y s Q) Q) ht h).mono fun e s h => ?_)
    cases e with
    | normal => exact Si h
    | _ => exact h
   ·exact h
  ·have h := Si h
   cases m
   ·exact uK (yf h)
   ·exact aS (bn h)
  ·split at h
   ·refine uN ((X8 h).mono fun e s h => ?_)
    cases e with
    | normal => exact Si h
    | _ => exact h
   ·exact h
 | region id ops mixed =>
  intro st Q h
  cases mixed
  ·unfold vc at h
   split at h
   ·exact qB ht h
   ·exact h
  ·unfold vc at h; exact h
 | cond c x y X8 Si =>
  intro st Q h
  unfold vc at h
  unfold EA at h
  split at h
  ·rename_i b hb
   have h : X k_ m P ρ n0 (if b = true then x else y) st Q := by
    split at h
    ·rename_i t
     have h := Ey (.inr hb) h
     cases b
     ·exact Si h
     ·exact X8 h
    ·cases b
     ·exact Si h
     ·exact X8 h
   cases m
   ·exact Es hb h
   ·exact aL hb h
  ·exact h.elim
 | block id c ih => intro st Q h; unfold vc at h; exact Mz (ih h)
 | skip =>
  intro st Q h; unfold vc at h
  cases m
  ·exact yf h
  ·exact bn h
 | ret =>
  intro st Q h; unfold vc at h
  cases m
  ·exact Ig h
  ·exact aY h
 | exit id =>
  intro st Q h; unfold vc at h
  cases m
  ·exact Er h
  ·exact dy h
 | _ => intro st Q h; unfold vc at h; exact h
section
variable {x y : Code} {id : Nat} {ops : Array Oper} {c : Operand}
theorem CX {v : Option V} {d : Nat} {want : Bool} {yes no : St → Prop} {k : Tk} : yi k v d want st yes no = match v with
  | some (.sc (.bool b)) => gate tk b d st fun b s => match b == want with | true => yes s | false => no s
  | some (.sc _) => no st
  | some _ => False
  | none => no st := iw rfl
def sV := @kj
theorem FG {key : Nat} {o : Oper} {Q : St → Prop} : kj m P tt key o ⟨W n ws, mem⟩ Q = sV m P tt key o ⟨W n ws, mem⟩ Q := iw rfl
theorem Qk {key : Nat} {o : Oper} {Q : St → Prop} : sV m P tt key o st Q = match o.op with
   | .alloc T => bq tk (tt T) fun i => Q ({ st with mem := bO st.mem key (.box (i.zero.map V.sc)) }.put o.dst (.ptr key 0))
   | .box _ x => bq tk (iB (st.eval x)) fun cs => Q ({ st with mem := bO st.mem key (.box cs) }.put o.dst (.ptr key 0))
   | .build T parts => bq tk (jG P tt T parts.toList st.eval) fun v => Q (st.put o.dst v)
   | .buildSlice T len parts => bq tk (Mw tt T len parts.toList st key) fun mem => Q ({ st with mem := mem }.put o.dst (.ms key 0 0 len))
   | .store T p x => bq tk (yg tt st.mem T (st.eval p) (st.eval x)) fun mem => Q ({ st with mem := mem }.put o.dst (.sc undef))
   | .call { callee := .builtin .append, args := xs, argTypes := ts } => match xs.toList.map st.eval with
    | [s, x] => nq tk (eK tt st.mem ts.toList s x) (fun p => Q ({ st with mem := (dt st.mem key p.1 p.2.2 p.2.1).1 }.put o.dst (dt st.mem key p.1 p.2.2 p.2.1).2)) (X7 tk m (kJ tt st.mem ts.toList s x) st o.dst Q)
    | _ => False
   | .call { callee := .value f, args := xs, .. } => match st.eval f with
    | .fP k => T3 tk m P k (xs.toList.map st.eval) st o.dst Q
    | fv => bq tk (bD fv (xs.toList.map st.eval)) fun p => qz tk m P p.1 p.2 (dq st.mem p.2) (p.2.flatMap cL) st o.dst Q
   | .makeSlice T l c => bq tk (sy tt T (st.eval l) (st.eval c)) fun p => Q ({ st with mem := bO st.mem key (.rows 0 p.1 p.2.1) }.put o.dst (.ms key 0 0 p.2.1.length))
   | .makeMap _ none => Q ({ st with mem := bO st.mem key (.map [] 0) }.put o.dst (.mp key))
   | .mapUpdate T d k x => bq tk (bX P st.mem T (st.eval d) (st.eval k) (st.eval x)) fun mem => Q ({ st with mem := mem }.put o.dst (.sc undef))
   | .insert T d k x => bq tk (bX P st.mem T (st.eval d) (st.eval k) (st.eval x)) fun mem => Q ({ st with mem := mem }.put o.dst (.sc undef))
   | .mapEntry T d k => bq tk (rF P st.mem T (st.eval d) (st.eval k)) fun p => Q ({ st with mem := p.1 }.put o.dst p.2)
   | .entryStore _ d s x => bq tk (rG st.mem (st.eval d) (st.eval s) (st.eval x)) fun mem => Q ({ st with mem := mem }.put o.dst (.sc undef))
   | .call { callee := .builtin .delete, args := xs, argTypes := ts } => bq tk (n6 P st.mem ts (xs.toList.map st.eval)) fun mem => Q ({ st with mem := mem }.put o.dst (.sc (.tuple #[])))
   | .range T x => bq tk (lB P st.mem T (st.eval x)) fun B => Q ({ st with mem := bO st.mem key B }.put o.dst (.ptr key 0))
   | .next it str => nxV tk m st o.dst (st.eval it) str Q
   | .binOp op T x y _ => nq tk (k7 tt op T (st.eval x) (st.eval y)) (fun n => ZC tk m n op st o.dst Q) (bq tk (iJ P tt st o) fun v => Q (st.put o.dst v))
   | _ => bq tk (iJ P tt st o) fun v => Q (st.put o.dst v) := iw rfl
theorem Ql {all : List Oper} {o : Oper} {yes no : St → Prop} : gd all o ⟨W n ws, mem⟩ yes no = match o.guard with
  | none => yes ⟨W n ws, mem⟩
  | some (j, want) => match sW all j with
   | none => no ⟨W n ws, mem⟩
   | some d => yi tk (W n ws)[d]? d want ⟨W n ws, mem⟩ yes no := iw rfl
theorem FH {f : Bool → St → Prop} : EA c st f = match st.eval c with
  | .sc (.bool b) => match c with
   | .tmp t => gate tk b t st f
   | _ => f b st
  | _ => False := iw rfl
theorem T7 : vc m P tt sp ρ n0 (.seq (.region id ops false) y) ⟨W n ws, mem⟩ Q = match lq id sp with
  | false => pn m P tt ops.toList ops.toList ⟨W n ws, mem⟩ fun s => vc m P tt sp ρ n0 y s Q
  | true => X tk m P ρ n0 (.seq (.region id ops false) y) ⟨W n ws, mem⟩ Q := iw rfl
theorem T8 : vc m P tt sp ρ n0 (.seq (.region id ops true) y) ⟨W n ws, mem⟩ Q = match lq id sp with
  | false => vc m P tt sp ρ n0 (.region id ops true) ⟨W n ws, mem⟩ (dV (fun s => vc m P tt sp ρ n0 y s Q) Q)
  | true => X tk m P ρ n0 (.seq (.region id ops true) y) ⟨W n ws, mem⟩ Q := iw rfl
theorem T9 {x1 : Code} : vc m P tt sp ρ n0 (.seq (.seq x x1) y) ⟨W n ws, mem⟩ Q = match lq 30000 sp with
  | false => vc m P tt sp ρ n0 (.seq x x1) ⟨W n ws, mem⟩ (dV (fun s => vc m P tt sp ρ n0 y s Q) Q)
  | true => X tk m P ρ n0 (.seq (.seq x x1) y) ⟨W n ws, mem⟩ Q := iw rfl
theorem Ua {x1 : Code} {t : Nat} : vc m P tt sp ρ n0 (.seq (.cond (.tmp t) x x1) y) ⟨W n ws, mem⟩ Q = match lq (10000 + t) sp with
  | false => vc m P tt sp ρ n0 (.cond (.tmp t) x x1) ⟨W n ws, mem⟩ (dV (fun s => vc m P tt sp ρ n0 y s Q) Q)
  | true => X tk m P ρ n0 (.seq (.cond (.tmp t) x x1) y) ⟨W n ws, mem⟩ Q := iw rfl
theorem Ub : vc m P tt sp ρ n0 (.seq (.block id x) y) ⟨W n ws, mem⟩ Q = match lq (20000 + id) sp with
  | false => vc m P tt sp ρ n0 (.block id x) ⟨W n ws, mem⟩ (dV (fun s => vc m P tt sp ρ n0 y s Q) Q)
  | true => X tk m P ρ n0 (.seq (.block id x) y) ⟨W n ws, mem⟩ Q := iw rfl
theorem ZD : vc m P tt sp ρ n0 (.region id ops false) ⟨W n ws, mem⟩ Q = match lq id sp with
  | false => pn m P tt ops.toList ops.toList ⟨W n ws, mem⟩ (Q .normal)
  | true => X tk m P ρ n0 (.region id ops false) ⟨W n ws, mem⟩ Q := iw rfl
theorem ZE : vc m P tt sp ρ n0 (.region id ops true) ⟨W n ws, mem⟩ Q = X tk m P ρ n0 (.region id ops true) ⟨W n ws, mem⟩ Q := iw rfl
theorem ZF : vc m P tt sp ρ n0 (.cond c x y) ⟨W n ws, mem⟩ Q = EA c ⟨W n ws, mem⟩ fun b s => match b with | true => vc m P tt sp ρ n0 x s Q | false => vc m P tt sp ρ n0 y s Q := iw rfl
theorem ZG : vc m P tt sp ρ n0 (.block id x) ⟨W n ws, mem⟩ Q = vc m P tt sp ρ n0 x ⟨W n ws, mem⟩ (fR id Q) := iw rfl
theorem ZH : vc m P tt sp ρ n0 .skip ⟨W n ws, mem⟩ Q = Q .normal ⟨W n ws, mem⟩ := iw rfl
theorem ZI : vc m P tt sp ρ n0 .ret ⟨W n ws, mem⟩ Q = Q .ret ⟨W n ws, mem⟩ := iw rfl
theorem ZJ : vc m P tt sp ρ n0 (.exit id) ⟨W n ws, mem⟩ Q = Q (.exit id) ⟨W n ws, mem⟩ := iw rfl
theorem ZK : vc m P tt sp ρ n0 (.loop x) ⟨W n ws, mem⟩ Q = X tk m P ρ n0 (.loop x) ⟨W n ws, mem⟩ Q := iw rfl
theorem ZL {f : St → Prop} : dV f Q .normal st = f st := iw rfl
theorem ZM {f : St → Prop} : dV f Q .ret st = Q .ret st := iw rfl
theorem ZN {f : St → Prop} {j : Nat} : dV f Q (.exit j) st = Q (.exit j) st := iw rfl
theorem ZO {j : Nat} : fR j Q .normal st = Q .normal st := iw rfl
theorem ZP {j : Nat} : fR j Q .ret st = Q .ret st := iw rfl
theorem ZQ {i j : Nat} : fR i Q (.exit j) st = if j = i then Q .normal st else Q (.exit j) st := iw rfl
end
attribute [irreducible] vc
end
end Go.Eng
end

section
namespace Go.Eng
variable [aA]
section
variable {k_ : Tk} {m : Bool} {P : Program} {tt : Table} {ρ : Option Nat} {n0 : Nat} {st : St} {Q : Exit → St → Prop} {n : Nat} {ws lN : List (Nat × V)} {mem iO : List aC}
theorem uO (ht : TT P tt) {sp : List Nat} {y : Code} (e : Exit) (s : St) (h : dV (fun s => vc m P tt sp ρ n0 y s Q) Q e s) : dV (fun s => X k_ m P ρ n0 y s Q) Q e s := by
 cases e with
 | normal => exact vx (k_ := k_) ht h
 | _ => exact h
theorem sq (ht : TT P tt) (sp : List Nat) {x y : Code} (h : vc m P tt sp ρ n0 x st (dV (fun s => vc m P tt sp ρ n0 y s Q) Q)) : X k_ m P ρ n0 (.seq x y) st Q := uN ((vx ht h).mono (uO ht))
theorem Ly (ht : TT P tt) (sp : List Nat) {id : Nat} {ops : Array Oper} {y : Code} (h : pn m P tt ops.toList ops.toList st fun s => vc m P tt sp ρ n0 y s Q) : X k_ m P ρ n0 (.seq (.region id ops false) y) st Q :=
 uN ((qB (Q := dV (fun s => vc m P tt sp ρ n0 y s Q) Q) ht h).mono (uO ht))
theorem kA (ht : TT P tt) {id : Nat} {ops : Array Oper} (h : pn m P tt ops.toList ops.toList st (Q .normal)) : X k_ m P ρ n0 (.region id ops false) st Q := qB ht h
theorem mf {c : Code} {k j : Nat} (hl : rU n0 k n ws mem st) (h : iD P ρ n0 c j ⟨W n ws, mem⟩ Q) : iD P ρ n0 c j st Q := by
 cases j with
 | zero => exact h.elim
 | succ j => exact CW (k_ := .b) (m := true) hl h
theorem Qm {α : Type} (F : α → List (Nat × V)) (M : α → List aC) (μ : α → Nat) (Inv : α → Prop) (a0 : α) (k : Nat) {c : Code} (h0 : rU n0 k n (F a0) (M a0) st) (hi : Inv a0)
  (step : ∀ a, Inv a → X k_ m P ρ n0 c ⟨W n (F a), M a⟩ (dV (fun s => ∃ a', Inv a' ∧ μ a' < μ a ∧ rU n0 k n (F a') (M a') s) Q)) : X k_ m P ρ n0 (.loop c) st Q := by
 cases m with
 | true =>
  have key : ∀ (j : Nat) (a : α), Inv a → μ a = j → iD P ρ n0 c (j + 1) ⟨W n (F a), M a⟩ Q := by
   intro j
   induction j using Nat.strongRecOn with
   | _ j ih =>
    intro a hi hj
    refine cD.mono (step a hi) fun e s h => ?_
    cases e with
    | normal =>
     obtain ⟨a', h1, h2, h3⟩ := h
     exact mf h3 (o9 (by omega) (ih _ (by omega) a' h1 rfl))
    | _ => exact h
  exact ni _ (mf h0 (key _ a0 hi rfl))
 | false =>
  have key : ∀ (j : Nat) (a : α), Inv a → μ a = j → ∃ (e : Exit) (s : St), Q e s ∧ ∀ Q' : Exit → St → Prop, Q' e s → ∃ i, iD P ρ n0 c i ⟨W n (F a), M a⟩ Q' := by
   intro j
   induction j using Nat.strongRecOn with
   | _ j ih =>
    intro a hi hj
    obtain ⟨e, s, hq, h⟩ := step a hi
    cases e with
    | normal =>
     obtain ⟨a', h1, h2, h3⟩ := hq
     obtain ⟨e2, s2, O9, h5⟩ := ih _ (by omega) a' h1 rfl
     refine ⟨e2, s2, O9, fun Q' h' => ?_⟩
     obtain ⟨i, h6⟩ := h5 Q' h'
     exact ⟨i + 1, h _ (mf h3 h6)⟩
    | _ => exact ⟨_, s, hq, fun Q' h' => ⟨1, h (dV (fun st' => iD P ρ n0 c 0 st' Q') Q') h'⟩⟩
  obtain ⟨e, s, hq, h⟩ := key _ a0 hi rfl
  refine ⟨e, s, hq, fun Q' h' => ?_⟩
  obtain ⟨j, hj⟩ := h Q' h'
  exact ni j (mf h0 hj)
theorem gF (ht : TT P tt) (sp : List Nat) {α : Type} (F : α → List (Nat × V)) (M : α → List aC) (μ : α → Nat) (Inv : α → Prop) (a0 : α) (k : Nat) {c : Code} (h0 : rU n0 k n (F a0) (M a0) st) (hi : Inv a0)
  (step : ∀ a, Inv a → ∀ K : St → Prop, (∀ s, (∃ a', Inv a' ∧ μ a' < μ a ∧ rU n0 k n (F a') (M a') s) → K s) → vc m P tt sp ρ n0 c ⟨W n (F a), M a⟩ (dV K Q)) : X k_ m P ρ n0 (.loop c) st Q := Qm F M μ Inv a0 k h0 hi fun a h => vx ht (step a h _ fun _ h => h)
def pk (ws : List (Nat × V)) : List Nat → List (Nat × V)
 | [] => []
 | k :: r => (k, lk k ws) :: pk ws r
def zk : List Nat → List V → List (Nat × V) → List (Nat × V)
 | t :: ts, v :: vs, r => (t, v) :: zk ts vs r
 | _, _, r => r
theorem Qn {ks : List Nat} : rT ws (pk ws ks) := by
 induction ks with
 | nil => trivial
 | cons k r ih => exact ⟨rfl, ih⟩
theorem dC {k : Nat} {p : Nat × V} : Is k (p :: ws) = (au k p.2 && Is k ws) := T2 rfl
theorem eL {k : Nat} : Is k [] = true := T2 rfl
theorem Qo (ht : TT P tt) (sp : List Nat) (ts : List Nat) (Lx : List V) (k : Nat) (ks : List Nat) (μ : List V → Nat) (Inv : List V → Prop) {c : Code} (hn : n0 ≤ k) (h0 : rT lN (zk ts Lx (pk lN ks)) ∧ Is k (zk ts Lx (pk lN ks)) = true ∧ (iO.take k).all (az k) = true) (hi : Inv Lx)
  (step : ∀ vs, Inv vs → ∀ K : St → Prop, (∀ s, (∃ vs', Inv vs' ∧ μ vs' < μ vs ∧ rU n0 k n (zk ts vs' (pk lN ks)) (iO.take k) s) → K s) → vc m P tt sp ρ n0 c ⟨W n (zk ts vs (pk lN ks)), iO.take k⟩ (dV K Q)) : X k_ m P ρ n0 (.loop c) ⟨W n lN, iO⟩ Q :=
 gF ht sp (fun vs => zk ts vs (pk lN ks)) (fun _ => iO.take k) μ Inv Lx k (cV hn ⟨h0.1, h0.2.1, h0.2.2, rfl⟩) hi step
def dr (ws : List (Nat × V)) : List Nat → List V
 | [] => []
 | t :: r => lk t ws :: dr ws r
theorem yl : ∀ {ts : List Nat} {r : List (Nat × V)}, rT ws r → rT ws (zk ts (dr ws ts) r)
 | [], r, h => h
 | t :: ts, r, h => ⟨rfl, yl h⟩
theorem eA (ht : TT P tt) (sp : List Nat) (ts : List Nat) (k : Nat) (ks : List Nat) (μ : List V → Nat) (Inv : List V → Prop) {c : Code} (hn : n0 ≤ k) (h0 : Is k (zk ts (dr lN ts) (pk lN ks)) = true ∧ (iO.take k).all (az k) = true) (hi : Inv (dr lN ts))
  (step : ∀ vs, Inv vs → ∀ K : St → Prop, (∀ s, (∃ vs', Inv vs' ∧ μ vs' < μ vs ∧ rU n0 k n (zk ts vs' (pk lN ks)) (iO.take k) s) → K s) → vc m P tt sp ρ n0 c ⟨W n (zk ts vs (pk lN ks)), iO.take k⟩ (dV K Q)) : X k_ m P ρ n0 (.loop c) ⟨W n lN, iO⟩ Q :=
 Qo ht sp ts (dr lN ts) k ks μ Inv hn ⟨yl Qn, h0⟩ hi step
theorem kB {ts ks : List Nat} {k j : Nat} {Inv : List V → Prop} {μ : List V → Nat} {Lz : List (Nat × V)} {It : List aC} (hn : n0 ≤ k) (h : rT Lz (pk lN ks) ∧ Is k (zk ts (dr Lz ts) (pk lN ks)) = true ∧ (iO.take k).all (az k) = true ∧ It.take k = iO.take k) (hi : Inv (dr Lz ts)) (hm : μ (dr Lz ts) < j) :
  ∃ vs', Inv vs' ∧ μ vs' < j ∧ rU n0 k n (zk ts vs' (pk lN ks)) (iO.take k) ⟨W n Lz, It⟩ := ⟨_, hi, hm, cV hn ⟨yl h.1, h.2⟩⟩
theorem ct {ts ks : List Nat} {k : Nat} {Inv : List V → Prop} {Lz : List (Nat × V)} {It : List aC} (hn : n0 ≤ k) (h : rT Lz (pk lN ks) ∧ Is k (zk ts (dr Lz ts) (pk lN ks)) = true ∧ (iO.take k).all (az k) = true ∧ It.take k = iO.take k) (hi : Inv (dr Lz ts)) :
  ∃ vs', Inv vs' ∧ rU n0 k n (zk ts vs' (pk lN ks)) (iO.take k) ⟨W n Lz, It⟩ := ⟨_, hi, cV hn ⟨yl h.1, h.2⟩⟩
theorem fp (ht : TT P tt) (sp : List Nat) (ts : List Nat) (k : Nat) (ks : List Nat) (Inv : List V → Prop) {x y : Code}
  (h1 : ∀ K : St → Prop, (∀ s, (∃ vs, Inv vs ∧ rU n0 k n (zk ts vs (pk lN ks)) (iO.take k) s) → K s) → vc m P tt sp ρ n0 x ⟨W n lN, iO⟩ (dV K Q))
  (h2 : ∀ vs, Inv vs → vc m P tt sp ρ n0 y ⟨W n (zk ts vs (pk lN ks)), iO.take k⟩ Q) : X k_ m P ρ n0 (.seq x y) ⟨W n lN, iO⟩ Q := by
 refine uN ((vx ht (h1 _ fun _ h => h)).mono fun e s h => ?_)
 cases e with
 | normal =>
  obtain ⟨vs, hv, hl⟩ := h
  exact CW (k_ := k_) hl (vx ht (h2 vs hv))
 | _ => exact h
theorem rV (ht : TT P tt) (sp : List Nat) {α : Type} (F : α → List (Nat × V)) (M : α → List aC) (k : Nat) (Inv : α → Prop) {x y : Code}
  (h1 : ∀ K : St → Prop, (∀ s, (∃ a, Inv a ∧ rU n0 k n (F a) (M a) s) → K s) → vc m P tt sp ρ n0 x st (dV K Q))
  (h2 : ∀ a, Inv a → vc m P tt sp ρ n0 y ⟨W n (F a), M a⟩ Q) : X k_ m P ρ n0 (.seq x y) st Q := by
 refine uN ((vx ht (h1 _ fun _ h => h)).mono fun e s h => ?_)
 cases e with
 | normal =>
  obtain ⟨a, hv, hl⟩ := h
  exact CW (k_ := k_) hl (vx ht (h2 a hv))
 | _ => exact h
theorem ZR {c : Code} {v v' : V} (t : Nat) (hn : t < n) (h0 : lk t ws = v) (hp : e8 mem v = some v') (h : X k_ m P ρ n0 c ⟨W n ((t, v') :: ws), aR mem (cL v)⟩ Q) : X k_ m P ρ n0 c ⟨W n ws, mem⟩ Q := by
 have hg : (⟨W n ws, mem⟩ : St).fr[t]? = some v := by rw [← h0]; show (W n ws)[t]? = _; rw [qA, if_pos hn]
 rw [← Ev] at h
 cases m
 ·exact Qc t hg hp h
 ·exact Eu t hg hp h
def Om (_ : Tk) (P : Program) (f : FuncId) (o : Option (List V)) (st : St) (dst : Option Tmp) (Q : St → Prop) : Prop := ∃ vs' r, o = some vs' ∧ x3 P f vs' r ∧ Q (st.put dst r)
def Iu (_ : Tk) (P : Program) (f : FuncId) (o : Option (List V)) (st : St) (key : Nat) (dst : Option Tmp) (Q : St → Prop) : Prop := ∃ vs' e rs, o = some vs' ∧ sI P f vs' e rs ∧ Q (rL st key dst e rs)
def Iv (_ : Tk) (P : Program) (f : FuncId) (o : Option (List V)) (keys : List (Nat × Nat)) (st : St) (dst : Option Tmp) (Q : St → Prop) : Prop := ∃ vs' r, o = some vs' ∧ aT P f vs' r ∧ Q ({ st with mem := bx st.mem keys r }.put dst r)
def Iw (_ : Tk) (P : Program) (f : FuncId) (vs : List V) (k : Nat) (st : St) (dst : Option Tmp) (Q : St → Prop) : Prop := HG P f vs k st dst Q
def Ix (P : Program) (tt : Table) (o : Oper) (wk st : St) (Q : St → Prop) : Prop :=
 match o.op with
 | .call { callee := .value f, args := xs, .. } => bq tk (bD (wk.eval f) (xs.toList.map wk.eval)) fun p => Om tk P p.1 (dq [] p.2) st o.dst Q
 | _ => bq tk (tf P tt o wk) fun v => Q (st.put o.dst v)
def Qp (P : Program) (o : Oper) (key : Nat) (st : St) (Q : St → Prop) : Prop :=
 match o.op with
 | .call { callee := .value f, args := xs, .. } => bq tk (bD (st.eval f) (xs.toList.map st.eval)) fun p => Iu tk P p.1 (dq [] p.2) st key o.dst Q
 | _ => False
def zG (P : Program) (o : Oper) (st : St) (Q : St → Prop) : Prop :=
 match o.op with
 | .call { callee := .value f, args := xs, .. } => bq tk (bD (st.eval f) (xs.toList.map st.eval)) fun p => Iv tk P p.1 (dq st.mem p.2) (p.2.flatMap cL) st o.dst Q
 | _ => False
def eG (P : Program) (tt : Table) (o : Oper) (k : Nat) (st : St) (Q : St → Prop) : Prop :=
 match o.op with
 | .call { callee := .value f, args := xs, .. } => bq tk (bD (st.eval f) (xs.toList.map st.eval)) fun p => Iw tk P p.1 p.2 k st o.dst Q
 | _ => bq tk (mL tt k o st) fun mem => Q ({ st with mem := mem }.put o.dst (.sc undef))
def Iy (P : Program) (tt : Table) (base : Nat) (o : Oper) (p : Pl) (st : St) (Q : St → Prop) : Prop := match p.cls with
 | .n => Ix P tt o { st with mem := [] } st Q
 | .r => Ix P tt o { st with mem := ep (p.mask.map (base + ·) ++ p.abs) st.mem } st Q
 | .a => isHole st.mem (base + p.key) = true ∧ nq tk (fJ tt o (base + p.key) st) (fun q => Q ({ st with mem := st.mem.set (base + p.key) q.1 }.put o.dst q.2)) (Qp P o (base + p.key) st Q)
 | .w => isHole st.mem (base + p.key) = true ∧ bq tk (qg P tt (base + p.key) o st) fun q => Q ({ st with mem := q.1 }.put o.dst q.2)
 | .s => bq tk (mL tt (base + p.key) o st) fun mem => Q ({ st with mem := mem }.put o.dst (.sc undef))
 | .b => bq tk (mF tt o st) fun v => Q (st.put o.dst v)
 | .z => zG P o st Q
 | .e => eG P tt o p.key st Q
theorem Qq {all : Array Oper} {base : Nat} {o : Oper} {p : Pl} {Q : St → Prop} (hw : df all st.fr o = some true) (h : Iy P tt base o p st Q) : dW P tt all base o p st Q := by
 have hv : ∀ {wk : St}, Ix P tt o wk st Q → pb P tt o wk st Q := fun {wk} h => by
  unfold Ix at h
  unfold pb
  split at h
  ·rename_i f xs ts jD
   rw [jD]
   dsimp only
   rw [gV] at h
   obtain ⟨⟨g, vs⟩, h1, h2⟩ := h
   rw [h1]
   exact h2
  ·rename_i jD
   split
   ·rename_i f xs ts Qr; exact (jD f xs ts Qr).elim
   ·rw [gV] at h
    obtain ⟨v, h1, h2⟩ := h
    rw [h1]; exact h2
 unfold Iy at h
 unfold dW
 rw [hw]
 dsimp only
 split at h <;> (rename_i hc; rw [hc]; dsimp only)
 ·exact hv h
 ·exact hv h
 ·refine ⟨h.1, ?_⟩
  have h := h.2
  cases hn : fJ tt o (base + p.key) st with
  | some q => rw [hn, qx] at h; exact h
  | none =>
   rw [hn, qy] at h
   dsimp only
   unfold Qp at h
   unfold pc
   split at h
   ·rename_i jD
    rw [jD]
    dsimp only
    rw [gV] at h
    obtain ⟨⟨g, vs⟩, h1, h2⟩ := h
    rw [h1]; exact h2
   ·exact h.elim
 ·refine ⟨h.1, ?_⟩
  have h := h.2
  rw [gV] at h
  obtain ⟨q, h1, h2⟩ := h
  rw [h1]; exact h2
 ·rw [gV] at h
  obtain ⟨q, h1, h2⟩ := h
  rw [h1]; exact h2
 ·rw [gV] at h
  obtain ⟨q, h1, h2⟩ := h
  rw [h1]; exact h2
 ·unfold zG at h
  unfold lC
  split at h
  ·rename_i jD
   rw [jD]
   dsimp only
   rw [gV] at h
   obtain ⟨⟨g, vs⟩, h1, h2⟩ := h
   rw [h1]; exact h2
  ·exact h.elim
 ·unfold eG at h
  unfold qh
  split at h
  ·rename_i jD
   rw [jD]
   dsimp only
   rw [gV] at h
   obtain ⟨⟨g, vs⟩, h1, h2⟩ := h
   rw [h1]; exact h2
  ·rename_i jD
   rw [gV] at h
   obtain ⟨m, h1, h2⟩ := h
   split
   ·rename_i f xs ts Qr; exact (jD _ _ _ Qr).elim
   ·rw [h1]; exact h2
def ym (P : Program) (tt : Table) (all : List Oper) (base : Nat) : List Oper → List Pl → St → (St → Prop) → Prop
 | [], _, st, K => K st
 | o :: r, p :: ps, st, K => gd all o st (fun st => Iy P tt base o p st fun st' => ym P tt all base r ps st' K) (fun st => ym P tt all base r ps (st.put o.dst (.sc undef)) K)
 | _ :: _, [], _, _ => False
theorem Qs {all : List Oper} {base : Nat} {ps : List Pl} {K : St → Prop} : ym P tt all base [] ps ⟨W n ws, mem⟩ K = K ⟨W n ws, mem⟩ := iw rfl
theorem Qt {all : List Oper} {base : Nat} {o : Oper} {r : List Oper} {p : Pl} {ps : List Pl} {K : St → Prop} : ym P tt all base (o :: r) (p :: ps) ⟨W n ws, mem⟩ K = gd all o ⟨W n ws, mem⟩ (fun st => Iy P tt base o p st fun st' => ym P tt all base r ps st' K) (fun st => ym P tt all base r ps (st.put o.dst (.sc undef)) K) := iw rfl
theorem tA {all : Array Oper} {base : Nat} {Q : St → Prop} : ∀ (l : List Oper) (ps : List Pl) (st : St), ym P tt all.toList base l ps st Q → runM P tt all base l ps st Q
 | [], ps, st, h => h
 | o :: r, [], st, h => h.elim
 | o :: r, p :: ps, st, h => by
  rw [runM]
  rcases Ol (show gd all.toList o st _ _ from h) with ⟨hw, h⟩ | ⟨hw, h⟩
  ·have h := Qq hw h
   by_cases hz : p.cls = .z
   ·unfold dW at h ⊢
    rw [hw, hz] at h ⊢
    exact ur h fun s hs => tA r ps s hs
   ·obtain ⟨v, m, h1, h2⟩ := (fC hz).1 h
    exact (fC hz).2 ⟨v, m, h1, tA r ps _ h2⟩
  ·unfold dW
   rw [hw]
   exact tA r ps _ h
theorem de (ht : TT P tt) (hm : P.follows .mixedOrders = true) (plan : List Pl) (j : Nat) {id : Nat} {ops : Array Oper} (dx : qn ops plan = true) (h : ym P tt ops.toList st.mem.length ops.toList plan { st with mem := st.mem ++ List.replicate j .hole } (Q .normal)) : X k_ m P ρ n0 (.region id ops true) st Q := by
 have h := tA _ _ _ h
 cases m
 ·obtain ⟨s, h1, h2⟩ := tz _ _ _ h
  exact ⟨.normal, s, h1, fun Q' h' => lG ht hm plan j dx (h2 _ h')⟩
 ·exact lG ht hm plan j dx h
theorem Uc (ht : TT P tt) (sp : List Nat) (hm : P.follows .mixedOrders = true) (plan : List Pl) (j : Nat) {id : Nat} {ops : Array Oper} {y : Code} (dx : qn ops plan = true)
  (h : ym P tt ops.toList st.mem.length ops.toList plan { st with mem := st.mem ++ List.replicate j .hole } fun s => vc m P tt sp ρ n0 y s Q) : X k_ m P ρ n0 (.seq (.region id ops true) y) st Q :=
 uN ((de (Q := dV (fun s => vc m P tt sp ρ n0 y s Q) Q) ht hm plan j dx h).mono (uO ht))
section
variable {k : Tk} {f : FuncId} {vs vs' : List V} {o : Option (List V)} {keys : List (Nat × Nat)} {dst : Option Tmp} {Q : St → Prop}
theorem cF {R : V → Prop} (hr : ∃ v, R v ∧ aT P f vs' v) (h : ∀ v, R v → Q ({ st with mem := bx st.mem keys v }.put dst v)) : qz k m P f vs (some vs') keys st dst Q := by
 obtain ⟨v, h1, h2⟩ := hr
 exact .inl ⟨vs', v, rfl, h2, h v h1⟩
theorem cN {R : V → Prop} (hr : ∃ v, R v ∧ m9 P f vs v) (h : ∀ v, R v → Q (st.put dst v)) : qz k m P f vs o keys st dst Q := by
 obtain ⟨v, h1, h2⟩ := hr
 exact .inr (.inr (.inr ⟨v, h2, h v h1⟩))
theorem cW {R : V → List aC → Prop} (hr : ∃ v m', R v m' ∧ aF P f vs st.mem v m') (h : ∀ v m', R v m' → Q ({ st with mem := m' }.put dst v)) : qz k m P f vs o keys st dst Q := by
 obtain ⟨v, m', h1, h2⟩ := hr
 exact .inr (.inl ⟨v, m', h2, h v m' h1⟩)
theorem cS {R : V → Prop} (hr : ∃ v, R v ∧ aF P f vs st.mem v st.mem) (h : ∀ v, R v → Q (st.put dst v)) : qz k m P f vs o keys st dst Q := by
 obtain ⟨v, h1, h2⟩ := hr
 exact .inr (.inl ⟨v, _, h2, h v h1⟩)
theorem cG {R : V → Prop} (hr : ∃ v, R v ∧ aT P f vs' v) (h : ∀ v, R v → Q (st.put dst v)) : Om k P f (some vs') st dst Q := by
 obtain ⟨v, h1, h2⟩ := hr
 exact ⟨vs', v, rfl, .inl h2, h v h1⟩
theorem Iz {e : Nat} {rs : List V} {key : Nat} (hr : sI P f vs' e rs) (h : Q (rL st key dst e rs)) : Iu k P f (some vs') st key dst Q := ⟨vs', e, rs, rfl, hr, h⟩
theorem cGZ {v : V} (hr : aT P f vs' v) (h : Q ({ st with mem := bx st.mem keys v }.put dst v)) : Iv k P f (some vs') keys st dst Q := ⟨vs', v, rfl, hr, h⟩
theorem ry {R : V → aC → Prop} {j : Nat} {B0 : aC} (hv : st.mem[j]? = some B0) (h0 : B0.b7 = 0) (hr : ∃ v B, R v B ∧ B.b7 = 0 ∧ aF P f vs st.mem v (st.mem.set j B)) (h : ∀ v B, R v B → Q ({ st with mem := st.mem.set j B }.put dst v)) : Iw k P f vs j st dst Q := by
 obtain ⟨v, B, h1, h2, h3⟩ := hr
 exact ⟨v, B0, B, h0, h2, hv, h3, h v B h1⟩
end
def wq : Nat → List V → List (Nat × V)
 | i, v :: vs => (i, v) :: wq (i + 1) vs
 | _, [] => []
theorem EB : ∀ (vs : List V) (i t : Nat), lk t (wq i vs) = if i ≤ t then vs.getD (t - i) .undef else .undef
 | [], i, t => by simp [wq, lk]
 | v :: vs, i, t => by
  simp only [wq,lk]
  rw [EB vs (i + 1) t]
  by_cases h : i = t
  ·subst h; simp
  ·rw [if_neg h]
   by_cases h2 : i + 1 ≤ t
   ·rw [if_pos h2, if_pos (by omega), show t - i = (t - (i + 1)) + 1 by omega]; simp
   ·rw [if_neg h2, if_neg (by omega)]
theorem EC {fn : Func} {args : List V} {c : Code} (hn : fn.ntmps = n) (hl : args.length ≤ n) (h : X k_ m P ρ n0 c ⟨W n (wq 0 args), mem⟩ Q) : X k_ m P ρ n0 c (bA fn args mem) Q := by
 refine yh (st' := ⟨W n (wq 0 args), mem⟩) (fun E w a hs => ⟨hs.F, hs.lt, hs.mem, hs.top, hs.b7, hs.apart, ?_⟩) h
 have hr := hs.fr
 simp only [bA,hn] at hr
 refine ⟨by rw [← hr.1, nE, List.length_append, List.length_replicate]; omega, fun i v x hv hx => ?_⟩
 rw [qA] at hv
 split at hv
 ·rename_i hi
  cases hv
  rw [EB, if_pos (Nat.zero_le _), Nat.sub_zero, List.getD_eq_getElem?_getD]
  cases ha : args[i]? with
  | none => exact .undef _ _
  | some v => exact hr.2 i v x (by rw [List.getElem?_append_left (List.getElem?_eq_some_iff.1 ha).1]; exact ha) hx
 ·cases hv
def Qu (R : V → Prop) (o : Option V) : Prop := ∃ r, R r ∧ o = some r
theorem FI {R : V → Prop} {v : V} : Qu R (some v) = R v := propext ⟨fun ⟨_, h, e⟩ => by cases e; exact h, fun h => ⟨v, h, rfl⟩⟩
def Ud (R : V → Prop) (tt : Table) (rs : Array ResultVar) (e : Exit) (s : St) : Prop := (e = .ret ∨ e = .normal) ∧ Qu R (qb tt rs s)
theorem IA {R : V → Prop} {rs : Array ResultVar} : Ud R tt rs .ret ⟨W n ws, mem⟩ = Qu R (qb tt rs ⟨W n ws, mem⟩) := propext ⟨fun h => h.2, fun h => ⟨.inl rfl, h⟩⟩
def MB (R : V → List aC → Prop) (k : Nat) (o : Option V) (mem : List aC) : Prop := ∃ r, R r mem ∧ o = some r ∧ au k r = true ∧ mem.all (az k) = true
theorem FJ {R : V → List aC → Prop} {k : Nat} {v : V} : MB R k (some v) mem = (R v mem ∧ au k v = true ∧ mem.all (az k) = true) := propext ⟨fun ⟨_, h, e, h2⟩ => by cases e; exact ⟨h, h2⟩, fun ⟨h, h2⟩ => ⟨v, h, rfl, h2⟩⟩
def MC (R : V → List aC → Prop) (k : Nat) (tt : Table) (rs : Array ResultVar) (e : Exit) (s : St) : Prop := (e = .ret ∨ e = .normal) ∧ MB R k (gU tt rs s) (s.mem.take k)
theorem IB {R : V → List aC → Prop} {k : Nat} {rs : Array ResultVar} : MC R k tt rs .ret ⟨W n ws, mem⟩ = MB R k (gU tt rs ⟨W n ws, mem⟩) (mem.take k) := propext ⟨fun h => h.2, fun h => ⟨.inl rfl, h⟩⟩
theorem FK {R : V → List aC → Prop} {k : Nat} {rs : Array ResultVar} : MC R k tt rs .normal ⟨W n ws, mem⟩ = MB R k (gU tt rs ⟨W n ws, mem⟩) (mem.take k) := propext ⟨fun h => h.2, fun h => ⟨.inr rfl, h⟩⟩
end
section
variable {P : Program} {tt : Table} {f : FuncId} {fn : Func} {body : Code} {args : List V}
theorem gG (ht : TT P tt) (sp : List Nat) (n : Nat) (rs : List ResultVar) {R : V → Prop} (hf : P.funcs[f]? = some fn) (hb : fn.body = some body)
  (dz : ∀ (xs : Array Value) (w : World), (callFunc f xs).run P w = .ok (.enter f xs) w) (hn : fn.ntmps = n ∧ fn.results = rs.toArray ∧ args.length ≤ n)
  (h : ∀ K : V → Prop, (∀ v, R v → K v) → vc false P tt sp none 0 body ⟨W n (wq 0 args), []⟩ (Ud K tt rs.toArray)) : ∃ r, R r ∧ aT P f args r := by
 have h := h R fun _ h => h
 obtain ⟨e, s, ⟨h1, r, hr, h2⟩, h3⟩ := EC (m := false) hn.1 hn.2.2 (vx (k_ := .b) ht h)
 exact ⟨r, hr, iS ht hf hb dz (h3 _ ⟨h1, by rw [hn.2.1]; exact h2⟩)⟩
theorem ED (ht : TT P tt) (sp : List Nat) (n : Nat) (rs : List ResultVar) {R : V → List aC → Prop} {mem : List aC} (k : Nat) (hk : mem.length ≤ k) (hf : P.funcs[f]? = some fn) (hb : fn.body = some body)
  (dz : ∀ (xs : Array Value) (w : World), (callFunc f xs).run P w = .ok (.enter f xs) w) (hn : fn.ntmps = n ∧ fn.results = rs.toArray ∧ args.length ≤ n)
  (h : ∀ K : V → List aC → Prop, (∀ v m', R v m' → K v m') → vc false P tt sp none mem.length body ⟨W n (wq 0 args), mem⟩ (MC K k tt rs.toArray)) : ∃ r m', R r m' ∧ aF P f args mem r m' := by
 have h := h R fun _ _ h => h
 obtain ⟨e, s, ⟨h1, r, hr, h2, h4⟩, h5⟩ := EC (m := false) hn.1 hn.2.2 (vx (k_ := .b) ht h)
 exact ⟨r, _, hr, gw ht k hk hf hb dz (h5 _ ⟨h1, by rw [hn.2.1]; exact h2, h4.1, h4.2, rfl⟩)⟩
theorem wX (ht : TT P tt) (sp : List Nat) (n : Nat) (rs : List ResultVar) {R : V → Prop} {mem : List aC} (hf : P.funcs[f]? = some fn) (hb : fn.body = some body)
  (dz : ∀ (xs : Array Value) (w : World), (callFunc f xs).run P w = .ok (.enter f xs) w) (hn : fn.ntmps = n ∧ fn.results = rs.toArray ∧ args.length ≤ n)
  (h : ∀ K : V → List aC → Prop, (∀ v m', R v ∧ m' = mem → K v m') → vc false P tt sp none mem.length body ⟨W n (wq 0 args), mem⟩ (MC K mem.length tt rs.toArray)) : ∃ r, R r ∧ aF P f args mem r mem := by
 obtain ⟨r, m', ⟨hr, rfl⟩, h⟩ := ED ht sp n rs (R := fun r m' => R r ∧ m' = mem) mem.length (Nat.le_refl _) hf hb dz hn h
 exact ⟨r, hr, h⟩
end
end Go.Eng
end

section
namespace Go.Eng
variable [aA]
open Go.RowKit (Below)

mutual
def c7 (σ : Nat → Nat) : V → V
 | .undef => .undef
 | .sc v => .sc v
 | .agg cs => .agg (fN σ cs)
 | .slice rows => .slice rows
 | .ms b v s l => .ms (σ b) v s l
 | .ptr b o => .ptr (σ b) o
 | .dZ b v i o => .dZ (σ b) v i o
 | .cH cs => .cH cs
 | .bp f first cap => .bp f (fN σ first) (fN σ cap)
 | .cC vs => .cC (fN σ vs)
 | .fP b => .fP (σ b)
 | .mp b => .mp (σ b)
 | .gn => .gn
 | .full rows => .full rows
def fN (σ : Nat → Nat) : List V → List V
 | [] => []
 | c :: r => c7 σ c :: fN σ r
end
theorem er (σ : Nat → Nat) : ∀ l : List V, fN σ l = l.map (c7 σ)
 | [] => rfl
 | c :: r => by rw [fN, er σ r]; rfl
def jJ (σ : Nat → Nat) : aC → aC
 | .box cs => .box (fN σ cs)
 | .loop s p fr ps a b => .loop s p (fN σ fr) ps a b
 | .map bV c => .map (bV.map fun e => (e.1, e.2.1, c7 σ e.2.2)) c
 | .fh m since seen last => .fh (σ m) since seen last
 | B => B
theorem Aw (σ : Nat → Nat) (B : aC) : (jJ σ B).b7 = B.b7 := by cases B <;> rfl
theorem bC.qC {E : Env} {v : V} {x : Value} (h : bC E v x) : ∀ {n : Nat} {σ : Nat → Nat} {E2 : Env}, au n v = true → (∀ ad y, E.F ad = some y → E2.F ad = some y) → (∀ k v t, k < n → E.bd k v = some t → E2.bd (σ k) v = some t) → bC E2 (c7 σ v) x := by
 induction h with
 | undef => intros; exact .undef _ _
 | sc => intros; exact .sc _ _
 | slice E rows a cap oZ ad xf ha jU hz hF h1 hR ih =>
  intro n σ E2 hb gg hk
  exact .slice _ _ _ _ oZ ad xf ha jU hz (fun i row j c hi hj => gg _ _ (hF i row j c hi hj)) h1 fun i row j c hi hj => (hR i row j c hi hj).mono ⟨gg, fun _ _ _ h => by cases h⟩
 | ms E b v s l g e c a cap di hl h0 wE =>
  intro n σ E2 hb gg hk
  exact .ms _ _ _ _ _ g e c _ _ (hk _ _ _ (by simpa [au] using hb) di) hl h0 wE
 | eN => intros; exact .eN _ _ _ _
 | ptr E b o g e c di =>
  intro n σ E2 hb gg hk
  exact .ptr _ _ _ g e c (hk _ _ _ (by simpa [au] using hb) di)
 | fP E b l e c di =>
  intro n σ E2 hb gg hk
  exact .fP _ _ l e c (hk _ _ _ (by simpa [au] using hb) di)
 | mp E b l e c di =>
  intro n σ E2 hb gg hk
  exact .mp _ _ l e c (hk _ _ _ (by simpa [au] using hb) di)
 | dZ E b v i o g e c di =>
  intro n σ E2 hb gg hk
  exact .dZ _ _ _ _ _ g e c (hk _ _ _ (by simpa [au] using hb) di)
 | cH E cs ad xf hF hR ih =>
  intro n σ E2 hb gg hk
  exact .cH _ _ _ xf (fun j c hj => gg _ _ (hF j c hj)) fun j c hj => (hR j c hj).mono ⟨gg, fun _ _ _ h => by cases h⟩
 | gn => intros; exact .gn _
 | full E rows a h ih =>
  intro n σ E2 hb gg hk
  exact .full _ _ _ (ih (n := n) (σ := σ) rfl gg hk)
 | agg E cs xs hl hh ih =>
  intro n σ E2 hb gg hk
  rw [au, du] at hb
  rw [c7, er]
  refine .agg _ _ _ (by rw [List.length_map]; exact hl) fun i c x hc hx => ?_
  rw [List.getElem?_map, Option.map_eq_some_iff] at hc
  obtain ⟨c0, CF, rfl⟩ := hc
  exact ih i c0 x CF hx (List.all_eq_true.1 hb c0 (List.mem_of_getElem? CF)) gg hk
 | cC E cs xs hl hh ih =>
  intro n σ E2 hb gg hk
  rw [au, du] at hb
  rw [c7, er]
  refine .cC _ _ _ (by rw [List.length_map]; exact hl) fun i c x hc hx => ?_
  rw [List.getElem?_map, Option.map_eq_some_iff] at hc
  obtain ⟨c0, CF, rfl⟩ := hc
  exact ih i c0 x CF hx (List.all_eq_true.1 hb c0 (List.mem_of_getElem? CF)) gg hk
 | bp E f first cap xs ys hx hy h1 h2 O0 O1 =>
  intro n σ E2 hb gg hk
  rw [au, du, du, Bool.and_eq_true] at hb
  rw [c7, er, er]
  refine .bp _ _ _ _ _ _ (by rw [List.length_map]; exact hx) (by rw [List.length_map]; exact hy) (fun i c x hc hx => ?_) fun i c x hc hx => ?_
  ·rw [List.getElem?_map, Option.map_eq_some_iff] at hc
   obtain ⟨c0, CF, rfl⟩ := hc
   exact O0 i c0 x CF hx (List.all_eq_true.1 hb.1 c0 (List.mem_of_getElem? CF)) gg hk
  ·rw [List.getElem?_map, Option.map_eq_some_iff] at hc
   obtain ⟨c0, CF, rfl⟩ := hc
   exact O1 i c0 x CF hx (List.all_eq_true.1 hb.2 c0 (List.mem_of_getElem? CF)) gg hk
theorem bC.sX {E : Env} {u : V} {x : Value} (h : bC E u x) : ∀ {v : V} {n : Nat} {σ : Nat → Nat} {E2 : Env}, u = c7 σ v → au n v = true → (∀ ad y, E.F ad = some y → E2.F ad = some y) → (∀ k v t, k < n → E.bd (σ k) v = some t → E2.bd k v = some t) → bC E2 v x := by
 induction h with
 | undef =>
  intro v n σ E2 he hb gg hk
  cases v <;> simp only [c7,reduceCtorEq] at he
  exact .undef _ _
 | sc =>
  intro v n σ E2 he hb gg hk
  cases v <;> simp only [c7,reduceCtorEq,V.sc.injEq] at he
  subst he; exact .sc _ _
 | slice E rows a cap oZ ad xf ha jU hz hF h1 hR ih =>
  intro v n σ E2 he hb gg hk
  cases v <;> simp only [c7,reduceCtorEq,V.slice.injEq] at he
  subst he
  exact .slice _ _ _ _ oZ ad xf ha jU hz (fun i row j c hi hj => gg _ _ (hF i row j c hi hj)) h1 fun i row j c hi hj => (hR i row j c hi hj).mono ⟨gg, fun _ _ _ h => by cases h⟩
 | ms E b v s l g e c a cap di hl h0 wE =>
  intro v n σ E2 he hb gg hk
  cases v <;> simp only [c7,reduceCtorEq,V.ms.injEq] at he
  obtain ⟨rfl, rfl, rfl, rfl⟩ := he
  exact .ms _ _ _ _ _ g e c _ _ (hk _ _ _ (by simpa [au] using hb) di) hl h0 wE
 | eN =>
  intro v n σ E2 he hb gg hk
  cases v <;> simp only [c7,reduceCtorEq,V.ms.injEq] at he
  obtain ⟨rfl, rfl, rfl, rfl⟩ := he
  exact .eN _ _ _ _
 | ptr E b o g e c di =>
  intro v n σ E2 he hb gg hk
  cases v <;> simp only [c7,reduceCtorEq,V.ptr.injEq] at he
  obtain ⟨rfl, rfl⟩ := he
  exact .ptr _ _ _ g e c (hk _ _ _ (by simpa [au] using hb) di)
 | fP E b l e c di =>
  intro v n σ E2 he hb gg hk
  cases v <;> simp only [c7,reduceCtorEq,V.fP.injEq] at he
  subst he
  exact .fP _ _ l e c (hk _ _ _ (by simpa [au] using hb) di)
 | mp E b l e c di =>
  intro v n σ E2 he hb gg hk
  cases v <;> simp only [c7,reduceCtorEq,V.mp.injEq] at he
  subst he
  exact .mp _ _ l e c (hk _ _ _ (by simpa [au] using hb) di)
 | dZ E b v i o g e c di =>
  intro v n σ E2 he hb gg hk
  cases v <;> simp only [c7,reduceCtorEq,V.dZ.injEq] at he
  obtain ⟨rfl, rfl, rfl, rfl⟩ := he
  exact .dZ _ _ _ _ _ g e c (hk _ _ _ (by simpa [au] using hb) di)
 | cH E cs ad xf hF hR ih =>
  intro v n σ E2 he hb gg hk
  cases v <;> simp only [c7,reduceCtorEq,V.cH.injEq] at he
  subst he
  exact .cH _ _ _ xf (fun j c hj => gg _ _ (hF j c hj)) fun j c hj => (hR j c hj).mono ⟨gg, fun _ _ _ h => by cases h⟩
 | full E rows a h ih =>
  intro v n σ E2 he hb gg hk
  cases v <;> simp only [c7,reduceCtorEq,V.full.injEq] at he
  subst he
  exact .full _ _ _ (ih (v := .slice rows) (n := n) (σ := σ) rfl rfl gg hk)
 | gn =>
  intro v n σ E2 he hb gg hk
  cases v <;> simp only [c7,reduceCtorEq] at he
  exact .gn _
 | agg E cs xs hl hh ih =>
  intro v n σ E2 he hb gg hk
  cases v <;> simp only [c7,reduceCtorEq,V.agg.injEq] at he
  subst he
  rw [au, du] at hb
  rw [er, List.length_map] at hl
  refine .agg _ _ _ hl fun i c x hc hx => ?_
  exact ih i (c7 σ c) x (by rw [er, List.getElem?_map, hc]; rfl) hx rfl (List.all_eq_true.1 hb c (List.mem_of_getElem? hc)) gg hk
 | cC E cs xs hl hh ih =>
  intro v n σ E2 he hb gg hk
  cases v <;> simp only [c7,reduceCtorEq,V.cC.injEq] at he
  subst he
  rw [au, du] at hb
  rw [er, List.length_map] at hl
  refine .cC _ _ _ hl fun i c x hc hx => ?_
  exact ih i (c7 σ c) x (by rw [er, List.getElem?_map, hc]; rfl) hx rfl (List.all_eq_true.1 hb c (List.mem_of_getElem? hc)) gg hk
 | bp E f first cap xs ys hx hy h1 h2 O0 O1 =>
  intro v n σ E2 he hb gg hk
  cases v <;> simp only [c7,reduceCtorEq,V.bp.injEq] at he
  obtain ⟨rfl, rfl, rfl⟩ := he
  rw [au, du, du, Bool.and_eq_true] at hb
  rw [er, List.length_map] at hx hy
  refine .bp _ _ _ _ _ _ hx hy (fun i c x hc hx => ?_) fun i c x hc hx => ?_
  ·exact O0 i (c7 σ c) x (by rw [er, List.getElem?_map, hc]; rfl) hx rfl (List.all_eq_true.1 hb.1 c (List.mem_of_getElem? hc)) gg hk
  ·exact O1 i (c7 σ c) x (by rw [er, List.getElem?_map, hc]; rfl) hx rfl (List.all_eq_true.1 hb.2 c (List.mem_of_getElem? hc)) gg hk
theorem bo.qC {E E2 : Env} {vs : List V} {xs : List Value} {n : Nat} {σ : Nat → Nat} (h : bo E vs xs) (hb : vs.all (au n) = true) (hF : ∀ ad y, E.F ad = some y → E2.F ad = some y) (hk : ∀ k v t, k < n → E.bd k v = some t → E2.bd (σ k) v = some t) : bo E2 (fN σ vs) xs := by
 rw [er]
 refine ⟨by rw [List.length_map]; exact h.1, fun i v x hv hx => ?_⟩
 rw [List.getElem?_map, Option.map_eq_some_iff] at hv
 obtain ⟨c, hc, rfl⟩ := hv
 exact (h.2 i c x hc hx).qC (List.all_eq_true.1 hb c (List.mem_of_getElem? hc)) hF hk
theorem bo.sX {E E2 : Env} {vs : List V} {xs : List Value} {n : Nat} {σ : Nat → Nat} (h : bo E (fN σ vs) xs) (hb : vs.all (au n) = true) (hF : ∀ ad y, E.F ad = some y → E2.F ad = some y) (hk : ∀ k v t, k < n → E.bd (σ k) v = some t → E2.bd k v = some t) : bo E2 vs xs := by
 rw [er] at h
 refine ⟨by have := h.1; rwa [List.length_map] at this, fun i v x hv hx => ?_⟩
 exact (h.2 i (c7 σ v) x (by rw [List.getElem?_map, hv]; rfl) hx).sX rfl (List.all_eq_true.1 hb v (List.mem_of_getElem? hv)) hF hk
theorem j8.qC {E E2 : Env} {w w2 : World} {k : Nat} {B : aC} {n : Nat} {σ : Nat → Nat} (h : j8 E w k B) (iE : k < n) (hb : az n B = true) (hF : E2.F = E.F) (hk : ∀ k v, k < n → E2.bd (σ k) v = E.bd k v) (hw : w2.heap = w.heap) : j8 E2 w2 (σ k) (jJ σ B) := by
 have Cn : ∀ ad y, E.F ad = some y → E2.F ad = some y := fun ad y h => by rw [hF]; exact h
 have ff : ∀ k v t, k < n → E.bd k v = some t → E2.bd (σ k) v = some t := fun k v t hn h => by rw [hk k v hn]; exact h
 have hp : E2.pure = E.pure := Env.E4 hF rfl
 cases B with
 | hole => exact fun v => by rw [hk k v iE]; exact h v
 | dead => trivial
 | box cs =>
  obtain ⟨g, T, xs, h1, h2, h3, h4⟩ := h
  exact ⟨g, T, xs, ff _ _ _ iE h1, by rw [hw]; exact h2, h3.qC hb Cn ff, fun o => by rw [hF]; exact h4 o⟩
 | rows v e rs =>
  rcases h with ⟨h1, h2⟩ | ⟨g, T, xs, c, h1, h2, h3, h4, h5, h6⟩
  ·exact .inl ⟨h1, by rw [hk k v iE]; exact h2⟩
  ·exact .inr ⟨g, T, xs, c, ff _ _ _ iE h1, by rw [hw]; exact h2, h3, h4, by rw [hp]; exact h5, fun o => by rw [hF]; exact h6 o⟩
 | pV v e rs =>
  rcases h with ⟨h1, h2⟩ | ⟨g, c, h1, h2, h3⟩
  ·exact .inl ⟨h1, by rw [hk k v iE]; exact h2⟩
  ·exact .inr ⟨g, c, ff _ _ _ iE h1, h2, by rw [hp, hF]; exact h3⟩
 | loop s jV fr params assign body =>
  obtain ⟨l, fn, tmps, db, h1, h2, h3, h4⟩ := h
  exact ⟨l, fn, tmps, db, ff _ _ _ iE h1, by rw [hw]; exact h2, h3.qC hb Cn ff, fun o => by rw [hF]; exact h4 o⟩
 | map bV clock =>
  obtain ⟨g, es, h1, h2, h3, h4⟩ := h
  refine ⟨g, es, ff _ _ _ iE h1, by rw [hw]; exact h2, ⟨by rw [List.length_map]; exact h3.1, fun i kb e gA he => ?_⟩, fun o => by rw [hF]; exact h4 o⟩
  rw [List.getElem?_map, Option.map_eq_some_iff] at gA
  obtain ⟨q, hq, rfl⟩ := gA
  obtain ⟨p1, p2, p3⟩ := h3.2 i q e hq he
  exact ⟨p1, p2, p3.qC (List.all_eq_true.1 hb q (List.mem_of_getElem? hq)) Cn ff⟩
 | fh m since seen last =>
  obtain ⟨g, gm, e, c, h1, h2, h3, h4⟩ := h
  exact ⟨g, gm, e, c, ff _ _ _ iE h1, ff _ _ _ (by simpa [az] using hb) h2, by rw [hw]; exact h3, fun o => by rw [hF]; exact h4 o⟩
 | jP s pos =>
  obtain ⟨g, h1, h2, h3⟩ := h
  exact ⟨g, ff _ _ _ iE h1, by rw [hw]; exact h2, fun o => by rw [hF]; exact h3 o⟩
 | j7 =>
  obtain ⟨g, h1, h2, h3⟩ := h
  exact ⟨g, ff _ _ _ iE h1, by rw [hw]; exact h2, fun o => by rw [hF]; exact h3 o⟩
theorem j8.sX {E E2 : Env} {w : World} {k : Nat} {B : aC} {n : Nat} {σ : Nat → Nat} (h : j8 E w (σ k) (jJ σ B)) (iE : k < n) (hb : az n B = true) (hF : E2.F = E.F) (hk : ∀ k v, k < n → E2.bd k v = E.bd (σ k) v) : j8 E2 w k B := by
 have Cn : ∀ ad y, E.F ad = some y → E2.F ad = some y := fun ad y h => by rw [hF]; exact h
 have ff : ∀ k v t, k < n → E.bd (σ k) v = some t → E2.bd k v = some t := fun k v t hn h => by rw [hk k v hn]; exact h
 have hp : E2.pure = E.pure := Env.E4 hF rfl
 cases B with
 | hole => exact fun v => by rw [hk k v iE]; exact h v
 | dead => trivial
 | box cs =>
  obtain ⟨g, T, xs, h1, h2, h3, h4⟩ := h
  exact ⟨g, T, xs, ff _ _ _ iE h1, h2, h3.sX hb Cn ff, fun o => by rw [hF]; exact h4 o⟩
 | rows v e rs =>
  rcases h with ⟨h1, h2⟩ | ⟨g, T, xs, c, h1, h2, h3, h4, h5, h6⟩
  ·exact .inl ⟨h1, by rw [hk k v iE]; exact h2⟩
  ·exact .inr ⟨g, T, xs, c, ff _ _ _ iE h1, h2, h3, h4, by rw [hp]; exact h5, fun o => by rw [hF]; exact h6 o⟩
 | pV v e rs =>
  rcases h with ⟨h1, h2⟩ | ⟨g, c, h1, h2, h3⟩
  ·exact .inl ⟨h1, by rw [hk k v iE]; exact h2⟩
  ·exact .inr ⟨g, c, ff _ _ _ iE h1, h2, by rw [hp, hF]; exact h3⟩
 | loop s jV fr params assign body =>
  obtain ⟨l, fn, tmps, db, h1, h2, h3, h4⟩ := h
  exact ⟨l, fn, tmps, db, ff _ _ _ iE h1, h2, h3.sX hb Cn ff, fun o => by rw [hF]; exact h4 o⟩
 | map bV clock =>
  obtain ⟨g, es, h1, h2, h3, h4⟩ := h
  refine ⟨g, es, ff _ _ _ iE h1, h2, ⟨by have := h3.1; rwa [List.length_map] at this, fun i q e hq he => ?_⟩, fun o => by rw [hF]; exact h4 o⟩
  obtain ⟨p1, p2, p3⟩ := h3.2 i _ e (by rw [List.getElem?_map, hq]; rfl) he
  exact ⟨p1, p2, p3.sX rfl (List.all_eq_true.1 hb q (List.mem_of_getElem? hq)) Cn ff⟩
 | fh m since seen last =>
  obtain ⟨g, gm, e, c, h1, h2, h3, h4⟩ := h
  exact ⟨g, gm, e, c, ff _ _ _ iE h1, ff _ _ _ (by simpa [az] using hb) h2, h3, fun o => by rw [hF]; exact h4 o⟩
 | jP s pos =>
  obtain ⟨g, h1, h2, h3⟩ := h
  exact ⟨g, ff _ _ _ iE h1, h2, fun o => by rw [hF]; exact h3 o⟩
 | j7 =>
  obtain ⟨g, h1, h2, h3⟩ := h
  exact ⟨g, ff _ _ _ iE h1, h2, fun o => by rw [hF]; exact h3 o⟩

def gW (σ : Nat → Nat) : Nat → List aC → List aC → List aC
 | _, [], M => M
 | i, B :: r, M => gW σ (i + 1) r (M.set (σ i) (jJ σ B))
def rW (σ : Nat → Nat) (n : Nat) (aQ M : List aC) : List aC := gW σ 0 (aQ.take n) M ++ (aQ.drop n).map (jJ σ)
theorem fF (σ : Nat → Nat) : ∀ (l : List aC) (i : Nat) (M : List aC), (gW σ i l M).length = M.length
 | [], _, _ => rfl
 | B :: r, i, M => by rw [gW, fF σ r]; simp
theorem rX (σ : Nat → Nat) : ∀ (l : List aC) (i : Nat) (M : List aC) (k : Nat), (∀ j, i ≤ j → j < i + l.length → σ j ≠ k) → (gW σ i l M)[k]? = M[k]?
 | [], _, _, _, _ => rfl
 | B :: r, i, M, k, h => by
  rw [gW, rX σ r (i + 1) _ k fun j h1 h2 => h j (by omega) (by simp; omega), List.getElem?_set_ne (h i (Nat.le_refl _) (by simp))]
theorem wY (σ : Nat → Nat) : ∀ (l : List aC) (i : Nat) (M : List aC) (j : Nat) (B : aC), (∀ a b, i ≤ a → a < i + l.length → i ≤ b → b < i + l.length → σ a = σ b → a = b) → i ≤ j → l[j - i]? = some B → σ j < M.length → (gW σ i l M)[σ j]? = some (jJ σ B)
 | [], _, _, _, _, _, _, h, _ => by simp at h
 | C :: r, i, M, j, B, rY, D3, h, aZ => by
  rw [gW]
  by_cases hj : j = i
  ·subst hj
   rw [Nat.sub_self] at h; cases h
   rw [rX σ r (j + 1) _ (σ j) fun a h1 h2 e => by have := rY a j (by omega) (by simp; omega) (Nat.le_refl _) (by simp) e; omega]
   rw [List.getElem?_set]; simp [aZ]
  ·refine wY σ r (i + 1) _ j B (fun a b h1 h2 h3 h4 => rY a b (by omega) (by simp; omega) (by omega) (by simp; omega)) (by omega) ?_ (by simpa using aZ)
   rw [show j - i = (j - (i + 1)) + 1 by omega] at h
   simpa using h
theorem aF.qC {P : Program} {f : FuncId} {vs : List V} {r : V} {mem aQ : List aC} (h : aF P f vs mem r aQ) (M : List aC) (σ : Nat → Nat) (n : Nat) (hn : n = mem.length) (hv : vs.all (au n) = true) (hm : mem.all (az n) = true) (hr : au aQ.length r = true)
  (PM : aQ.all (az aQ.length) = true) (hlen : n ≤ aQ.length) (hσ : ∀ i B, mem[i]? = some B → M[σ i]? = some (jJ σ B)) (rY : ∀ i j, i < n → j < n → σ i = σ j → i = j) (kZ : ∀ j, n ≤ j → σ j = M.length + (j - n)) :
  aF P f (fN σ vs) M (c7 σ r) (rW σ n aQ M) := by
 subst hn
 have hold : ∀ i, i < mem.length → σ i < M.length := fun i hi => (List.getElem?_eq_some_iff.1 (hσ i _ (List.getElem?_eq_getElem hi))).1
 have hL : (rW σ mem.length aQ M).length = M.length + (aQ.length - mem.length) := by
  unfold rW
  rw [List.length_append, fF, List.length_map, List.length_drop]
 have HM : ∀ i B, aQ[i]? = some B → (rW σ mem.length aQ M)[σ i]? = some (jJ σ B) := fun i B hi => by
  unfold rW
  rcases Nat.lt_or_ge i mem.length with aZ | gv
  ·rw [List.getElem?_append_left (by rw [fF]; exact hold i aZ)]
   refine wY σ _ 0 M i B (fun a b _ h2 _ h4 he => ?_) (Nat.zero_le _) (by rw [Nat.sub_zero, List.getElem?_take_of_lt aZ]; exact hi) (hold i aZ)
   rw [List.length_take] at h2 h4
   exact rY a b (by omega) (by omega) he
  ·rw [kZ i gv, List.getElem?_append_right (by rw [fF]; omega), fF, Nat.add_sub_cancel_left, List.getElem?_map, List.getElem?_drop, show mem.length + (i - mem.length) = i by omega, hi]; rfl
 have ch : ∀ k, k < M.length → (∀ i, i < mem.length → σ i ≠ k) → (rW σ mem.length aQ M)[k]? = M[k]? := fun k hk h => by
  unfold rW
  rw [List.getElem?_append_left (by rw [fF]; exact hk)]
  exact rX σ _ 0 M k fun j _ h2 => h j (by rw [List.length_take] at h2; omega)
 generalize rW σ mem.length aQ M = M' at hL HM ch
 refine ⟨h.1, fun E w xs hs hx => ?_⟩
 have Sj : ∀ k v, k < mem.length → (⟨E.F, fun k v => if k < mem.length then E.bd (σ k) v else none, E.gl⟩ : Env).bd k v = E.bd (σ k) v := fun k v hk => if_pos hk
 have Qv : ∀ k v, mem.length ≤ k → (⟨E.F, fun k v => if k < mem.length then E.bd (σ k) v else none, E.gl⟩ : Env).bd k v = none := fun k v hk => if_neg (by omega)
 have CY : (⟨E.F, fun k v => if k < mem.length then E.bd (σ k) v else none, E.gl⟩ : Env).F = E.F := rfl
 generalize (⟨E.F, fun k v => if k < mem.length then E.bd (σ k) v else none, E.gl⟩ : Env) = E0 at Sj Qv CY
 have kX : ∀ k v t, E0.bd k v = some t → k < mem.length ∧ E.bd (σ k) v = some t := fun k v t h => by
  rcases Nat.lt_or_ge k mem.length with hk | hk
  ·exact ⟨hk, by rw [← Sj k v hk]; exact h⟩
  ·rw [Qv k v hk] at h; cases h
 have G5 : bH E0 w { tmps := #[], defers := [] } { fr := [], mem := mem } :=
  ⟨fun ad y hy => hs.F ad y (by rw [← CY]; exact hy), fun k v g e c hk => hs.lt _ _ _ _ _ (kX _ _ _ hk).2,
   fun k B hk => (hs.mem _ _ (hσ k B hk)).sX (List.getElem?_eq_some_iff.1 hk).1 (List.all_eq_true.1 hm B (List.mem_of_getElem? hk)) CY Sj,
   fun k hk v => Qv k v hk, fun k B hk v hv => by
    rw [Sj k v (List.getElem?_eq_some_iff.1 hk).1]
    exact hs.b7 _ _ (hσ k B hk) v (by rw [Aw]; exact hv),
   fun k k' v v' g e c e' c' h1 h2 => by
    obtain ⟨p1, p2⟩ := kX _ _ _ h1
    obtain ⟨q1, q2⟩ := kX _ _ _ h2
    exact rY k k' p1 q1 (hs.apart _ _ _ _ _ _ _ _ _ p2 q2), .nil _⟩
 have GY : bo E0 vs xs.toList := hx.sX hv (fun ad y hy => by rw [CY]; exact hy) fun k v t hk h => by rw [Sj k v hk]; exact h
 refine (h.2 E0 w xs G5 GY).mono ?_
 rintro en w1 ⟨E1, x, rfl, ea, lS, y1⟩
 have Ue : ∀ i v, i < mem.length → (⟨E1.F, fun K v => match (List.range mem.length).find? (fun i => σ i == K) with | some i => E1.bd i v | none => if K < M.length then E.bd K v else E1.bd (K - M.length + mem.length) v, E1.gl⟩ : Env).bd (σ i) v = E1.bd i v := fun i v hi => by
  show (match (List.range mem.length).find? (fun j => σ j == σ i) with | some i => E1.bd i v | none => _) = _
  have : (List.range mem.length).find? (fun j => σ j == σ i) = some i := by
   cases hf : (List.range mem.length).find? (fun j => σ j == σ i) with
   | none =>
    have := List.find?_eq_none.1 hf i (List.mem_range.2 hi)
    simp at this
   | some j =>
    have h1 := List.find?_some hf
    have h2 := List.mem_range.1 (List.mem_of_find?_eq_some hf)
    rw [rY j i h2 hi (by simpa using h1)]
  rw [this]
 have mH : ∀ K, (∀ i, i < mem.length → σ i ≠ K) → (List.range mem.length).find? (fun i => σ i == K) = none := fun K h => List.find?_eq_none.2 fun i hi => by
  have := h i (List.mem_range.1 hi)
  simpa using this
 have hB : ∀ K v, K < M.length → (∀ i, i < mem.length → σ i ≠ K) → (⟨E1.F, fun K v => match (List.range mem.length).find? (fun i => σ i == K) with | some i => E1.bd i v | none => if K < M.length then E.bd K v else E1.bd (K - M.length + mem.length) v, E1.gl⟩ : Env).bd K v = E.bd K v := fun K v hK h => by
  show (match (List.range mem.length).find? (fun j => σ j == K) with | some i => E1.bd i v | none => _) = _
  rw [mH K h]
  exact if_pos hK
 have p7 : ∀ i v, mem.length ≤ i → (⟨E1.F, fun K v => match (List.range mem.length).find? (fun i => σ i == K) with | some i => E1.bd i v | none => if K < M.length then E.bd K v else E1.bd (K - M.length + mem.length) v, E1.gl⟩ : Env).bd (σ i) v = E1.bd i v := fun i v hi => by
  show (match (List.range mem.length).find? (fun j => σ j == σ i) with | some i => E1.bd i v | none => _) = _
  have o0 := kZ i hi
  rw [mH (σ i) fun j hj e => by have := hold j hj; omega]
  show (if σ i < M.length then E.bd (σ i) v else E1.bd (σ i - M.length + mem.length) v) = _
  rw [if_neg (by omega), o0, show M.length + (i - mem.length) - M.length + mem.length = i by omega]
 have CZ : (⟨E1.F, fun K v => match (List.range mem.length).find? (fun i => σ i == K) with | some i => E1.bd i v | none => if K < M.length then E.bd K v else E1.bd (K - M.length + mem.length) v, E1.gl⟩ : Env).F = E1.F := rfl
 generalize (⟨E1.F, fun K v => match (List.range mem.length).find? (fun i => σ i == K) with | some i => E1.bd i v | none => if K < M.length then E.bd K v else E1.bd (K - M.length + mem.length) v, E1.gl⟩ : Env) = E2 at Ue hB p7 CZ
 have hA : ∀ i v, E2.bd (σ i) v = E1.bd i v := fun i v => by
  rcases Nat.lt_or_ge i mem.length with hi | hi
  ·exact Ue i v hi
  ·exact p7 i v hi
 have cl : ∀ K, (∃ i, K = σ i) ∨ (K < M.length ∧ ∀ i, i < mem.length → σ i ≠ K) := fun K => by
  rcases Nat.lt_or_ge K M.length with hK | hK
  ·by_cases h : ∃ i, i < mem.length ∧ σ i = K
   ·obtain ⟨i, -, hi⟩ := h
    exact .inl ⟨i, hi.symm⟩
   ·exact .inr ⟨hK, fun i hi e => h ⟨i, hi, e⟩⟩
  ·exact .inl ⟨K - M.length + mem.length, by rw [kZ _ (by omega)]; omega⟩
 have uf : ∀ K v g e c, (∀ i, i < mem.length → σ i ≠ K) → E.bd K v = some (g, e, c) → ∀ k0 v0 e0 c0, E0.bd k0 v0 ≠ some (g, e0, c0) := fun K v g e c hK hb k0 v0 e0 c0 h => by
  obtain ⟨h1, h2⟩ := kX _ _ _ h
  exact hK k0 h1 (hs.apart _ _ _ _ _ _ _ _ _ h2 hb)
 have hle : E.le E2 := ⟨fun ad y hy => by rw [CZ]; exact ea.le.F _ _ (by rw [CY]; exact hy), fun K v t hk => by
  rcases cl K with ⟨i, rfl⟩ | ⟨hK, qD⟩
  ·rw [hA i v]
   rcases Nat.lt_or_ge i mem.length with hi | hi
   ·exact ea.le.bd _ _ _ (by rw [Sj i v hi]; exact hk)
   ·rw [hs.top (σ i) (by rw [kZ i hi]; dsimp only; omega) v] at hk; cases hk
  ·rw [hB K v hK qD]; exact hk⟩
 refine ⟨E2, x, rfl, ⟨hle, fun K v g e c hk => ?_, fun ad y hy => ?_, ea.os, ea.tape, ea.output, ea.size, fun b hb ch => ea.heap b hb fun k v e c h => ch _ _ _ _ (kX _ _ _ h).2⟩,
  ⟨fun ad y hy => lS.F _ _ (by rw [← CZ]; exact hy), fun K v g e c hk => ?_, fun K B hk => ?_, fun K hk v => ?_, fun K B hk v hv => ?_, fun K K' v v' g e1 c1 e2 c2 h5 h6 => ?_, .nil _⟩, y1.qC hr (fun ad y hy => by rw [CZ]; exact hy) fun k v t _ hk => by rw [hA]; exact hk⟩
 ·rcases cl K with ⟨i, rfl⟩ | ⟨hK, qD⟩
  ·rw [hA i v] at hk
   rcases ea.bd _ _ _ _ _ hk with ⟨k0, v0, e0, c0, h⟩ | h
   ·exact .inl ⟨_, _, _, _, (kX _ _ _ h).2⟩
   ·exact .inr h
  ·rw [hB K v hK qD] at hk; exact .inl ⟨_, _, _, _, hk⟩
 ·rw [CZ] at hy
  rcases ea.F _ _ hy with h | h | ⟨k0, v0, e0, c0, h⟩
  ·exact .inl (by rw [← CY]; exact h)
  ·exact .inr (.inl h)
  ·exact .inr (.inr ⟨_, _, _, _, (kX _ _ _ h).2⟩)
 ·rcases cl K with ⟨i, rfl⟩ | ⟨hK, qD⟩
  ·rw [hA i v] at hk; exact lS.lt _ _ _ _ _ hk
  ·rw [hB K v hK qD] at hk; exact Nat.lt_of_lt_of_le (hs.lt _ _ _ _ _ hk) ea.size
 ·rcases cl K with ⟨i, rfl⟩ | ⟨hK, qD⟩
  ·have hi : i < aQ.length := by
    have h1 := (List.getElem?_eq_some_iff.1 hk).1
    rcases Nat.lt_or_ge i mem.length with h2 | h2
    ·omega
    ·have h3 := kZ i h2
     dsimp only at h1; omega
   have gD := HM i _ (List.getElem?_eq_getElem hi)
   rw [hk] at gD
   cases gD
   exact (lS.mem i _ (List.getElem?_eq_getElem hi)).qC hi (List.all_eq_true.1 PM _ (List.getElem_mem hi)) CZ (fun k v _ => hA k v) rfl
  ·dsimp only at hk
   rw [ch K hK qD] at hk
   refine (hs.mem K B hk).mono hle (fun v hv => by rw [hB K v hK qD]; exact hv) (fun g e c hb => ea.heap g (hs.lt _ _ _ _ _ hb) fun k0 v0 e0 c0 h => uf _ _ _ _ _ qD hb _ _ _ _ h) fun g e c o hb hn => ?_
   rw [CZ]
   cases hy : E1.F ⟨g, o, none⟩ with
   | none => rfl
   | some y =>
    rcases ea.F _ _ hy with h | h | ⟨k0, v0, e0, c0, h⟩
    ·rw [CY, hn] at h; cases h
    ·have := hs.lt _ _ _ _ _ hb; simp at h; omega
    ·exact absurd h (uf _ _ _ _ _ qD hb _ _ _ _)
 ·rcases cl K with ⟨i, rfl⟩ | ⟨hK, qD⟩
  ·rw [hA i v]
   refine lS.top i ?_ v
   dsimp only at hk ⊢
   rcases Nat.lt_or_ge i mem.length with h2 | h2
   ·have := hold i h2; omega
   ·have h3 := kZ i h2; omega
  ·dsimp only at hk; omega
 ·rcases cl K with ⟨i, rfl⟩ | ⟨hK, qD⟩
  ·rw [hA i v]
   have hi : i < aQ.length := by
    have h1 := (List.getElem?_eq_some_iff.1 hk).1
    rcases Nat.lt_or_ge i mem.length with h2 | h2
    ·omega
    ·have h3 := kZ i h2
     dsimp only at h1; omega
   have gD := HM i _ (List.getElem?_eq_getElem hi)
   rw [hk] at gD
   cases gD
   rw [Aw] at hv
   exact lS.b7 i _ (List.getElem?_eq_getElem hi) v hv
  ·rw [hB K v hK qD]
   dsimp only at hk
   rw [ch K hK qD] at hk
   exact hs.b7 K B hk v hv
 ·have mixed : ∀ i K' v v' g e1 c1 e2 c2, (∀ i, i < mem.length → σ i ≠ K') → E1.bd i v = some (g, e1, c1) → E.bd K' v' = some (g, e2, c2) → False := fun i K' v v' g e1 c1 e2 c2 X9 h h' => by
   rcases ea.bd _ _ _ _ _ h with ⟨k0, v0, e0, c0, h0⟩ | h0
   ·exact absurd h0 (uf _ _ _ _ _ X9 h' _ _ _ _)
   ·have := hs.lt _ _ _ _ _ h'; omega
  rcases cl K with ⟨i, rfl⟩ | ⟨hK, Qw⟩ <;> rcases cl K' with ⟨j, rfl⟩ | ⟨X9, Qx⟩
  ·rw [hA] at h5 h6
   rw [lS.apart _ _ _ _ _ _ _ _ _ h5 h6]
  ·rw [hA] at h5; rw [hB K' _ X9 Qx] at h6
   exact (mixed _ _ _ _ _ _ _ _ _ Qx h5 h6).elim
  ·rw [hB K _ hK Qw] at h5; rw [hA] at h6
   exact (mixed _ _ _ _ _ _ _ _ _ Qw h6 h5).elim
  ·rw [hB K _ hK Qw] at h5; rw [hB K' _ X9 Qx] at h6
   exact hs.apart _ _ _ _ _ _ _ _ _ h5 h6
end Go.Eng
end

section
namespace Go.Eng
variable [aA]
section
variable {P : Program} {ρ : Option Nat} {n0 : Nat} {c : Code} {st : St} {Q : Exit → St → Prop}
end
end Go.Eng
end

section
namespace Go.Eng
variable [aA]
theorem uP (mem : List aC) (keys : List (Nat × Nat)) (k : Nat) {cs : List V} (h : mem[k]? = some (.box cs)) : (aR mem keys)[k]? = some (.box cs) := by
 rw [lZ, h]
 have : ∀ (ks : List (Nat × Nat)), kK ks k (some (.box cs)) = some (.box cs) := fun ks => by
  unfold kK; rfl
 exact this keys
section
variable {P : Program} {ρ : Option Nat} {n0 : Nat} {Q : Exit → St → Prop} {c : Code} {st : St}
theorem bH.IC {E : Env} {w : World} {a : Act} (hs : bH E w a st) {k : Nat} {cs vs' : List V} (hk : st.mem[k]? = some (.box cs)) (hp : dq st.mem cs = some vs') :
  ∃ E', bH E' w a { st with mem := (aR st.mem (cs.flatMap cL)).set k (.box vs') } ∧ ec E w E' w := by
 obtain ⟨E', h1, h2, h3⟩ := hs.freeze hp
 have hb := uP st.mem (cs.flatMap cL) k hk
 refine ⟨E', ⟨h1.F, h1.lt, fun k' B hB => ?_, fun k' gD => h1.top k' (by simpa using gD), fun k' B hB v hv => ?_, h1.apart, h1.fr⟩, h2⟩
 ·dsimp only at hB
  rw [List.getElem?_set] at hB
  split at hB
  ·rename_i he; subst he
   split at hB
   ·cases hB
    obtain ⟨g, T, xs, q1, q2, q3, q4⟩ := hs.mem k _ hk
    obtain ⟨g', T', o6, p1, p2, p3, p4⟩ := h1.mem k _ hb
    rw [h2.le.bd _ _ _ q1] at p1
    cases p1
    rw [q2] at p2
    cases p2
    exact ⟨g, T, xs, h2.le.bd _ _ _ q1, q2, h3 _ q3, p4⟩
   ·cases hB
  ·exact h1.mem k' B hB
 ·dsimp only at hB
  rw [List.getElem?_set] at hB
  split at hB
  ·rename_i he; subst he
   split at hB
   ·cases hB
    exact h1.b7 k _ hb v hv
   ·cases hB
  ·exact h1.b7 k' B hB v hv
end
end Go.Eng
end

section
namespace Go.Eng
variable [aA]
section
variable {k_ : Tk} {m : Bool} {P : Program} {ρ : Option Nat} {n0 : Nat} {st : St} {Q : Exit → St → Prop} {n : Nat} {ws : List (Nat × V)} {mem : List aC} {c : Code}
theorem Qy {st' : St} (hw : ∀ E w a, bH E w a st → ∃ E', bH E' w a st' ∧ ec E w E' w) (h : X k_ m P ρ n0 c st' Q) : X k_ m P ρ n0 c st Q := by
 have key : ∀ Q' : Exit → St → Prop, cD P ρ n0 c st' Q' → cD P ρ n0 c st Q' := fun Q' h E0 w0 Mx E w a he hs hm => by
  obtain ⟨E', h3, h4⟩ := hw E w a hs
  exact h E0 w0 Mx E' w a (he.trans h4) h3 (hm.G4 h4)
 cases m
 ·obtain ⟨e, s2, hq, h2⟩ := h
  exact ⟨e, s2, hq, fun Q' h' => key Q' (h2 Q' h')⟩
 ·exact key Q h
theorem Uf {t : Nat} {v : V} (hn : t < n) (h : lk t ws = v) : (W n ws)[t]? = some v := by rw [qA, if_pos hn, h]
theorem ZS (t v e : Nat) (hn : t < n) (h0 : lk t ws = .sc (.slice none 0 0)) (h : X k_ m P ρ n0 c ⟨W n ((t, .ms mem.length v 0 0) :: ws), mem ++ [.rows v e []]⟩ Q) : X k_ m P ρ n0 c ⟨W n ws, mem⟩ Q := by
 rw [← Ev] at h
 exact yh (st' := ⟨(W n ws).set t (.ms mem.length v 0 0), mem ++ [.rows v e []]⟩) (fun E w a hs => (hs.Ab (i := t) mem.length v (Uf hn h0)).qq v e) h
theorem yn {cs : List V} (k j v e : Nat) (hk : mem[k]? = some (.box cs)) (hj : cs[j]? = some (.sc (.slice none 0 0))) (h : X k_ m P ρ n0 c ⟨W n ws, mem.set k (.box (cs.set j (.ms mem.length v 0 0))) ++ [.rows v e []]⟩ Q) : X k_ m P ρ n0 c ⟨W n ws, mem⟩ Q :=
 yh (st' := ⟨W n ws, mem.set k (.box (cs.set j (.ms mem.length v 0 0))) ++ [.rows v e []]⟩) (fun E w a hs => (hs.Qd hk hj mem.length v).qq v e) h
theorem j3 {k : Nat} {cs vs' : List V} (hk : mem[k]? = some (.box cs)) (hp : dq mem cs = some vs') (h : X k_ m P ρ n0 c ⟨W n ws, (aR mem (cs.flatMap cL)).set k (.box vs')⟩ Q) : X k_ m P ρ n0 c ⟨W n ws, mem⟩ Q :=
 Qy (fun _ _ _ hs => bH.IC hs hk hp) h
theorem EE {k : Nat} {cs : List V} (t : Nat) (hn : t < n) (h0 : lk t ws = .ptr k 0) (hk : mem[k]? = some (.box cs)) (hp : cs.all eO = true) (h : X k_ m P ρ n0 c ⟨W n ((t, .cH cs) :: ws), mem.set k .dead⟩ Q) : X k_ m P ρ n0 c ⟨W n ws, mem⟩ Q := by
 rw [← Ev] at h
 exact Qy (fun _ _ _ hs => bH.rP hs hk hp (Uf hn h0)) h
end
end Go.Eng
end

section
namespace Go.Proofs.YtnboooapeopjoaaGreatDoor
open Go.Eng
attribute [go_sem] dc bP df iJ St.eval St.put gO iB xG List.all_cons List.all_nil Bool.and_true Bool.true_and Bool.and_self Value.oneCell' if_true if_false bO List.length_cons List.length_nil Nat.lt_irrefl List.nil_append List.cons_append List.append_nil List.set_cons_zero List.set_cons_succ List.getD_cons_zero List.getD_cons_succ rE eX kD m4 n5 List.map_nil List.map_cons Nat.zero_mul xq LK fieldAt mB fA List.drop_zero List.drop_succ_cons List.take_succ_cons List.take_zero List.getElem?_cons_zero List.getElem?_cons_succ List.head?_cons Nat.zero_add Nat.add_zero Nat.zero_le Nat.le_refl true_and and_true and_self eK m5 rowsOf dt Bool.false_eq_true xx Pt Pu Pv Pw Px Py Pz PA PB PC PD Hd LX LY Int.natCast_nonneg j9 indexAt tP D2 xz rC Int.toNat_natCast V.cells y8 xv O2 bD Option.map_some Option.map_none Option.bind_some List.size_toArray List.getElem?_toArray beq_self_eq_true decide_true decide_false Bool.not_true Bool.not_false k7 ng l0 jF gf eO Ci iN rowOf iY ne_eq not_true_eq_false not_false_eq_true jG jx p9 V.sc.injEq Value.bool.injEq aN List.flatMap_cons List.flatMap_nil cL gM Tu Tv L8 L9 Ma D1 tt3 tt4 tt9 Ze Zf Zg Zh Zi Zj Zk Zl Zm Zn Zo Zp Zq Zr Zs Zt Zu Zv Zw TG TH TI TJ TK TL TN TO TP TQ TR uI List.toList_toArray List.append_eq Hk Hl Ck NN mF dS lC qh sC kJ nA jS Et dg og gT Ie P2 Mr pg rS BZ dq e8 eh cq runM dW pb tf fJ qg mL isHole ep zT aC.b7 pc Qe qA Ev nE lk rT dC eL pk zk dr aR cu List.foldl_cons List.foldl_nil wq au aD az Qg Qh Qi Qj Mw yg ZC Ix Qp zG eG Iy Qs Qt rL lq T7 T8 T9 Ua Ub ZD ZE ZF ZG ZH ZI ZJ ZK ZL ZM ZN ZO ZP ZQ IA FI IB FK FJ qb gU l4 oA Fe List.replicate List.take_length
attribute [go_sem ↓] CX FH Ql FG Qk Qa Qb MA Ez
attribute [go_sem] reduceIte Nat.reduceAdd Nat.reduceLT Nat.reduceLeDiff Nat.reduceMul Nat.reduceEqDiff Nat.reduceSub reduceCtorEq
end Go.Proofs.YtnboooapeopjoaaGreatDoor
end

section
namespace Go.Eng
variable [aA]
open Go.RowKit (Below)
theorem bH.below {E : Env} {w w' : World} {a : Act} {st : St} (hs : bH E w a st) (hb : Below w.heap.size w w') : bH E w' a st ∧ ec E w E w' := by
 refine ⟨⟨fun ad y hy => ?_, fun k v g e c h => Nat.lt_of_lt_of_le (hs.lt _ _ _ _ _ h) hb.size, fun k B hk => ?_, hs.top, hs.b7, hs.apart, hs.fr⟩,
  ⟨E.le_refl, fun k v g e c h => .inl ⟨k, v, e, c, h⟩, fun _ _ h => .inl h, hb.os, hb.tape, hb.output, hb.size, fun b aZ _ => hb.block b aZ⟩⟩
 ·rw [hb.cell (World.block_lt_of_cell? w ad (hs.F ad y hy))]; exact hs.F ad y hy
 ·exact (hs.mem k B hk).mono E.le_refl (fun _ h => h) (fun g e c h => hb.block _ (hs.lt _ _ _ _ _ h)) fun _ _ _ _ _ h => h
end Go.Eng
end

section
namespace Go.Eng
variable [aA]
def j4 (ks : List Nat) (L j : Nat) : Nat := match ks[j]? with
 | some k => k
 | none => L + (j - ks.length)
theorem sY (σ : Nat → Nat) : ∀ (l : List aC) (i : Nat) (M : List aC), (∀ j B, l[j]? = some B → M[σ (i + j)]? = some (jJ σ B)) → gW σ i l M = M
 | [], _, _, _ => rfl
 | B :: r, i, M, h => by
  have e : M.set (σ i) (jJ σ B) = M := by
   have h0 := h 0 B rfl
   rw [Nat.add_zero] at h0
   apply List.ext_getElem?
   intro q
   rw [List.getElem?_set]
   split
   ·rename_i hq; subst hq
    rw [if_pos (List.getElem?_eq_some_iff.1 h0).1, h0]
   ·rfl
  rw [gW, e]
  exact sY σ r (i + 1) M fun j B hj => by
   have := h (j + 1) B (by simpa using hj)
   rw [show i + 1 + j = i + (j + 1) by omega]; exact this
theorem mg {M : List aC} {k : Nat} {B : aC} (h : M[k]? = some B) : M.set k B = M := by
 apply List.ext_getElem?
 intro q
 rw [List.getElem?_set]
 split
 ·rename_i hq; subst hq
  rw [if_pos (List.getElem?_eq_some_iff.1 h).1, h]
 ·rfl
theorem uQ (σ : Nat → Nat) (B : aC) : ∀ (l : List aC) (i j0 : Nat) (M : List aC), j0 < l.length → (∀ a b, i ≤ a → a < i + l.length → i ≤ b → b < i + l.length → σ a = σ b → a = b) →
  (∀ j B, l[j]? = some B → M[σ (i + j)]? = some (jJ σ B)) → gW σ i (l.set j0 B) M = M.set (σ (i + j0)) (jJ σ B)
 | [], _, _, _, h, _, _ => by simp at h
 | C :: r, i, 0, M, _, rY, h => by
  rw [List.set_cons_zero, gW, Nat.add_zero]
  refine sY σ r (i + 1) _ fun j D hj => ?_
  have aZ := (List.getElem?_eq_some_iff.1 hj).1
  have h1 := h (j + 1) D (by simpa using hj)
  rw [show i + 1 + j = i + (j + 1) by omega, List.getElem?_set_ne fun e => by have := rY i (i + (j + 1)) (Nat.le_refl _) (by simp) (by omega) (by simp; omega) e; omega]
  exact h1
 | C :: r, i, j0 + 1, M, hl, rY, h => by
  have h0 := h 0 C rfl
  rw [Nat.add_zero] at h0
  rw [List.set_cons_succ, gW, mg h0, uQ σ B r (i + 1) j0 M (by simpa using hl) (fun a b h1 h2 h3 h4 e => rY a b (by omega) (by simp; omega) (by omega) (by simp; omega) e) (fun j D hj => by
   have := h (j + 1) D (by simpa using hj)
   rw [show i + 1 + j = i + (j + 1) by omega]; exact this), show i + 1 + j0 = i + (j0 + 1) by omega]
theorem aF.keys {P : Program} {f : FuncId} {vs : List V} {r : V} {mem : List aC} {B : aC} {j0 : Nat} (h : aF P f vs mem r (mem.set j0 B)) (M : List aC) (ks : List Nat) (hk : ks.length = mem.length) (iK : ks.Nodup) (hj : j0 < mem.length)
  (hv : vs.all (au mem.length) = true) (hm : mem.all (az mem.length) = true) (hB : az mem.length B = true) (hr : au mem.length r = true)
  (hσ : ∀ i B, mem[i]? = some B → M[j4 ks M.length i]? = some (jJ (j4 ks M.length) B)) :
  aF P f (fN (j4 ks M.length) vs) M (c7 (j4 ks M.length) r) (M.set (j4 ks M.length j0) (jJ (j4 ks M.length) B)) := by
 have rY : ∀ i j, i < mem.length → j < mem.length → j4 ks M.length i = j4 ks M.length j → i = j := fun i j hi hj e => by
  unfold j4 at e
  rw [List.getElem?_eq_getElem (by omega), List.getElem?_eq_getElem (by omega)] at e
  exact (List.getElem_inj iK).1 e
 have PM : (mem.set j0 B).all (az mem.length) = true := by
  rw [List.all_eq_true] at hm ⊢
  intro C hC
  rcases List.mem_or_eq_of_mem_set hC with h | rfl
  ·exact hm C h
  ·exact hB
 have h2 := h.qC M (j4 ks M.length) mem.length rfl hv hm (by rw [List.length_set]; exact hr) (by rw [List.length_set]; exact PM) (by rw [List.length_set]; exact Nat.le_refl _) hσ rY (fun j hj => by
  unfold j4
  rw [List.getElem?_eq_none (by omega)]
  dsimp only
  rw [hk])
 have e : rW (j4 ks M.length) mem.length (mem.set j0 B) M = M.set (j4 ks M.length j0) (jJ (j4 ks M.length) B) := by
  unfold rW
  rw [List.take_of_length_le (by rw [List.length_set]; exact Nat.le_refl _), List.drop_eq_nil_of_le (by rw [List.length_set]; exact Nat.le_refl _), List.map_nil, List.append_nil,
   uQ (j4 ks M.length) B mem 0 j0 M hj (fun a b _ h2 _ h4 e => rY a b (by omega) (by omega) e) (fun j D hD => by rw [Nat.zero_add]; exact hσ j D hD), Nat.zero_add]
 rw [e] at h2
 exact h2
theorem ID {E : Env} {v : V} {x : Value} (h : bC E v x) : bC E (Ci v) x := by
 cases v with
 | agg cs =>
  cases h with
  | agg _ _ xs hl h' =>
   refine bC.agg _ _ _ (by rw [List.length_map]; exact hl) fun i c y hc hy => ?_
   rw [List.getElem?_map] at hc
   cases hi : cs[i]? with
   | none => rw [hi] at hc; cases hc
   | some c0 =>
    rw [hi] at hc
    cases hc
    exact lA (h' i c0 y hi hy)
 | _ => exact lA h
theorem aF.row {P : Program} {f : FuncId} {vs : List V} {r : V} {mem aQ : List aC} (h : aF P f vs mem r aQ) : aF P f vs mem (Ci r) aQ :=
 ⟨h.1, fun E w xs hs hx => (h.2 E w xs hs hx).mono fun e w' ⟨E', x, h1, h2, h3, h4⟩ => ⟨E', x, h1, h2, h3, ID h4⟩⟩
theorem bH.gh {E : Env} {w : World} {a : Act} {st : St} (hs : bH E w a st) {k j : Nat} {cs : List V} {v0 v' : V} (hk : st.mem[k]? = some (.box cs)) (hj : cs[j]? = some v0) (hp : e8 st.mem v0 = some v') :
  ∃ E', bH E' w a { st with mem := (aR st.mem (cL v0)).set k (.box (cs.set j v')) } ∧ ec E w E' w := by
 obtain ⟨E', h1, h2, h3⟩ := hs.freeze (vs := [v0]) (vs' := [v']) (by simp [dq, hp])
 have hr : [v0].flatMap cL = cL v0 := by simp
 rw [hr] at h1
 have hb := uP st.mem (cL v0) k hk
 refine ⟨E', ⟨h1.F, h1.lt, fun k' B hB => ?_, fun k' gD => h1.top k' (by simpa using gD), fun k' B hB v hv => ?_, h1.apart, h1.fr⟩, h2⟩
 ·dsimp only at hB
  rw [List.getElem?_set] at hB
  split at hB
  ·rename_i he; subst he
   split at hB
   ·cases hB
    obtain ⟨g, T, xs, q1, q2, q3, q4⟩ := hs.mem k _ hk
    obtain ⟨g', T', o6, p1, p2, p3, p4⟩ := h1.mem k _ hb
    rw [h2.le.bd _ _ _ q1] at p1
    cases p1
    rw [q2] at p2
    cases p2
    obtain ⟨x, hx, Tw⟩ := q3.get hj
    obtain ⟨y, ys, hy, HR, -⟩ := (h3 (xs := [x]) (.cons Tw (.nil _))).of_cons
    cases hy
    have uo := bo.set (n := j) p3 HR
    have e : xs.toList.set j x = xs.toList := ki hx
    rw [e] at uo
    exact ⟨g, T, xs, h2.le.bd _ _ _ q1, q2, uo, p4⟩
   ·cases hB
  ·exact h1.mem k' B hB
 ·dsimp only at hB
  rw [List.getElem?_set] at hB
  split at hB
  ·rename_i he; subst he
   split at hB
   ·cases hB
    exact h1.b7 k _ hb v hv
   ·cases hB
  ·exact h1.b7 k' B hB v hv
section
variable {k_ : Tk} {m : Bool} {P : Program} {ρ : Option Nat} {n0 : Nat} {Q : Exit → St → Prop} {n : Nat} {ws : List (Nat × V)} {mem : List aC} {c : Code}
theorem uR {k : Nat} {cs : List V} {v0 v' : V} (j : Nat) (hk : mem[k]? = some (.box cs)) (hj : cs[j]? = some v0) (hp : e8 mem v0 = some v') (h : X k_ m P ρ n0 c ⟨W n ws, (aR mem (cL v0)).set k (.box (cs.set j v'))⟩ Q) : X k_ m P ρ n0 c ⟨W n ws, mem⟩ Q :=
 Qy (fun _ _ _ hs => bH.gh hs hk hj hp) h
end
end Go.Eng
end

section
namespace Go.Eng
variable [aA]
def sZ : List (FuncId × List V × V) → FuncId → List V → Option V
 | [], _, _ => none
 | e :: t, f, vs => if e.1 = f then (if fT e.2.1 vs = true then some e.2.2 else sZ t f vs) else sZ t f vs
theorem aH {P : Program} : lK P (sZ []) := fun f vs r h => by cases h
theorem aM {P : Program} {f : FuncId} {vs : List V} {r : V} {t : List (FuncId × List V × V)} (h : aT P f vs r) (ht : lK P (sZ t)) : lK P (sZ ((f, vs, r) :: t)) := fun g ws s hs => by
 unfold sZ at hs
 dsimp only at hs
 split at hs
 ·rename_i hf
  split at hs
  ·rename_i hv
   cases hs
   rw [← hf, ← dN hv]; exact h
  ·exact ht g ws s hs
 ·exact ht g ws s hs
def uS : List (FuncId × List V × List aC × List (V × List aC)) → ij
 | [], _, _, _ => none
 | e :: t, f, vs, mem => if e.1 = f then (if fT e.2.1 vs = true then (if ny e.2.2.1 mem = true then some e.2.2.2 else uS t f vs mem) else uS t f vs mem) else uS t f vs mem
theorem bW {P : Program} : fS P (uS []) := fun f vs mem outs h => by cases h
theorem br {P : Program} {f : FuncId} {vs : List V} {mem : List aC} {outs : List (V × List aC)} {t : List (FuncId × List V × List aC × List (V × List aC))} (h : cj P f vs mem fun r m => (r, m) ∈ outs) (ht : fS P (uS t)) : fS P (uS ((f, vs, mem, outs) :: t)) := fun g ws m o hs => by
 unfold uS at hs
 dsimp only at hs
 split at hs
 ·rename_i hf
  split at hs
  ·rename_i hv
   split at hs
   ·rename_i hm
    cases hs
    rw [← hf, ← dN hv, ← od hm]; exact h
   ·exact ht g ws m o hs
  ·exact ht g ws m o hs
 ·exact ht g ws m o hs
def Ug (n k : Nat) (cs : List V) (j : Nat) : Option (Nat × Nat) := match cs[j]? with
 | some (V.ms b _ _ _) => if n ≤ b then some (k, j) else none
 | _ => none
def Uh (n : Nat) (m : List aC) (k : Nat) : List (Nat × Nat) := match m[k]? with
 | some (aC.box cs) => (List.range cs.length).filterMap (Ug n k cs)
 | _ => []
def IE (n : Nat) (m : List aC) : List (Nat × Nat) := (List.range n).flatMap (Uh n m)
def IF (m : List aC) (p : Nat × Nat) : Option (List aC) := match m[p.1]? with
 | some (.box cs) => match cs[p.2]? with
  | some v0 => match e8 m v0 with
   | some v' => some ((aR m (cL v0)).set p.1 (.box (cs.set p.2 v')))
   | none => none
  | none => none
 | _ => none
def yp : List (Nat × Nat) → List aC → Option (List aC)
 | [], m => some m
 | p :: r, m => match IF m p with
  | some m' => yp r m'
  | none => none
theorem IG {E : Env} {w : World} {a : Act} {fr : List V} {m m' : List aC} {p : Nat × Nat} (h : IF m p = some m') (hs : bH E w a { fr := fr, mem := m }) : ∃ E', bH E' w a { fr := fr, mem := m' } ∧ ec E w E' w := by
 unfold IF at h
 split at h
 ·rename_i cs hk
  split at h
  ·rename_i v0 hj
   split at h
   ·rename_i v' hp
    cases h
    exact hs.gh hk hj hp
   ·cases h
  ·cases h
 ·cases h
theorem wZ {w : World} {a : Act} {fr : List V} : ∀ {l : List (Nat × Nat)} {m m' : List aC} {E : Env}, yp l m = some m' → bH E w a { fr := fr, mem := m } → ∃ E', bH E' w a { fr := fr, mem := m' } ∧ ec E w E' w
 | [], m, m', E, h, hs => by cases h; exact ⟨E, hs, ec.refl _ _⟩
 | p :: r, m, m', E, h, hs => by
  unfold yp at h
  split at h
  ·rename_i m1 h1
   obtain ⟨E1, s1, v1⟩ := IG h1 hs
   obtain ⟨E2, s2, v2⟩ := wZ h s1
   exact ⟨E2, s2, v1.trans v2⟩
  ·cases h
def IH : V → List V
 | .cC vs => vs
 | v => [v]
def Ui : V → List V → Option V
 | .cC _, l => some (.cC l)
 | _, [v] => some v
 | _, _ => none
theorem Uj {E E' : Env} {v v' : V} {x : Value} {l : List V} (h : bC E v x) (hl : ∀ xs, bo E (IH v) xs → bo E' l xs) (hm : Ui v l = some v') : bC E' v' x := by
 cases v with
 | cC vs =>
  cases hm
  cases h with
  | cC _ _ xs hlen hh =>
   have := hl xs.toList ⟨by simpa [IH] using hlen, fun i c x hc hx => hh i c x hc (by simpa using hx)⟩
   exact .cC _ _ _ (by simpa using this.1) fun i c x hc hx => this.2 i c x hc (by simpa using hx)
 | _ =>
  cases l with
  | nil => cases hm
  | cons u r =>
   cases r with
   | nil =>
    cases hm
    obtain ⟨y, ys, hy, HR, -⟩ := (hl [x] (.cons h (.nil _))).of_cons
    cases hy; exact HR
   | cons _ _ => cases hm
def Qz (n : Nat) (p : V × List aC) : Option (V × List aC) := match yp (IE n p.2) p.2 with
 | some m1 => match dq m1 (IH p.1) with
  | some l => match Ui p.1 l with
   | some v => if au n v = true ∧ ((aR m1 ((IH p.1).flatMap cL)).take n).all (az n) = true then some (v, (aR m1 ((IH p.1).flatMap cL)).take n) else none
   | none => none
  | none => none
 | none => none
def uT (n : Nat) : List (V × List aC) → Option (List (V × List aC))
 | [] => some []
 | p :: r => match Qz n p with
  | some q => match uT n r with
   | some s => some (q :: s)
   | none => none
  | none => none
theorem uU {n : Nat} : ∀ {l l' : List (V × List aC)}, uT n l = some l' → ∀ p ∈ l, ∃ q ∈ l', Qz n p = some q
 | [], _, _, p, h => by cases h
 | a :: r, l', h, p, hp => by
  unfold uT at h
  split at h
  ·rename_i q hq
   split at h
   ·rename_i s hs
    cases h
    rcases List.mem_cons.1 hp with rfl | hp
    ·exact ⟨q, List.mem_cons_self .., hq⟩
    ·obtain ⟨q', h1, h2⟩ := uU hs p hp
     exact ⟨q', List.mem_cons_of_mem _ h1, h2⟩
   ·cases h
  ·cases h
theorem cj.uG {P : Program} {f : FuncId} {vs : List V} {mem : List aC} {R R' : V → List aC → Prop} (h : cj P f vs mem R)
  (step : ∀ r m, R r m → ∃ v' m2, R' v' (m2.take mem.length) ∧ au mem.length v' = true ∧ (m2.take mem.length).all (az mem.length) = true ∧
   ∀ (E : Env) (w : World) (x : Value), bH E w { tmps := #[], defers := [] } { fr := [], mem := m } → bC E r x → ∃ E2, bH E2 w { tmps := #[], defers := [] } { fr := [], mem := m2 } ∧ ec E w E2 w ∧ bC E2 v' x) : cj P f vs mem R' := by
 refine ⟨h.1, fun E w xs hs hx => (h.2 E w xs hs hx).mono ?_⟩
 rintro e w' ⟨E', x, r, m, rfl, hR, ea, lS, jX⟩
 obtain ⟨v', m2, hR', hv, hm, st⟩ := step r m hR
 obtain ⟨E2, s2, PV, HR⟩ := st E' w' x lS jX
 have he := ea.trans PV
 have hc := s2.cut (n := mem.length) rfl hm
 refine ⟨E2.cut mem.length, x, v', m2.take mem.length, rfl, hR', ⟨⟨he.le.F, fun k v t hk => ?_⟩, fun k v g e c hk => ?_, he.F, he.os, he.tape, he.output, he.size, he.heap⟩, hc, e9 HR hv⟩
 ·have : k < mem.length := by
   rcases Nat.lt_or_ge k mem.length with aZ | gv
   ·exact aZ
   ·rw [hs.top k gv v] at hk; cases hk
  exact (if_pos this).trans (he.le.bd _ _ _ hk)
 ·have : E2.bd k v = some (g, e, c) := by
   by_cases iE : k < mem.length
   ·exact ((if_pos iE).symm.trans hk : E2.bd k v = _)
   ·have h2 : (E2.cut mem.length).bd k v = none := if_neg iE
    rw [h2] at hk; cases hk
  exact he.bd _ _ _ _ _ this
theorem cj.Fe {P : Program} {f : FuncId} {vs : List V} {mem : List aC} {l l' : List (V × List aC)} (h : cj P f vs mem fun r m => (r, m) ∈ l) (hp : uT mem.length l = some l') : cj P f vs mem fun r m => (r, m) ∈ dedup l' := by
 refine h.uG fun r m hR => ?_
 obtain ⟨q, hq, ht⟩ := uU hp _ hR
 unfold Qz at ht
 dsimp only at ht
 split at ht
 ·rename_i m1 h1
  split at ht
  ·rename_i l hl
   split at ht
   ·rename_i v hv
    split at ht
    ·rename_i hc
     cases ht
     refine ⟨v, _, oe hq, hc.1, hc.2, fun E w x hs jX => ?_⟩
     obtain ⟨E1, s1, ev1⟩ := wZ h1 hs
     obtain ⟨E2, s2, PV, r2⟩ := s1.freeze hl
     exact ⟨E2, s2, ev1.trans PV, Uj (jX.mono ev1.le) r2 hv⟩
    ·cases ht
   ·cases ht
  ·cases ht
 ·cases ht
def II (n : Nat) (x : Option (List (V × List aC))) : Option (List (V × List aC)) := match x with
 | some l => match uT n l with
  | some l' => some (dedup l')
  | none => none
 | none => none
theorem cj.II {P : Program} {f : FuncId} {vs : List V} {mem : List aC} {x : Option (List (V × List aC))} (h : ∀ l, x = some l → cj P f vs mem fun r m => (r, m) ∈ l) {o : List (V × List aC)} (hp : Go.Eng.II mem.length x = some o) : cj P f vs mem fun r m => (r, m) ∈ o := by
 unfold Go.Eng.II at hp
 split at hp
 ·rename_i l
  split at hp
  ·rename_i l' SE
   cases hp
   exact (h l rfl).Fe SE
  ·cases hp
 ·cases hp
end Go.Eng
end
