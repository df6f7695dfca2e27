/-
  THE ENGINE, TM: the walk without a settled outcome: calls of which only a relation is told, and append behind a block's beginning.
  THE ENGINE, VA: one operation, for both forms of walk (m = true: Tri, m = false: Ex); what is stuck keeps what follows out of sight.
  THE ENGINE, FZ: a slot whose rows nobody will write any more.
  THE ENGINE, VC: sparse frames; code carried out as far as the data settle it; both forms of walk (m = true: Tri, m = false: Ex).
  THE ENGINE, VD: what stands between the stretches of VC: loops, ways that meet, regions that draw, functions' beginnings and ends.
  THE ENGINE, RN: a contract at a small store holds at every store that has the small one's blocks under other keys.
  THE ENGINE, SW: two blocks of a call's own change keys; the values of a map are frozen.
  THE ENGINE, FC: the rows that a struct's cells name are frozen.
  THE ENGINE, VF: what may be made of a state without a step: rows frozen, nil slices taken for empty rows, keys changed.
  THE ENGINE, GS: the facts for carrying code out, in the library's own simp set.
  THE ENGINE, AD: a block that a call has made is taken into the store.
  THE ENGINE, RP: live rows whose cells a call of the library's has turned.
-/
import Derived.Test.YtnfeacnbgbggfaaGreatDoorE6
set_option linter.all false
section
namespace Go.Eng
variable [aE]
section
variable {P : Program} {tt : Table} {ρ : Option Nat} {n0 : Nat} {st : St} {Q : Exit → St → Prop}
def KJ (P : Program) (f : FuncId) (vs : List V) (st : St) (dst : Option Tmp) (Q : St → Prop) : Prop :=
 ∃ R, gH P f vs st.mem R ∧ ∀ v m', R v m' → Q ({ st with mem := m' }.put dst v)
def OB (P : Program) (f : FuncId) (vs : List V) (st : St) (dst : Option Tmp) (Q : St → Prop) : Prop := M0 P f vs st dst Q ∨ KJ P f vs st dst Q
def OC (P : Program) (tt : Table) (key : Nat) (o : Oper) (st : St) (Q : St → Prop) : Prop :=
 match o.op with
 | .call c => match c.callee with
  | .value f => match ba (st.eval f) (c.args.toList.map st.eval) with
   | some (g, vs) => OB P g vs st o.dst Q
   | none => False
  | .builtin .append => match c.args.toList.map st.eval with
   | [s, x] => match dn tt st.mem c.argTypes.toList s x with
    | some (size, nZ, rows) => Q ({ st with mem := (ct st.mem key size rows nZ).1 }.put o.dst (ct st.mem key size rows nZ).2)
    | none => qH tt st c.argTypes.toList s x o.dst Q
   | _ => False
  | _ => Hi P tt key o st Q
 | _ => Hi P tt key o st Q
def Hm (P : Program) (tt : Table) (gl : List (Nat × Nat)) (all : Array Oper) : List Oper → St → (St → Prop) → Prop
 | [], st, Q => Q st
 | o :: r, st, Q => match wZ gl all st.fr o with
  | some true => OC P tt st.mem.length o st fun st' => Hm P tt gl all r st' Q
  | some false => Hm P tt gl all r (st.put o.dst (.sc undef)) Q
  | none => False
theorem Bx {ts : List TypeId} {s x : V} {dst : Option Tmp} {A B : St → Prop} (h : qH tt st ts s x dst A) (nr : ∀ s, A s → B s) : qH tt st ts s x dst B := by
 unfold qH at h ⊢
 split at h
 ·exact fun o rs' h1 h2 => nr _ (h o rs' h1 h2)
 ·exact h
attribute [irreducible] Hm

end
end Go.Eng
end

section
namespace Go.Eng
variable [aE]
inductive Tk where
 | a
 | b
def tk : Tk := .b
theorem SB {α : Type} {a b : α} (h : a = b) : a = b := h
theorem ft {a b : Prop} (h : a = b) : a = b := h
def bq {α : Type} (_ : Tk) (o : Option α) (K : α → Prop) : Prop := match o with
 | some v => K v
 | none => False
theorem OD {α : Type} {k : Tk} {o : Option α} {K : α → Prop} : bq k o K = match o with | some v => K v | none => False := ft rfl
theorem fM {α : Type} {k : Tk} {o : Option α} {K : α → Prop} : bq k o K ↔ ∃ v, o = some v ∧ K v := by
 cases o with
 | none => exact ⟨fun h => h.elim, fun ⟨_, h, _⟩ => by cases h⟩
 | some v => exact ⟨fun h => ⟨v, rfl, h⟩, fun ⟨_, e, h⟩ => by cases e; exact h⟩
def nq {α : Type} (_ : Tk) (o : Option α) (A : α → Prop) (B : Prop) : Prop := match o with
 | some v => A v
 | none => B
theorem OE {α : Type} {k : Tk} {o : Option α} {A : α → Prop} {B : Prop} : nq k o A B = match o with | some v => A v | none => B := ft rfl
theorem oM {α : Type} {k : Tk} {v : α} {A : α → Prop} {B : Prop} : nq k (some v) A B = A v := rfl
theorem oN {α : Type} {k : Tk} {A : α → Prop} {B : Prop} : nq k none A B = B := rfl
section
variable {m : Bool} {P : Program} {tt : Table} {st : St} {Q : St → Prop}
def oO (_ : Tk) (m : Bool) (P : Program) (f : FuncId) (vs : List V) (o : Option (List V)) (keys : List (Nat × Nat)) (st : St) (dst : Option Tmp) (Q : St → Prop) : Prop :=
 (∃ vs' r, o = some vs' ∧ aP P f vs' r ∧ Q ({ st with mem := cI st.mem keys r }.put dst r)) ∨
 (∃ r aA, aR P f vs st.mem r aA ∧ Q ({ st with mem := aA }.put dst r)) ∨
 (m = true ∧ ∃ R, gH P f vs st.mem R ∧ ∀ r aA, R r aA → Q ({ st with mem := aA }.put dst r)) ∨
 (∃ r, sI P f vs r ∧ Q (st.put dst r))
def SC (_ : Tk) (m : Bool) (P : Program) (k : Nat) (vs : List V) (st : St) (dst : Option Tmp) (Q : St → Prop) : Prop :=
 (∃ b aA, QM P k vs st.mem b aA ∧ Q ({ st with mem := aA }.put dst (.sc (.bool b)))) ∨
 (m = true ∧ ∃ R, Eu P k vs st.mem R ∧ ∀ b aA, R b aA → Q ({ st with mem := aA }.put dst (.sc (.bool b))))
def SD (_ : Tk) (m : Bool) (r : Option (Nat × Nat × Nat × Nat × List V × List V)) (st : St) (dst : Option Tmp) (Q : St → Prop) : Prop := m = true ∧ match r with
 | some (size, b, v, l, rs, xs) => ∀ (o : Nat) (rs' : List V), rs'.drop o = rs ++ xs → o + (l + xs.length) = rs'.length → Q ({ st with mem := st.mem.set b (.rows (v + 1) size rs') }.put dst (.ms b (v + 1) o (l + xs.length)))
 | none => False
theorem VX {k : Tk} {st : St} {size b v l : Nat} {rs xs : List V} {dst : Option Tmp} {Q : St → Prop} (h : ∀ (o : Nat) (rs' : List V), rs'.drop o = rs ++ xs → o + (l + xs.length) = rs'.length → Q ({ st with mem := st.mem.set b (.rows (v + 1) size rs') }.put dst (.ms b (v + 1) o (l + xs.length)))) : SD k true (some (size, b, v, l, rs, xs)) st dst Q := ⟨rfl, h⟩
def XF (_ : Tk) (m : Bool) (st : St) (dst : Option Tmp) (it : V) (str : Bool) (Q : St → Prop) : Prop := m = true ∧ ov st dst it str Q
def VY (_ : Tk) (m : Bool) (n : Nat) (op : BinOp) (st : St) (dst : Option Tmp) (Q : St → Prop) : Prop :=
 m = true ∧ ∀ b : Bool, (n ≠ 0 → b = false) → Q (st.put dst (.sc (.bool (kq op b))))
def KK (tt : Table) (T : TypeId) (len : Nat) (parts : List (Nat × Operand)) (st : St) (key : Nat) : Option (List au) :=
 match pE tt T len parts st.eval with
 | some (size, rs) => some (aX st.mem key (.rows 0 size rs))
 | none => match ny tt T len parts st with
  | some (size, rs) => some (aX (bL st.mem (fh st.eval parts)) key (.rows 0 size rs))
  | none => none
def w7 (tt : Table) (mem : List au) (T : TypeId) (p x : V) : Option (List au) :=
 match gU tt mem T p x with
 | some m => some m
 | none => wJ tt mem T p x
def iK (m : Bool) (P : Program) (tt : Table) (key : Nat) (o : Oper) (st : St) (Q : St → Prop) : Prop :=
 match o.op with
 | .alloc T => bq tk (tt T) fun i => Q ({ st with mem := aX st.mem key (.box (i.zero.map V.sc)) }.put o.dst (.ptr key 0))
 | .box _ x => bq tk (fH (st.eval x)) fun cs => Q ({ st with mem := aX st.mem key (.box cs) }.put o.dst (.ptr key 0))
 | .build T parts => bq tk (gV P tt T parts.toList st.eval) fun v => Q (st.put o.dst v)
 | .buildSlice T len parts => bq tk (KK tt T len parts.toList st key) fun mem => Q ({ st with mem := mem }.put o.dst (.ms key 0 0 len))
 | .store T p x => bq tk (w7 tt st.mem T (st.eval p) (st.eval x)) fun mem => Q ({ st with mem := mem }.put o.dst (.sc undef))
 | .call { callee := .builtin .append, args := xs, argTypes := ts } => match xs.toList.map st.eval with
  | [s, x] => nq tk (dn tt st.mem ts.toList s x) (fun p => Q ({ st with mem := (ct st.mem key p.1 p.2.2 p.2.1).1 }.put o.dst (ct st.mem key p.1 p.2.2 p.2.1).2)) (SD tk m (jj tt st.mem ts.toList s x) st o.dst Q)
  | _ => False
 | .call { callee := .value f, args := xs, .. } => match st.eval f with
  | .ik k => SC tk m P k (xs.toList.map st.eval) st o.dst Q
  | fv => bq tk (ba fv (xs.toList.map st.eval)) fun p => oO tk m P p.1 p.2 (cj st.mem p.2) (p.2.flatMap ck) st o.dst Q
 | .makeSlice T l c => bq tk (qF tt T (st.eval l) (st.eval c)) fun p => Q ({ st with mem := aX st.mem key (.rows 0 p.1 p.2.1) }.put o.dst (.ms key 0 0 p.2.1.length))
 | .makeMap _ none => Q ({ st with mem := aX st.mem key (.map [] 0) }.put o.dst (.mp key))
 | .mapUpdate T d k x => bq tk (ch P st.mem T (st.eval d) (st.eval k) (st.eval x)) fun mem => Q ({ st with mem := mem }.put o.dst (.sc undef))
 | .insert T d k x => bq tk (ch P st.mem T (st.eval d) (st.eval k) (st.eval x)) fun mem => Q ({ st with mem := mem }.put o.dst (.sc undef))
 | .mapEntry T d k => bq tk (pF P st.mem T (st.eval d) (st.eval k)) fun p => Q ({ st with mem := p.1 }.put o.dst p.2)
 | .entryStore _ d s x => bq tk (pG st.mem (st.eval d) (st.eval s) (st.eval x)) fun mem => Q ({ st with mem := mem }.put o.dst (.sc undef))
 | .call { callee := .builtin .delete, args := xs, argTypes := ts } => bq tk (ml P st.mem ts (xs.toList.map st.eval)) fun mem => Q ({ st with mem := mem }.put o.dst (.sc (.tuple #[])))
 | .range T x => bq tk (jI P st.mem T (st.eval x)) fun B => Q ({ st with mem := aX st.mem key B }.put o.dst (.ptr key 0))
 | .next it str => XF tk m st o.dst (st.eval it) str Q
 | .binOp op T x y _ => nq tk (jv tt op T (st.eval x) (st.eval y)) (fun n => VY tk m n op st o.dst Q) (bq tk (fR P tt st o) fun v => Q (st.put o.dst v))
 | _ => bq tk (fR P tt st o) fun v => Q (st.put o.dst v)
theorem my {α : Type} {k : Tk} {o : Option α} {A B : α → Prop} (h : bq k o A) (nr : ∀ v, A v → B v) : bq k o B := by
 cases o with
 | none => exact h
 | some v => exact nr v h
theorem By {dst : Option Tmp} {it : V} {str : Bool} {A B : St → Prop} (h : ov st dst it str A) (nr : ∀ s, A s → B s) : ov st dst it str B := by
 unfold ov at h ⊢
 split at h
 ·split at h
  ·split at h
   ·exact ⟨h.1, h.2.1, fun e => nr _ (h.2.2.1 e), fun e he => nr _ (h.2.2.2 e he)⟩
   ·exact h
  ·refine ⟨h.1, ?_⟩
   have := h.2
   split at this
   ·rename_i hp; rw [if_pos hp]; exact nr _ this
   ·rename_i hp; rw [if_neg hp]; exact nr _ this
  ·exact ⟨h.1, nr _ h.2⟩
  ·exact h
 ·exact h
theorem Bz {key : Nat} {o : Oper} {A B : St → Prop} (h : iK m P tt key o st A) (nr : ∀ s, A s → B s) : iK m P tt key o st B := by
 have app : ∀ {ts : List TypeId} {s x : V}, nq tk (dn tt st.mem ts s x) (fun p => A ({ st with mem := (ct st.mem key p.1 p.2.2 p.2.1).1 }.put o.dst (ct st.mem key p.1 p.2.2 p.2.1).2)) (SD tk m (jj tt st.mem ts s x) st o.dst A) →
   nq tk (dn tt st.mem ts s x) (fun p => B ({ st with mem := (ct st.mem key p.1 p.2.2 p.2.1).1 }.put o.dst (ct st.mem key p.1 p.2.2 p.2.1).2)) (SD tk m (jj tt st.mem ts s x) st o.dst B) := fun {ts s x} h => by
  cases ha : dn tt st.mem ts s x with
  | some p => rw [ha, oM] at h; exact nr _ h
  | none => rw [ha, oN] at h; exact ⟨h.1, Bx (show qH tt st ts s x o.dst A from h.2) nr⟩
 have cv : ∀ {f : FuncId} {vs : List V} {p : Option (List V)} {keys : List (Nat × Nat)}, oO tk m P f vs p keys st o.dst A → oO tk m P f vs p keys st o.dst B := fun h => by
  rcases h with ⟨vs', r, h1, h2, h3⟩ | ⟨r, m', h1, h2⟩ | ⟨hm, R, h1, h2⟩ | ⟨r, h1, h2⟩
  ·exact .inl ⟨vs', r, h1, h2, nr _ h3⟩
  ·exact .inr (.inl ⟨r, m', h1, nr _ h2⟩)
  ·exact .inr (.inr (.inl ⟨hm, R, h1, fun r m' h => nr _ (h2 r m' h)⟩))
  ·exact .inr (.inr (.inr ⟨r, h1, nr _ h2⟩))
 obtain ⟨dst, op, type, pos, after, guard⟩ := o
 cases op
 case call c =>
  obtain ⟨callee, args, ats⟩ := c
  cases callee
  case value f =>
   simp only [iK] at h ⊢
   split at h
   ·rcases h with ⟨b, m', h1, h2⟩ | ⟨hm, R, h1, h2⟩
    ·exact .inl ⟨b, m', h1, nr _ h2⟩
    ·exact .inr ⟨hm, R, h1, fun b m' h => nr _ (h2 b m' h)⟩
   ·exact my h fun v hv => cv hv
  case builtin b =>
   cases b
   case append =>
    simp only [iK] at h ⊢
    split at h
    ·exact app h
    ·exact h
   all_goals (simp only [iK] at h ⊢; exact my h fun v hv => nr _ hv)
  all_goals (simp only [iK] at h ⊢; exact my h fun v hv => nr _ hv)
 case makeMap T l =>
  cases l with
  | none => exact nr _ h
  | some l => simp only [iK] at h ⊢; exact my h fun v hv => nr _ hv
 case next it str => exact ⟨h.1, By h.2 nr⟩
 case binOp op T x y yt =>
  simp only [iK] at h ⊢
  cases hn : jv tt op T (st.eval x) (st.eval y) with
  | some n =>
   rw [hn, oM] at h
   exact ⟨h.1, fun b hb => nr _ (h.2 b hb)⟩
  | none => rw [hn, oN] at h; exact my h fun v hv => nr _ hv
 all_goals (simp only [iK] at h ⊢; exact my h fun v hv => nr _ hv)
def M1 (m : Bool) (P : Program) (tt : Table) (key : Nat) (o : Oper) (st : St) (Q : St → Prop) : Prop := match m with
 | true => bx P tt key o st Q
 | false => ∃ s, Q s ∧ ∀ K : St → Prop, K s → bx P tt key o st K
theorem eK {key : Nat} {o : Oper} (s : St) (h : Q s) (hk : ∀ K : St → Prop, K s → bx P tt key o st K) : M1 m P tt key o st Q := by
 cases m
 ·exact ⟨s, h, hk⟩
 ·exact hk Q h
theorem Hn {f : FuncId} {vs : List V} {dst : Option Tmp} {k : Tk} (h : oO k m P f vs (cj st.mem vs) (vs.flatMap ck) st dst Q) : (m = true ∧ vg P f vs st dst Q) ∨ ∃ s, Q s ∧ ∀ K : St → Prop, K s → vg P f vs st dst K := by
 rcases h with ⟨vs', r, h1, h2, h3⟩ | ⟨r, m', h1, h2⟩ | ⟨hm, R, h1, h2⟩ | ⟨r, h1, h2⟩
 ·exact .inr ⟨_, h3, fun K hK => .inl ⟨vs', r, h1, h2, hK⟩⟩
 ·exact .inr ⟨_, h2, fun K hK => .inr (.inl ⟨r, m', h1, hK⟩)⟩
 ·exact .inl ⟨hm, .inr (.inr (.inl ⟨R, h1, h2⟩))⟩
 ·exact .inr ⟨_, h2, fun K hK => .inr (.inr (.inr ⟨r, h1, hK⟩))⟩
theorem Ho {key : Nat} {o : Oper} (h : iK m P tt key o st Q) : M1 m P tt key o st Q := by
 unfold iK at h
 split at h
 all_goals try (rename_i kh; simp only [fM] at h; obtain ⟨v, h1, h2⟩ := h; refine eK _ h2 fun K hK => ?_; unfold bx; rw [kh]; dsimp only; rw [h1]; exact hK)
 ·rename_i kh
  simp only [fM] at h
  obtain ⟨mem, h1, h2⟩ := h
  refine eK _ h2 fun K hK => ?_
  unfold bx; rw [kh]; dsimp only
  unfold KK at h1
  split at h1
  ·rename_i hl; cases h1; rw [hl]; exact hK
  ·rename_i hl
   rw [hl]
   split at h1
   ·rename_i hl; cases h1; dsimp only; rw [hl]; exact hK
   ·cases h1
 ·rename_i kh
  simp only [fM] at h
  obtain ⟨mem, h1, h2⟩ := h
  refine eK _ h2 fun K hK => ?_
  unfold bx; rw [kh]; dsimp only
  unfold w7 at h1
  split at h1
  ·rename_i hl; cases h1; rw [hl]; exact hK
  ·rename_i hl; rw [hl]; dsimp only; rw [h1]; exact hK
 ·rename_i kh
  split at h
  ·rename_i s x Ka
   cases ha : dn tt st.mem _ s x with
   | some p =>
    rw [ha, oM] at h
    refine eK _ h fun K hK => ?_
    unfold bx; rw [kh]; dsimp only; rw [Ka]; dsimp only; rw [ha]; exact hK
   | none =>
    rw [ha, oN] at h
    obtain ⟨rfl, h⟩ := h
    show bx P tt key o st Q
    unfold bx; rw [kh]; dsimp only; rw [Ka]; dsimp only; rw [ha]; exact h
  ·exact h.elim
 ·rename_i kh
  split at h
  ·rename_i k hk
   rcases h with ⟨b, m', h1, h2⟩ | ⟨rfl, R, h1, h2⟩
   ·refine eK _ h2 fun K hK => ?_
    unfold bx; rw [kh]; dsimp only; rw [hk]; exact .inl ⟨b, m', h1, hK⟩
   ·show bx P tt key o st Q
    unfold bx; rw [kh]; dsimp only; rw [hk]; exact .inr ⟨R, h1, h2⟩
  ·rename_i hk
   simp only [fM] at h
   obtain ⟨⟨g, vs⟩, h1, h2⟩ := h
   have SE : ∀ K : St → Prop, vg P g vs st o.dst K → bx P tt key o st K := fun K hK => by
    unfold bx; rw [kh]; dsimp only
    split
    ·rename_i k hy; exact (hk k hy).elim
    ·rw [h1]; exact hK
   rcases Hn h2 with ⟨rfl, h3⟩ | ⟨s, h3, h4⟩
   ·exact SE Q h3
   ·exact eK s h3 fun K hK => SE K (h4 K hK)
 ·rename_i kh
  exact eK _ h fun K hK => by unfold bx; rw [kh]; exact hK
 ·rename_i kh
  obtain ⟨rfl, h⟩ := h
  show bx P tt key o st Q
  unfold bx; rw [kh]; exact h
 ·rename_i op T x y yt kh
  cases hn : jv tt op T (st.eval x) (st.eval y) with
  | some n =>
   rw [hn, oM] at h
   obtain ⟨rfl, h⟩ := h
   show bx P tt key o st Q
   unfold bx; rw [kh]; dsimp only; rw [hn]; exact h
  | none =>
   rw [hn, oN, fM] at h
   obtain ⟨v, h1, h2⟩ := h
   exact eK _ h2 fun K hK => by unfold bx; rw [kh]; dsimp only; rw [hn]; dsimp only; rw [h1]; exact hK
 ·rw [fM] at h
  obtain ⟨v, h1, h2⟩ := h
  refine eK _ h2 fun K hK => ?_
  unfold bx
  split
  all_goals first
   | (rw [h1]; exact hK)
   | (exfalso; solve_by_elim)
end
end Go.Eng
end

section
namespace Go.Eng
variable [aE]
section
variable {P : Program} {ρ : Option Nat} {n0 : Nat} {c : Code} {st : St} {Q : Exit → St → Prop}
theorem Dk {v v' : V} (t : Nat) (h0 : st.fr[t]? = some v) (hp : er st.mem v = some v') (h : gA P ρ n0 c { fr := st.fr.set t v', mem := bL st.mem (ck v) } Q) : gA P ρ n0 c st Q := fun E0 w0 JF E w a he hs uG => by
 obtain ⟨E', h1, h2, h3⟩ := hs.freeze (vs := [v]) (vs' := [v']) (by simp only [cj,hp])
 obtain ⟨x, hx, hr⟩ := hs.fr.get h0
 have um := (h3 [x] (aO.cons hr (.nil _))).2 0 v' x rfl rfl
 have e1 : [v].flatMap ck = ck v := by simp
 rw [e1] at h1
 have e2 : a.tmps.toList.set t x = a.tmps.toList := by
  apply List.ext_getElem?
  intro i
  rw [List.getElem?_set]
  split
  ·rename_i hi; subst hi
   rw [if_pos (List.getElem?_eq_some_iff.1 hx).1, hx]
  ·rfl
 have h4 : aO E' (st.fr.set t v') a.tmps.toList := by
  have := (aO.set (n := t) h1.fr um)
  rwa [e2] at this
 exact h E0 w0 JF E' w a (he.trans h2) ⟨h1.F, h1.lt, h1.mem, h1.top, h1.ay, h1.apart, h4⟩ (uG.F1 h2)
theorem OF {v v' : V} (t : Nat) (h0 : st.fr[t]? = some v) (hp : er st.mem v = some v') (h : Ex P ρ n0 c { fr := st.fr.set t v', mem := bL st.mem (ck v) } Q) : Ex P ρ n0 c st Q := by
 obtain ⟨e, s2, hq, h2⟩ := h
 exact ⟨e, s2, hq, fun Q' h' => Dk t h0 hp (h2 Q' h')⟩
theorem eW {α : Type} {l : List α} {t : Nat} {x : α} (h : l[t]? = some x) : l.set t x = l := by
 apply List.ext_getElem?
 intro i
 rw [List.getElem?_set]
 split
 ·rename_i hi; subst hi
  rw [if_pos (List.getElem?_eq_some_iff.1 h).1, h]
 ·rfl
theorem aV.OG {E : Env} {w : World} {a : Act} (hs : aV E w a st) {k j : Nat} {cs : List V} (hk : st.mem[k]? = some (.box cs)) (hj : cs[j]? = some (.sc (.slice none 0 0))) (b v : Nat) : aV E w a { st with mem := st.mem.set k (.box (cs.set j (.ms b v 0 0))) } := by
 have aF := (List.getElem?_eq_some_iff.1 hk).1
 refine ⟨hs.F, hs.lt, fun k' B hB => ?_, fun k' eQ => hs.top k' (by simpa using eQ), fun k' B hB v hv => ?_, hs.apart, hs.fr⟩
 ·rw [List.getElem?_set] at hB
  split at hB
  ·rename_i he; subst he
   cases hB
   obtain ⟨g, T, xs, hb, hh, hr, hf⟩ := hs.mem k _ hk
   refine ⟨g, T, xs, hb, hh, ?_, hf⟩
   obtain ⟨x, hx, Za⟩ := hr.get hj
   have Zb := bN Za
   subst Zb
   have := aO.set (n := j) hr (aT.cZ E b v 0)
   rwa [eW hx] at this
  ·exact hs.mem k' B hB
 ·rw [List.getElem?_set] at hB
  split at hB
  ·rename_i he; subst he
   cases hB
   exact hs.ay k _ hk v hv
  ·exact hs.ay k' B hB v hv
end
end Go.Eng
end

section
namespace Go.Eng
variable [aE]
def lk (t : Nat) : List (Nat × V) → V
 | [] => .undef
 | p :: ws => if p.1 = t then p.2 else lk t ws
def W (n : Nat) (ws : List (Nat × V)) : List V := (List.range n).map fun i => lk i ws
theorem nf (n : Nat) (ws : List (Nat × V)) (t : Nat) : (W n ws)[t]? = if t < n then some (lk t ws) else none := by
 unfold W
 rw [List.getElem?_map]
 by_cases h : t < n
 ·rw [if_pos h, List.getElem?_range h]; rfl
 ·rw [if_neg h, List.getElem?_eq_none (by simp; omega)]; rfl
theorem OH (n : Nat) (ws : List (Nat × V)) (t : Nat) : (W n ws).getD t .undef = if t < n then lk t ws else .undef := by
 rw [List.getD_eq_getElem?_getD, nf]; split <;> rfl
theorem jO (n : Nat) (ws : List (Nat × V)) : (W n ws).length = n := by simp [W]
theorem Dl (n : Nat) (ws : List (Nat × V)) (d : Nat) (v : V) : (W n ws).set d v = W n ((d, v) :: ws) := by
 apply List.ext_getElem?
 intro i
 rw [List.getElem?_set, nf, nf, jO]
 simp only [lk]
 by_cases h : d = i
 ·subst h; simp
 ·simp [h]
def pV (jP : List (Nat × V)) : List (Nat × V) → Prop
 | [] => True
 | p :: r => lk p.1 jP = p.2 ∧ pV jP r
theorem Dm {jP : List (Nat × V)} : ∀ {ws : List (Nat × V)}, pV jP ws → ∀ i, lk i ws = .undef ∨ lk i ws = lk i jP
 | [], _, i => .inl rfl
 | p :: r, h, i => by
  simp only [lk]
  by_cases e : p.1 = i
  ·subst e; rw [if_pos rfl]; exact .inr h.1.symm
  ·rw [if_neg e]; exact Dm h.2 i
theorem KL {E : Env} {n : Nat} {jP ws : List (Nat × V)} (h : pV jP ws) {xs : List Value} (hr : aO E (W n jP) xs) : aO E (W n ws) xs := by
 refine ⟨by rw [← hr.1, jO, jO], fun i v x hv hx => ?_⟩
 rw [nf] at hv
 split at hv
 ·rename_i hi
  cases hv
  rcases Dm h i with e | e
  ·rw [e]; exact .undef _ _
  ·rw [e]; exact hr.2 i _ x (by rw [nf, if_pos hi]) hx
 ·cases hv
def F3 (k : Nat) (ws : List (Nat × V)) : Bool := ws.all fun p => ai k p.2
theorem Hp {k n : Nat} {ws : List (Nat × V)} (h : F3 k ws = true) : (W n ws).all (ai k) = true := by
 rw [List.all_eq_true]
 intro v hv
 unfold W at hv
 obtain ⟨i, -, rfl⟩ := List.mem_map.1 hv
 clear hv
 induction ws with
 | nil => rfl
 | cons p r ih =>
  unfold F3 at h ih
  rw [List.all_cons, Bool.and_eq_true] at h
  simp only [lk]
  split
  ·exact h.1
  ·exact ih h.2

def X (_ : Tk) (m : Bool) (P : Program) (ρ : Option Nat) (n0 : Nat) (c : Code) (st : St) (Q : Exit → St → Prop) : Prop := match m with
 | true => gA P ρ n0 c st Q
 | false => Ex P ρ n0 c st Q
section
variable {k_ : Tk} {m : Bool} {P : Program} {tt : Table} {sp : List Nat} {ρ : Option Nat} {n0 : Nat} {st : St} {Q : Exit → St → Prop} {n : Nat} {ws jP : List (Nat × V)} {mem fX : List au}
theorem X.mono {c : Code} {Q2 : Exit → St → Prop} (h : X k_ m P ρ n0 c st Q) (hq : ∀ e s, Q e s → Q2 e s) : X k_ m P ρ n0 c st Q2 := by
 cases m
 ·exact Ex.mono h hq
 ·exact gA.mono h hq
theorem vz {x y : Code} (h : X k_ m P ρ n0 x st (dQ (fun st' => X k_ m P ρ n0 y st' Q) Q)) : X k_ m P ρ n0 (.seq x y) st Q := by
 cases m
 ·exact Hg h
 ·exact ku h
theorem KM {id : Nat} {c : Code} (h : X k_ m P ρ n0 c st (eu id Q)) : X k_ m P ρ n0 (.block id c) st Q := by
 cases m
 ·exact Hh h
 ·exact jJ h
theorem tg {c : Code} {st' : St} (hw : ∀ E w a, aV E w a st → aV E w a st') (h : X k_ m P ρ n0 c st' Q) : X k_ m P ρ n0 c st Q := by
 cases m
 ·obtain ⟨e, s, hq, h⟩ := h
  exact ⟨e, s, hq, fun Q' h' => sN hw (h Q' h')⟩
 ·exact sN hw h
theorem OI {c : Code} (k : Nat) (hn : n0 ≤ k) (hf : st.fr.all (ai k) = true) (hm : (st.mem.take k).all (aB k) = true) (h : X k_ m P ρ n0 c { st with mem := st.mem.take k } Q) : X k_ m P ρ n0 c st Q := by
 cases m
 ·obtain ⟨e, s, hq, h⟩ := h
  exact ⟨e, s, hq, fun Q' h' => yD k [] hn hf hm (h Q' h')⟩
 ·exact yD k [] hn hf hm h
def rB (n0 k n : Nat) (ws : List (Nat × V)) (mem : List au) (st : St) : Prop :=
 ∃ jP fX, st = ⟨W n jP, fX⟩ ∧ n0 ≤ k ∧ pV jP ws ∧ F3 k ws = true ∧ mem.all (aB k) = true ∧ fX.take k = mem
theorem bd {k : Nat} (h0 : n0 ≤ k) (h1 : pV jP ws ∧ F3 k ws = true ∧ mem.all (aB k) = true ∧ fX.take k = mem) : rB n0 k n ws mem ⟨W n jP, fX⟩ := ⟨jP, fX, rfl, h0, h1⟩
theorem Hq {c : Code} {k : Nat} (hl : rB n0 k n ws mem st) (h : X k_ m P ρ n0 c ⟨W n ws, mem⟩ Q) : X k_ m P ρ n0 c st Q := by
 obtain ⟨jP, fX, rfl, h0, h1, h2, h3, h4⟩ := hl
 subst h4
 exact tg (st' := ⟨W n ws, fX⟩) (fun E w a hs => ⟨hs.F, hs.lt, hs.mem, hs.top, hs.ay, hs.apart, KL h1 hs.fr⟩) (OI k h0 (Hp h2) h3 h)

def gate (_ : Tk) (b : Bool) (d : Nat) (st : St) (f : Bool → St → Prop) : Prop := ∀ b', b = b' → f b' { st with fr := st.fr.set d (.sc (.bool b')) }
theorem OJ {d : Nat} {f : Bool → St → Prop} : gate k_ true d st f = f true { st with fr := st.fr.set d (.sc (.bool true)) } := propext ⟨fun h => h _ rfl, fun h b' e => by subst e; exact h⟩
theorem OK {d : Nat} {f : Bool → St → Prop} : gate k_ false d st f = f false { st with fr := st.fr.set d (.sc (.bool false)) } := propext ⟨fun h => h _ rfl, fun h b' e => by subst e; exact h⟩
theorem aL {b : Bool} {d : Nat} {f : Bool → St → Prop} (h1 : b = true → f true { st with fr := st.fr.set d (.sc (.bool true)) }) (h2 : b = false → f false { st with fr := st.fr.set d (.sc (.bool false)) }) : gate k_ b d st f := by
 intro b' e
 cases b' with
 | true => exact h1 e
 | false => exact h2 e
theorem Dn {b : Bool} {d : Nat} {f : Bool → St → Prop} (hd : st.fr[d]? = some (.sc (.bool b)) ∨ st.fr.getD d .undef = .sc (.bool b)) (h : gate k_ b d st f) : f b st := by
 have := h b rfl
 have e : st.fr.set d (.sc (.bool b)) = st.fr := by
  rcases hd with hd | hd
  ·exact eW hd
  ·rw [List.getD_eq_getElem?_getD] at hd
   cases hg : st.fr[d]? with
   | none => rw [hg] at hd; cases hd
   | some v => rw [hg] at hd; cases hd; exact eW hg
 rw [e] at this
 exact this
def w8 (_ : Tk) (v : Option V) (d : Nat) (want : Bool) (st : St) (yes no : St → Prop) : Prop := match v with
 | some (.sc (.bool b)) => gate tk b d st fun b s => match b == want with | true => yes s | false => no s
 | some (.sc _) => no st
 | some _ => False
 | none => no st
def qU : List Oper → Nat → Option Tmp
 | [], _ => none
 | o :: _, 0 => o.dst
 | _ :: r, n + 1 => qU r n
theorem KN {o : Oper} {r : List Oper} : qU (o :: r) 0 = o.dst := rfl
theorem Dp {o : Oper} {r : List Oper} {n : Nat} : qU (o :: r) (n + 1) = qU r n := rfl
theorem zb : ∀ (l : List Oper) (j : Nat), qU l j = (l[j]?).bind (·.dst)
 | [], j => by simp [qU]
 | o :: r, 0 => rfl
 | o :: r, j + 1 => by rw [Dp, zb r j, List.getElem?_cons_succ]
def gd (all : List Oper) (o : Oper) (st : St) (yes no : St → Prop) : Prop := match o.guard with
 | none => yes st
 | some (j, want) => match qU all j with
  | none => no st
  | some d => w8 tk st.fr[d]? d want st yes no
theorem M3 {all : Array Oper} {o : Oper} {yes no : St → Prop} (h : gd all.toList o st yes no) : (cO all st.fr o = some true ∧ yes st) ∨ (cO all st.fr o = some false ∧ no st) := by
 unfold gd at h
 unfold cO
 split at h
 ·rename_i hg; rw [hg]; exact .inl ⟨rfl, h⟩
 ·rename_i j want hg
  rw [hg]
  dsimp only
  rw [zb, Array.getElem?_toList] at h
  cases hd : (all[j]?).bind (·.dst) with
  | none => rw [hd] at h; exact .inr ⟨rfl, h⟩
  | some d =>
   rw [hd] at h
   dsimp only at h ⊢
   unfold w8 at h
   split at h
   ·rename_i b hb
    have h := Dn (.inl hb) h
    rw [hb]
    dsimp only
    cases hc : b == want with
    | true => rw [hc] at h; exact .inl ⟨rfl, h⟩
    | false => rw [hc] at h; exact .inr ⟨rfl, h⟩
   ·rename_i x hx hb
    rw [hb]
    cases x with
    | bool b => exact absurd rfl (hx b)
    | _ => exact .inr ⟨rfl, h⟩
   ·exact h.elim
   ·rename_i hb; rw [hb]; exact .inr ⟨rfl, h⟩
def nE (m : Bool) (P : Program) (tt : Table) (all : List Oper) : List Oper → St → (St → Prop) → Prop
 | [], st, Q => Q st
 | o :: r, st, Q => gd all o st (fun s => iK m P tt s.mem.length o s fun s => nE m P tt all r s Q) (fun s => nE m P tt all r (s.put o.dst (.sc undef)) Q)
theorem OL {all : List Oper} {Q : St → Prop} : nE m P tt all [] ⟨W n ws, mem⟩ Q = Q ⟨W n ws, mem⟩ := ft rfl
theorem OM {all : List Oper} {o : Oper} {r : List Oper} {Q : St → Prop} : nE m P tt all (o :: r) ⟨W n ws, mem⟩ Q = gd all o ⟨W n ws, mem⟩ (fun s => iK m P tt s.mem.length o s fun s => nE m P tt all r s Q) (fun s => nE m P tt all r (s.put o.dst (.sc undef)) Q) := ft rfl
def SG (m : Bool) (P : Program) (tt : Table) (all : Array Oper) (l : List Oper) (st : St) (Q : St → Prop) : Prop := match m with
 | true => dt P tt all l st Q
 | false => ∃ s, Q s ∧ ∀ K : St → Prop, K s → dt P tt all l st K
theorem w9 {all : Array Oper} {Q : St → Prop} : ∀ (l : List Oper) (st : St), nE m P tt all.toList l st Q → SG m P tt all l st Q
 | [], st, h => by
  cases m with
  | true => show dt P tt all [] st Q; rw [dt]; exact h
  | false => exact ⟨st, h, fun K hK => by rw [dt]; exact hK⟩
 | o :: r, st, h => by
  rw [nE] at h
  rcases M3 h with ⟨hw, h⟩ | ⟨hw, h⟩
  ·have h := Ho (Bz (B := fun s => SG m P tt all r s Q) h fun s hs => w9 r s hs)
   cases m with
   | true =>
    show dt P tt all (o :: r) st Q
    rw [dt, hw]
    exact h
   | false =>
    obtain ⟨s1, h1, h2⟩ := h
    obtain ⟨s2, h3, h4⟩ := h1
    exact ⟨s2, h3, fun K hK => by rw [dt, hw]; exact h2 _ (h4 K hK)⟩
  ·have h := w9 r _ h
   cases m with
   | true =>
    show dt P tt all (o :: r) st Q
    rw [dt, hw]; exact h
   | false =>
    obtain ⟨s2, h3, h4⟩ := h
    exact ⟨s2, h3, fun K hK => by rw [dt, hw]; exact h4 K hK⟩
theorem oP (ht : TT P tt) {id : Nat} {ops : Array Oper} (h : nE m P tt ops.toList ops.toList st (Q .normal)) : X k_ m P ρ n0 (.region id ops false) st Q := by
 have h := w9 _ _ h
 cases m with
 | true => exact kx ht h
 | false =>
  obtain ⟨s, h1, h2⟩ := h
  exact ⟨.normal, s, h1, fun Q' h' => kx ht (h2 _ h')⟩
def Dq (c : Operand) (st : St) (f : Bool → St → Prop) : Prop := match st.eval c with
 | .sc (.bool b) => match c with
  | .tmp t => gate tk b t st f
  | _ => f b st
 | _ => False
def Hr (i : Nat) : List Nat → Bool
 | [] => false
 | a :: r => if a = i then true else Hr i r
def ky : Code → Nat
 | .cond (.tmp t) _ _ => 10000 + t
 | .block i _ => 20000 + i
 | .seq _ _ => 30000
 | .region i _ _ => i
 | _ => 40000
def vc (m : Bool) (P : Program) (tt : Table) (sp : List Nat) (ρ : Option Nat) (n0 : Nat) : Code → St → (Exit → St → Prop) → Prop
 | .seq x y, st, Q => match x with
  | .region id ops false => match Hr id sp with
   | false => nE m P tt ops.toList ops.toList st fun s => vc m P tt sp ρ n0 y s Q
   | true => X tk m P ρ n0 (.seq (.region id ops false) y) st Q
  | .skip => vc m P tt sp ρ n0 y st Q
  | _ => match Hr (ky x) sp with
   | false => vc m P tt sp ρ n0 x st (dQ (fun s => vc m P tt sp ρ n0 y s Q) Q)
   | true => X tk m P ρ n0 (.seq x y) st Q
 | .region id ops false, st, Q => match Hr id sp with
  | false => nE m P tt ops.toList ops.toList st (Q .normal)
  | true => X tk m P ρ n0 (.region id ops false) st Q
 | .cond c x y, st, Q => Dq c st fun b s => match b with | true => vc m P tt sp ρ n0 x s Q | false => vc m P tt sp ρ n0 y s Q
 | .block id c, st, Q => vc m P tt sp ρ n0 c st (eu id Q)
 | .skip, st, Q => Q .normal st
 | .ret, st, Q => Q .ret st
 | .exit id, st, Q => Q (.exit id) st
 | c, st, Q => X tk m P ρ n0 c st Q
theorem vx (ht : TT P tt) : ∀ {c : Code} {st : St} {Q : Exit → St → Prop}, vc m P tt sp ρ n0 c st Q → X k_ m P ρ n0 c st Q := by
 intro c
 induction c with
 | seq x y Ut QX =>
  intro st Q h
  unfold vc at h
  split at h
  ·split at h
   ·refine vz ((oP (Q := dQ (fun s => vc m P tt sp ρ n0 y s Q) Q) ht h).mono fun e s h => ?_)
    cases e with
    | normal => exact QX h
    | _ => exact h
   ·exact h
  ·have h := QX h
   cases m
   ·exact Hg (Dj h)
   ·exact ku (lI h)
  ·split at h
   ·refine vz ((Ut h).mono fun e s h => ?_)
    cases e with
    | normal => exact QX h
    | _ => exact h
   ·exact h
 | region id ops mixed =>
  intro st Q h
  cases mixed
  ·unfold vc at h
   split at h
   ·exact oP ht h
   ·exact h
  ·unfold vc at h; exact h
 | cond c x y Ut QX =>
  intro st Q h
  unfold vc at h
  unfold Dq at h
  split at h
  ·rename_i b hb
   have h : X k_ m P ρ n0 (if b = true then x else y) st Q := by
    split at h
    ·rename_i t
     have h := Dn (.inr hb) h
     cases b
     ·exact QX h
     ·exact Ut h
    ·cases b
     ·exact QX h
     ·exact Ut h
   cases m
   ·exact KF hb h
   ·exact lJ hb h
  ·exact h.elim
 | block id c ih => intro st Q h; unfold vc at h; exact KM (ih h)
 | skip =>
  intro st Q h; unfold vc at h
  cases m
  ·exact Dj h
  ·exact lI h
 | ret =>
  intro st Q h; unfold vc at h
  cases m
  ·exact Ow h
  ·exact oy h
 | exit id =>
  intro st Q h; unfold vc at h
  cases m
  ·exact KE h
  ·exact sL h
 | _ => intro st Q h; unfold vc at h; exact h
section
variable {x y : Code} {id : Nat} {ops : Array Oper} {c : Operand}
theorem BA {v : Option V} {d : Nat} {want : Bool} {yes no : St → Prop} {k : Tk} : w8 k v d want st yes no = match v with
  | some (.sc (.bool b)) => gate tk b d st fun b s => match b == want with | true => yes s | false => no s
  | some (.sc _) => no st
  | some _ => False
  | none => no st := ft rfl
def sV := @iK
theorem ER {key : Nat} {o : Oper} {Q : St → Prop} : iK m P tt key o ⟨W n ws, mem⟩ Q = sV m P tt key o ⟨W n ws, mem⟩ Q := ft rfl
theorem ON {key : Nat} {o : Oper} {Q : St → Prop} : sV m P tt key o st Q = match o.op with
   | .alloc T => bq tk (tt T) fun i => Q ({ st with mem := aX st.mem key (.box (i.zero.map V.sc)) }.put o.dst (.ptr key 0))
   | .box _ x => bq tk (fH (st.eval x)) fun cs => Q ({ st with mem := aX st.mem key (.box cs) }.put o.dst (.ptr key 0))
   | .build T parts => bq tk (gV P tt T parts.toList st.eval) fun v => Q (st.put o.dst v)
   | .buildSlice T len parts => bq tk (KK tt T len parts.toList st key) fun mem => Q ({ st with mem := mem }.put o.dst (.ms key 0 0 len))
   | .store T p x => bq tk (w7 tt st.mem T (st.eval p) (st.eval x)) fun mem => Q ({ st with mem := mem }.put o.dst (.sc undef))
   | .call { callee := .builtin .append, args := xs, argTypes := ts } => match xs.toList.map st.eval with
    | [s, x] => nq tk (dn tt st.mem ts.toList s x) (fun p => Q ({ st with mem := (ct st.mem key p.1 p.2.2 p.2.1).1 }.put o.dst (ct st.mem key p.1 p.2.2 p.2.1).2)) (SD tk m (jj tt st.mem ts.toList s x) st o.dst Q)
    | _ => False
   | .call { callee := .value f, args := xs, .. } => match st.eval f with
    | .ik k => SC tk m P k (xs.toList.map st.eval) st o.dst Q
    | fv => bq tk (ba fv (xs.toList.map st.eval)) fun p => oO tk m P p.1 p.2 (cj st.mem p.2) (p.2.flatMap ck) st o.dst Q
   | .makeSlice T l c => bq tk (qF tt T (st.eval l) (st.eval c)) fun p => Q ({ st with mem := aX st.mem key (.rows 0 p.1 p.2.1) }.put o.dst (.ms key 0 0 p.2.1.length))
   | .makeMap _ none => Q ({ st with mem := aX st.mem key (.map [] 0) }.put o.dst (.mp key))
   | .mapUpdate T d k x => bq tk (ch P st.mem T (st.eval d) (st.eval k) (st.eval x)) fun mem => Q ({ st with mem := mem }.put o.dst (.sc undef))
   | .insert T d k x => bq tk (ch P st.mem T (st.eval d) (st.eval k) (st.eval x)) fun mem => Q ({ st with mem := mem }.put o.dst (.sc undef))
   | .mapEntry T d k => bq tk (pF P st.mem T (st.eval d) (st.eval k)) fun p => Q ({ st with mem := p.1 }.put o.dst p.2)
   | .entryStore _ d s x => bq tk (pG st.mem (st.eval d) (st.eval s) (st.eval x)) fun mem => Q ({ st with mem := mem }.put o.dst (.sc undef))
   | .call { callee := .builtin .delete, args := xs, argTypes := ts } => bq tk (ml P st.mem ts (xs.toList.map st.eval)) fun mem => Q ({ st with mem := mem }.put o.dst (.sc (.tuple #[])))
   | .range T x => bq tk (jI P st.mem T (st.eval x)) fun B => Q ({ st with mem := aX st.mem key B }.put o.dst (.ptr key 0))
   | .next it str => XF tk m st o.dst (st.eval it) str Q
   | .binOp op T x y _ => nq tk (jv tt op T (st.eval x) (st.eval y)) (fun n => VY tk m n op st o.dst Q) (bq tk (fR P tt st o) fun v => Q (st.put o.dst v))
   | _ => bq tk (fR P tt st o) fun v => Q (st.put o.dst v) := ft rfl
theorem OO {all : List Oper} {o : Oper} {yes no : St → Prop} : gd all o ⟨W n ws, mem⟩ yes no = match o.guard with
  | none => yes ⟨W n ws, mem⟩
  | some (j, want) => match qU all j with
   | none => no ⟨W n ws, mem⟩
   | some d => w8 tk (W n ws)[d]? d want ⟨W n ws, mem⟩ yes no := ft rfl
theorem ES {f : Bool → St → Prop} : Dq c st f = match st.eval c with
  | .sc (.bool b) => match c with
   | .tmp t => gate tk b t st f
   | _ => f b st
  | _ => False := ft rfl
theorem SH : vc m P tt sp ρ n0 (.seq (.region id ops false) y) ⟨W n ws, mem⟩ Q = match Hr id sp with
  | false => nE m P tt ops.toList ops.toList ⟨W n ws, mem⟩ fun s => vc m P tt sp ρ n0 y s Q
  | true => X tk m P ρ n0 (.seq (.region id ops false) y) ⟨W n ws, mem⟩ Q := ft rfl
theorem SI : vc m P tt sp ρ n0 (.seq (.region id ops true) y) ⟨W n ws, mem⟩ Q = match Hr id sp with
  | false => vc m P tt sp ρ n0 (.region id ops true) ⟨W n ws, mem⟩ (dQ (fun s => vc m P tt sp ρ n0 y s Q) Q)
  | true => X tk m P ρ n0 (.seq (.region id ops true) y) ⟨W n ws, mem⟩ Q := ft rfl
theorem SJ {x1 : Code} : vc m P tt sp ρ n0 (.seq (.seq x x1) y) ⟨W n ws, mem⟩ Q = match Hr 30000 sp with
  | false => vc m P tt sp ρ n0 (.seq x x1) ⟨W n ws, mem⟩ (dQ (fun s => vc m P tt sp ρ n0 y s Q) Q)
  | true => X tk m P ρ n0 (.seq (.seq x x1) y) ⟨W n ws, mem⟩ Q := ft rfl
theorem SK {x1 : Code} {t : Nat} : vc m P tt sp ρ n0 (.seq (.cond (.tmp t) x x1) y) ⟨W n ws, mem⟩ Q = match Hr (10000 + t) sp with
  | false => vc m P tt sp ρ n0 (.cond (.tmp t) x x1) ⟨W n ws, mem⟩ (dQ (fun s => vc m P tt sp ρ n0 y s Q) Q)
  | true => X tk m P ρ n0 (.seq (.cond (.tmp t) x x1) y) ⟨W n ws, mem⟩ Q := ft rfl
theorem SL : vc m P tt sp ρ n0 (.seq (.block id x) y) ⟨W n ws, mem⟩ Q = match Hr (20000 + id) sp with
  | false => vc m P tt sp ρ n0 (.block id x) ⟨W n ws, mem⟩ (dQ (fun s => vc m P tt sp ρ n0 y s Q) Q)
  | true => X tk m P ρ n0 (.seq (.block id x) y) ⟨W n ws, mem⟩ Q := ft rfl
theorem VZ : vc m P tt sp ρ n0 (.region id ops false) ⟨W n ws, mem⟩ Q = match Hr id sp with
  | false => nE m P tt ops.toList ops.toList ⟨W n ws, mem⟩ (Q .normal)
  | true => X tk m P ρ n0 (.region id ops false) ⟨W n ws, mem⟩ Q := ft rfl
theorem V0 : vc m P tt sp ρ n0 (.region id ops true) ⟨W n ws, mem⟩ Q = X tk m P ρ n0 (.region id ops true) ⟨W n ws, mem⟩ Q := ft rfl
theorem V1 : vc m P tt sp ρ n0 (.cond c x y) ⟨W n ws, mem⟩ Q = Dq c ⟨W n ws, mem⟩ fun b s => match b with | true => vc m P tt sp ρ n0 x s Q | false => vc m P tt sp ρ n0 y s Q := ft rfl
theorem V2 : vc m P tt sp ρ n0 (.block id x) ⟨W n ws, mem⟩ Q = vc m P tt sp ρ n0 x ⟨W n ws, mem⟩ (eu id Q) := ft rfl
theorem V3 : vc m P tt sp ρ n0 .skip ⟨W n ws, mem⟩ Q = Q .normal ⟨W n ws, mem⟩ := ft rfl
theorem V4 : vc m P tt sp ρ n0 .ret ⟨W n ws, mem⟩ Q = Q .ret ⟨W n ws, mem⟩ := ft rfl
theorem V5 : vc m P tt sp ρ n0 (.exit id) ⟨W n ws, mem⟩ Q = Q (.exit id) ⟨W n ws, mem⟩ := ft rfl
theorem V6 : vc m P tt sp ρ n0 (.loop x) ⟨W n ws, mem⟩ Q = X tk m P ρ n0 (.loop x) ⟨W n ws, mem⟩ Q := ft rfl
theorem V7 {f : St → Prop} : dQ f Q .normal st = f st := ft rfl
theorem V8 {f : St → Prop} : dQ f Q .ret st = Q .ret st := ft rfl
theorem V9 {f : St → Prop} {j : Nat} : dQ f Q (.exit j) st = Q (.exit j) st := ft rfl
theorem Wa {j : Nat} : eu j Q .normal st = Q .normal st := ft rfl
theorem Wb {j : Nat} : eu j Q .ret st = Q .ret st := ft rfl
theorem Wc {i j : Nat} : eu i Q (.exit j) st = if j = i then Q .normal st else Q (.exit j) st := ft rfl
end
attribute [irreducible] vc
end
end Go.Eng
end

section
namespace Go.Eng
variable [aE]
section
variable {k_ : Tk} {m : Bool} {P : Program} {tt : Table} {ρ : Option Nat} {n0 : Nat} {st : St} {Q : Exit → St → Prop} {n : Nat} {ws jP : List (Nat × V)} {mem fX : List au}
theorem th (ht : TT P tt) {sp : List Nat} {y : Code} (e : Exit) (s : St) (h : dQ (fun s => vc m P tt sp ρ n0 y s Q) Q e s) : dQ (fun s => X k_ m P ρ n0 y s Q) Q e s := by
 cases e with
 | normal => exact vx (k_ := k_) ht h
 | _ => exact h
theorem sq (ht : TT P tt) (sp : List Nat) {x y : Code} (h : vc m P tt sp ρ n0 x st (dQ (fun s => vc m P tt sp ρ n0 y s Q) Q)) : X k_ m P ρ n0 (.seq x y) st Q := vz ((vx ht h).mono (th ht))
theorem QY (ht : TT P tt) (sp : List Nat) {id : Nat} {ops : Array Oper} {y : Code} (h : nE m P tt ops.toList ops.toList st fun s => vc m P tt sp ρ n0 y s Q) : X k_ m P ρ n0 (.seq (.region id ops false) y) st Q :=
 vz ((oP (Q := dQ (fun s => vc m P tt sp ρ n0 y s Q) Q) ht h).mono (th ht))
theorem uM (ht : TT P tt) {id : Nat} {ops : Array Oper} (h : nE m P tt ops.toList ops.toList st (Q .normal)) : X k_ m P ρ n0 (.region id ops false) st Q := oP ht h
theorem kH {c : Code} {k j : Nat} (hl : rB n0 k n ws mem st) (h : kV P ρ n0 c j ⟨W n ws, mem⟩ Q) : kV P ρ n0 c j st Q := by
 cases j with
 | zero => exact h.elim
 | succ j => exact Hq (k_ := .b) (m := true) hl h
theorem OP {α : Type} (F : α → List (Nat × V)) (M : α → List au) (μ : α → Nat) (Inv : α → Prop) (a0 : α) (k : Nat) {c : Code} (h0 : rB n0 k n (F a0) (M a0) st) (hi : Inv a0)
  (step : ∀ a, Inv a → X k_ m P ρ n0 c ⟨W n (F a), M a⟩ (dQ (fun s => ∃ a', Inv a' ∧ μ a' < μ a ∧ rB n0 k n (F a') (M a') s) Q)) : X k_ m P ρ n0 (.loop c) st Q := by
 cases m with
 | true =>
  have key : ∀ (j : Nat) (a : α), Inv a → μ a = j → kV P ρ n0 c (j + 1) ⟨W n (F a), M a⟩ Q := by
   intro j
   induction j using Nat.strongRecOn with
   | _ j ih =>
    intro a hi hj
    refine gA.mono (step a hi) fun e s h => ?_
    cases e with
    | normal =>
     obtain ⟨a', h1, h2, h3⟩ := h
     exact kH h3 (sQ (by omega) (ih _ (by omega) a' h1 rfl))
    | _ => exact h
  exact sM _ (kH h0 (key _ a0 hi rfl))
 | false =>
  have key : ∀ (j : Nat) (a : α), Inv a → μ a = j → ∃ (e : Exit) (s : St), Q e s ∧ ∀ Q' : Exit → St → Prop, Q' e s → ∃ i, kV P ρ n0 c i ⟨W n (F a), M a⟩ Q' := by
   intro j
   induction j using Nat.strongRecOn with
   | _ j ih =>
    intro a hi hj
    obtain ⟨e, s, hq, h⟩ := step a hi
    cases e with
    | normal =>
     obtain ⟨a', h1, h2, h3⟩ := hq
     obtain ⟨e2, s2, NJ, h5⟩ := ih _ (by omega) a' h1 rfl
     refine ⟨e2, s2, NJ, fun Q' h' => ?_⟩
     obtain ⟨i, h6⟩ := h5 Q' h'
     exact ⟨i + 1, h _ (kH h3 h6)⟩
    | _ => exact ⟨_, s, hq, fun Q' h' => ⟨1, h (dQ (fun st' => kV P ρ n0 c 0 st' Q') Q') h'⟩⟩
  obtain ⟨e, s, hq, h⟩ := key _ a0 hi rfl
  refine ⟨e, s, hq, fun Q' h' => ?_⟩
  obtain ⟨j, hj⟩ := h Q' h'
  exact sM j (kH h0 hj)
theorem cT (ht : TT P tt) (sp : List Nat) {α : Type} (F : α → List (Nat × V)) (M : α → List au) (μ : α → Nat) (Inv : α → Prop) (a0 : α) (k : Nat) {c : Code} (h0 : rB n0 k n (F a0) (M a0) st) (hi : Inv a0)
  (step : ∀ a, Inv a → ∀ K : St → Prop, (∀ s, (∃ a', Inv a' ∧ μ a' < μ a ∧ rB n0 k n (F a') (M a') s) → K s) → vc m P tt sp ρ n0 c ⟨W n (F a), M a⟩ (dQ K Q)) : X k_ m P ρ n0 (.loop c) st Q := OP F M μ Inv a0 k h0 hi fun a h => vx ht (step a h _ fun _ h => h)
def pk (ws : List (Nat × V)) : List Nat → List (Nat × V)
 | [] => []
 | k :: r => (k, lk k ws) :: pk ws r
def zk : List Nat → List V → List (Nat × V) → List (Nat × V)
 | t :: ts, v :: vs, r => (t, v) :: zk ts vs r
 | _, _, r => r
theorem OQ {ks : List Nat} : pV ws (pk ws ks) := by
 induction ks with
 | nil => trivial
 | cons k r ih => exact ⟨rfl, ih⟩
theorem bY {k : Nat} {p : Nat × V} : F3 k (p :: ws) = (ai k p.2 && F3 k ws) := SB rfl
theorem cQ {k : Nat} : F3 k [] = true := SB rfl
theorem OR (ht : TT P tt) (sp : List Nat) (ts : List Nat) (SM : List V) (k : Nat) (ks : List Nat) (μ : List V → Nat) (Inv : List V → Prop) {c : Code} (hn : n0 ≤ k) (h0 : pV jP (zk ts SM (pk jP ks)) ∧ F3 k (zk ts SM (pk jP ks)) = true ∧ (fX.take k).all (aB k) = true) (hi : Inv SM)
  (step : ∀ vs, Inv vs → ∀ K : St → Prop, (∀ s, (∃ vs', Inv vs' ∧ μ vs' < μ vs ∧ rB n0 k n (zk ts vs' (pk jP ks)) (fX.take k) s) → K s) → vc m P tt sp ρ n0 c ⟨W n (zk ts vs (pk jP ks)), fX.take k⟩ (dQ K Q)) : X k_ m P ρ n0 (.loop c) ⟨W n jP, fX⟩ Q :=
 cT ht sp (fun vs => zk ts vs (pk jP ks)) (fun _ => fX.take k) μ Inv SM k (bd hn ⟨h0.1, h0.2.1, h0.2.2, rfl⟩) hi step
def ja (ws : List (Nat × V)) : List Nat → List V
 | [] => []
 | t :: r => lk t ws :: ja ws r
theorem xb : ∀ {ts : List Nat} {r : List (Nat × V)}, pV ws r → pV ws (zk ts (ja ws ts) r)
 | [], r, h => h
 | t :: ts, r, h => ⟨rfl, xb h⟩
theorem bO (ht : TT P tt) (sp : List Nat) (ts : List Nat) (k : Nat) (ks : List Nat) (μ : List V → Nat) (Inv : List V → Prop) {c : Code} (hn : n0 ≤ k) (h0 : F3 k (zk ts (ja jP ts) (pk jP ks)) = true ∧ (fX.take k).all (aB k) = true) (hi : Inv (ja jP ts))
  (step : ∀ vs, Inv vs → ∀ K : St → Prop, (∀ s, (∃ vs', Inv vs' ∧ μ vs' < μ vs ∧ rB n0 k n (zk ts vs' (pk jP ks)) (fX.take k) s) → K s) → vc m P tt sp ρ n0 c ⟨W n (zk ts vs (pk jP ks)), fX.take k⟩ (dQ K Q)) : X k_ m P ρ n0 (.loop c) ⟨W n jP, fX⟩ Q :=
 OR ht sp ts (ja jP ts) k ks μ Inv hn ⟨xb OQ, h0⟩ hi step
theorem eR {ts ks : List Nat} {k j : Nat} {Inv : List V → Prop} {μ : List V → Nat} {JG : List (Nat × V)} {Hs : List au} (hn : n0 ≤ k) (h : pV JG (pk jP ks) ∧ F3 k (zk ts (ja JG ts) (pk jP ks)) = true ∧ (fX.take k).all (aB k) = true ∧ Hs.take k = fX.take k) (hi : Inv (ja JG ts)) (hm : μ (ja JG ts) < j) :
  ∃ vs', Inv vs' ∧ μ vs' < j ∧ rB n0 k n (zk ts vs' (pk jP ks)) (fX.take k) ⟨W n JG, Hs⟩ := ⟨_, hi, hm, bd hn ⟨xb h.1, h.2⟩⟩
theorem SN {ts ks : List Nat} {k : Nat} {Inv : List V → Prop} {JG : List (Nat × V)} {Hs : List au} (hn : n0 ≤ k) (h : pV JG (pk jP ks) ∧ F3 k (zk ts (ja JG ts) (pk jP ks)) = true ∧ (fX.take k).all (aB k) = true ∧ Hs.take k = fX.take k) (hi : Inv (ja JG ts)) :
  ∃ vs', Inv vs' ∧ rB n0 k n (zk ts vs' (pk jP ks)) (fX.take k) ⟨W n JG, Hs⟩ := ⟨_, hi, bd hn ⟨xb h.1, h.2⟩⟩
theorem SO (ht : TT P tt) (sp : List Nat) (ts : List Nat) (k : Nat) (ks : List Nat) (Inv : List V → Prop) {x y : Code}
  (h1 : ∀ K : St → Prop, (∀ s, (∃ vs, Inv vs ∧ rB n0 k n (zk ts vs (pk jP ks)) (fX.take k) s) → K s) → vc m P tt sp ρ n0 x ⟨W n jP, fX⟩ (dQ K Q))
  (h2 : ∀ vs, Inv vs → vc m P tt sp ρ n0 y ⟨W n (zk ts vs (pk jP ks)), fX.take k⟩ Q) : X k_ m P ρ n0 (.seq x y) ⟨W n jP, fX⟩ Q := by
 refine vz ((vx ht (h1 _ fun _ h => h)).mono fun e s h => ?_)
 cases e with
 | normal =>
  obtain ⟨vs, hv, hl⟩ := h
  exact Hq (k_ := k_) hl (vx ht (h2 vs hv))
 | _ => exact h
theorem pW {c : Code} {v v' : V} (t : Nat) (hn : t < n) (h0 : lk t ws = v) (hp : er mem v = some v') (h : X k_ m P ρ n0 c ⟨W n ((t, v') :: ws), bL mem (ck v)⟩ Q) : X k_ m P ρ n0 c ⟨W n ws, mem⟩ Q := by
 have hg : (⟨W n ws, mem⟩ : St).fr[t]? = some v := by rw [← h0]; show (W n ws)[t]? = _; rw [nf, if_pos hn]
 rw [← Dl] at h
 cases m
 ·exact OF t hg hp h
 ·exact Dk t hg hp h
def M4 (_ : Tk) (P : Program) (f : FuncId) (o : Option (List V)) (st : St) (dst : Option Tmp) (Q : St → Prop) : Prop := ∃ vs' r, o = some vs' ∧ wQ P f vs' r ∧ Q (st.put dst r)
def OS (_ : Tk) (P : Program) (f : FuncId) (o : Option (List V)) (st : St) (key : Nat) (dst : Option Tmp) (Q : St → Prop) : Prop := ∃ vs' e rs, o = some vs' ∧ sS P f vs' e rs ∧ Q (sT st key dst e rs)
def OT (_ : Tk) (P : Program) (f : FuncId) (o : Option (List V)) (keys : List (Nat × Nat)) (st : St) (dst : Option Tmp) (Q : St → Prop) : Prop := ∃ vs' r, o = some vs' ∧ aP P f vs' r ∧ Q ({ st with mem := cI st.mem keys r }.put dst r)
def Ht (_ : Tk) (P : Program) (f : FuncId) (vs : List V) (k : Nat) (st : St) (dst : Option Tmp) (Q : St → Prop) : Prop := A6 P f vs k st dst Q
def Hu (P : Program) (tt : Table) (o : Oper) (uJ st : St) (Q : St → Prop) : Prop :=
 match o.op with
 | .call { callee := .value f, args := xs, .. } => bq tk (ba (uJ.eval f) (xs.toList.map uJ.eval)) fun p => M4 tk P p.1 (cj [] p.2) st o.dst Q
 | _ => bq tk (ry P tt o uJ) fun v => Q (st.put o.dst v)
def OU (P : Program) (o : Oper) (key : Nat) (st : St) (Q : St → Prop) : Prop :=
 match o.op with
 | .call { callee := .value f, args := xs, .. } => bq tk (ba (st.eval f) (xs.toList.map st.eval)) fun p => OS tk P p.1 (cj [] p.2) st key o.dst Q
 | _ => False
def zG (P : Program) (o : Oper) (st : St) (Q : St → Prop) : Prop :=
 match o.op with
 | .call { callee := .value f, args := xs, .. } => bq tk (ba (st.eval f) (xs.toList.map st.eval)) fun p => OT tk P p.1 (cj st.mem p.2) (p.2.flatMap ck) st o.dst Q
 | _ => False
def eG (P : Program) (o : Oper) (k : Nat) (st : St) (Q : St → Prop) : Prop :=
 match o.op with
 | .call { callee := .value f, args := xs, .. } => bq tk (ba (st.eval f) (xs.toList.map st.eval)) fun p => Ht tk P p.1 p.2 k st o.dst Q
 | _ => False
def Hv (P : Program) (tt : Table) (base : Nat) (o : Oper) (p : Pl) (st : St) (Q : St → Prop) : Prop := match p.cls with
 | .n => Hu P tt o { st with mem := [] } st Q
 | .r => Hu P tt o { st with mem := dc (p.mask.map (base + ·) ++ p.abs) st.mem } st Q
 | .a => isHole st.mem (base + p.key) = true ∧ nq tk (dZ tt o (base + p.key) st) (fun q => Q ({ st with mem := st.mem.set (base + p.key) q.1 }.put o.dst q.2)) (OU P o (base + p.key) st Q)
 | .w => isHole st.mem (base + p.key) = true ∧ bq tk (oA P tt (base + p.key) o st) fun q => Q ({ st with mem := q.1 }.put o.dst q.2)
 | .s => bq tk (rz tt (base + p.key) o st) fun mem => Q ({ st with mem := mem }.put o.dst (.sc undef))
 | .b => bq tk (kX tt o st) fun v => Q (st.put o.dst v)
 | .z => zG P o st Q
 | .e => eG P o p.key st Q
theorem OV {all : Array Oper} {base : Nat} {o : Oper} {p : Pl} {Q : St → Prop} (hw : cO all st.fr o = some true) (h : Hv P tt base o p st Q) : dC P tt all base o p st Q := by
 have hv : ∀ {uJ : St}, Hu P tt o uJ st Q → wR P tt o uJ st Q := fun {uJ} h => by
  unfold Hu at h
  unfold wR
  split at h
  ·rename_i f xs ts kh
   rw [kh]
   dsimp only
   rw [fM] at h
   obtain ⟨⟨g, vs⟩, h1, h2⟩ := h
   rw [h1]
   exact h2
  ·rename_i kh
   split
   ·rename_i f xs ts Wd; exact (kh f xs ts Wd).elim
   ·rw [fM] at h
    obtain ⟨v, h1, h2⟩ := h
    rw [h1]; exact h2
 unfold Hv at h
 unfold dC
 rw [hw]
 dsimp only
 split at h <;> (rename_i hc; rw [hc]; dsimp only)
 ·exact hv h
 ·exact hv h
 ·refine ⟨h.1, ?_⟩
  have h := h.2
  cases hn : dZ tt o (base + p.key) st with
  | some q => rw [hn, oM] at h; exact h
  | none =>
   rw [hn, oN] at h
   dsimp only
   unfold OU at h
   unfold nA
   split at h
   ·rename_i kh
    rw [kh]
    dsimp only
    rw [fM] at h
    obtain ⟨⟨g, vs⟩, h1, h2⟩ := h
    rw [h1]; exact h2
   ·exact h.elim
 ·refine ⟨h.1, ?_⟩
  have h := h.2
  rw [fM] at h
  obtain ⟨q, h1, h2⟩ := h
  rw [h1]; exact h2
 ·rw [fM] at h
  obtain ⟨q, h1, h2⟩ := h
  rw [h1]; exact h2
 ·rw [fM] at h
  obtain ⟨q, h1, h2⟩ := h
  rw [h1]; exact h2
 ·unfold zG at h
  unfold lK
  split at h
  ·rename_i kh
   rw [kh]
   dsimp only
   rw [fM] at h
   obtain ⟨⟨g, vs⟩, h1, h2⟩ := h
   rw [h1]; exact h2
  ·exact h.elim
 ·unfold eG at h
  unfold vm
  split at h
  ·rename_i kh
   rw [kh]
   dsimp only
   rw [fM] at h
   obtain ⟨⟨g, vs⟩, h1, h2⟩ := h
   rw [h1]; exact h2
  ·exact h.elim
def xd (P : Program) (tt : Table) (all : List Oper) (base : Nat) : List Oper → List Pl → St → (St → Prop) → Prop
 | [], _, st, K => K st
 | o :: r, p :: ps, st, K => gd all o st (fun st => Hv P tt base o p st fun st' => xd P tt all base r ps st' K) (fun st => xd P tt all base r ps (st.put o.dst (.sc undef)) K)
 | _ :: _, [], _, _ => False
theorem OW {all : List Oper} {base : Nat} {ps : List Pl} {K : St → Prop} : xd P tt all base [] ps ⟨W n ws, mem⟩ K = K ⟨W n ws, mem⟩ := ft rfl
theorem OX {all : List Oper} {base : Nat} {o : Oper} {r : List Oper} {p : Pl} {ps : List Pl} {K : St → Prop} : xd P tt all base (o :: r) (p :: ps) ⟨W n ws, mem⟩ K = gd all o ⟨W n ws, mem⟩ (fun st => Hv P tt base o p st fun st' => xd P tt all base r ps st' K) (fun st => xd P tt all base r ps (st.put o.dst (.sc undef)) K) := ft rfl
theorem rR {all : Array Oper} {base : Nat} {Q : St → Prop} : ∀ (l : List Oper) (ps : List Pl) (st : St), xd P tt all.toList base l ps st Q → runM P tt all base l ps st Q
 | [], ps, st, h => h
 | o :: r, [], st, h => h.elim
 | o :: r, p :: ps, st, h => by
  rw [runM]
  rcases M3 (show gd all.toList o st _ _ from h) with ⟨hw, h⟩ | ⟨hw, h⟩
  ·have h := OV hw h
   by_cases hz : p.cls = .z
   ·unfold dC at h ⊢
    rw [hw, hz] at h ⊢
    exact sU h fun s hs => rR r ps s hs
   ·obtain ⟨v, m, h1, h2⟩ := (dU hz).1 h
    exact (dU hz).2 ⟨v, m, h1, rR r ps _ h2⟩
  ·unfold dC
   rw [hw]
   exact rR r ps _ h
theorem bH (ht : TT P tt) (hm : P.follows .mixedOrders = true) (plan : List Pl) (j : Nat) {id : Nat} {ops : Array Oper} (bB : s8 ops plan = true) (h : xd P tt ops.toList st.mem.length ops.toList plan { st with mem := st.mem ++ List.replicate j .hole } (Q .normal)) : X k_ m P ρ n0 (.region id ops true) st Q := by
 have h := rR _ _ _ h
 cases m
 ·obtain ⟨s, h1, h2⟩ := rQ _ _ _ h
  exact ⟨.normal, s, h1, fun Q' h' => pP ht hm plan j bB (h2 _ h')⟩
 ·exact pP ht hm plan j bB h
theorem We (ht : TT P tt) (sp : List Nat) (hm : P.follows .mixedOrders = true) (plan : List Pl) (j : Nat) {id : Nat} {ops : Array Oper} {y : Code} (bB : s8 ops plan = true)
  (h : xd P tt ops.toList st.mem.length ops.toList plan { st with mem := st.mem ++ List.replicate j .hole } fun s => vc m P tt sp ρ n0 y s Q) : X k_ m P ρ n0 (.seq (.region id ops true) y) st Q :=
 vz ((bH (Q := dQ (fun s => vc m P tt sp ρ n0 y s Q) Q) ht hm plan j bB h).mono (th ht))
section
variable {k : Tk} {f : FuncId} {vs vs' : List V} {o : Option (List V)} {keys : List (Nat × Nat)} {dst : Option Tmp} {Q : St → Prop}
theorem cF {R : V → Prop} (hr : ∃ v, R v ∧ aP P f vs' v) (h : ∀ v, R v → Q ({ st with mem := cI st.mem keys v }.put dst v)) : oO k m P f vs (some vs') keys st dst Q := by
 obtain ⟨v, h1, h2⟩ := hr
 exact .inl ⟨vs', v, rfl, h2, h v h1⟩
theorem cW {R : V → List au → Prop} (hr : ∃ v m', R v m' ∧ aR P f vs st.mem v m') (h : ∀ v m', R v m' → Q ({ st with mem := m' }.put dst v)) : oO k m P f vs o keys st dst Q := by
 obtain ⟨v, m', h1, h2⟩ := hr
 exact .inr (.inl ⟨v, m', h2, h v m' h1⟩)
theorem cS {R : V → Prop} (hr : ∃ v, R v ∧ aR P f vs st.mem v st.mem) (h : ∀ v, R v → Q (st.put dst v)) : oO k m P f vs o keys st dst Q := by
 obtain ⟨v, h1, h2⟩ := hr
 exact .inr (.inl ⟨v, _, h2, h v h1⟩)
theorem cR {R : V → List au → Prop} (hr : gH P f vs st.mem R) (h : ∀ v m', R v m' → Q ({ st with mem := m' }.put dst v)) : oO k true P f vs o keys st dst Q := .inr (.inr (.inl ⟨rfl, R, hr, h⟩))
theorem cG {R : V → Prop} (hr : ∃ v, R v ∧ aP P f vs' v) (h : ∀ v, R v → Q (st.put dst v)) : M4 k P f (some vs') st dst Q := by
 obtain ⟨v, h1, h2⟩ := hr
 exact ⟨vs', v, rfl, .inl h2, h v h1⟩
theorem XG {R : V → au → Prop} {j : Nat} {B0 : au} (hv : st.mem[j]? = some B0) (h0 : B0.ay = 0) (hr : ∃ v B, R v B ∧ B.ay = 0 ∧ ∀ mem : List au, mem[j]? = some B0 → aR P f vs mem v (mem.set j B)) (h : ∀ v B, R v B → Q ({ st with mem := st.mem.set j B }.put dst v)) : Ht k P f vs j st dst Q := EP hv h0 hr h
end
def ti : Nat → List V → List (Nat × V)
 | i, v :: vs => (i, v) :: ti (i + 1) vs
 | _, [] => []
theorem Dr : ∀ (vs : List V) (i t : Nat), lk t (ti i vs) = if i ≤ t then vs.getD (t - i) .undef else .undef
 | [], i, t => by simp [ti, lk]
 | v :: vs, i, t => by
  simp only [ti,lk]
  rw [Dr vs (i + 1) t]
  by_cases h : i = t
  ·subst h; simp
  ·rw [if_neg h]
   by_cases h2 : i + 1 ≤ t
   ·rw [if_pos h2, if_pos (by omega), show t - i = (t - (i + 1)) + 1 by omega]; simp
   ·rw [if_neg h2, if_neg (by omega)]
theorem xe {fn : Func} {args : List V} {c : Code} (hn : fn.ntmps = n) (hl : args.length ≤ n) (h : X k_ m P ρ n0 c ⟨W n (ti 0 args), mem⟩ Q) : X k_ m P ρ n0 c (eh fn args mem) Q := by
 refine tg (st' := ⟨W n (ti 0 args), mem⟩) (fun E w a hs => ⟨hs.F, hs.lt, hs.mem, hs.top, hs.ay, hs.apart, ?_⟩) h
 have hr := hs.fr
 simp only [eh,hn] at hr
 refine ⟨by rw [← hr.1, jO, List.length_append, List.length_replicate]; omega, fun i v x hv hx => ?_⟩
 rw [nf] at hv
 split at hv
 ·rename_i hi
  cases hv
  rw [Dr, if_pos (Nat.zero_le _), Nat.sub_zero, List.getD_eq_getElem?_getD]
  cases ha : args[i]? with
  | none => exact .undef _ _
  | some v => exact hr.2 i v x (by rw [List.getElem?_append_left (List.getElem?_eq_some_iff.1 ha).1]; exact ha) hx
 ·cases hv
def KO (R : V → Prop) (o : Option V) : Prop := ∃ r, R r ∧ o = some r
theorem ET {R : V → Prop} {v : V} : KO R (some v) = R v := propext ⟨fun ⟨_, h, e⟩ => by cases e; exact h, fun h => ⟨v, h, rfl⟩⟩
theorem Hw {K : V → Prop} {L : List V} {k : Nat} (h : L.length = k) (hk : K (.slice L)) : KO K (if k ≤ L.length then some (.slice (L.take k)) else none) := by
 subst h
 rw [if_pos (Nat.le_refl _), List.take_length]
 exact ⟨_, hk, rfl⟩
def OY (R : V → Prop) (tt : Table) (rs : Array ResultVar) (e : Exit) (s : St) : Prop := (e = .ret ∨ e = .normal) ∧ KO R (uH tt rs s)
theorem Hx {R : V → Prop} {rs : Array ResultVar} : OY R tt rs .ret ⟨W n ws, mem⟩ = KO R (uH tt rs ⟨W n ws, mem⟩) := propext ⟨fun h => h.2, fun h => ⟨.inl rfl, h⟩⟩
def KP (R : V → List au → Prop) (k : Nat) (o : Option V) (mem : List au) : Prop := ∃ r, R r mem ∧ o = some r ∧ ai k r = true ∧ mem.all (aB k) = true
theorem EU {R : V → List au → Prop} {k : Nat} {v : V} : KP R k (some v) mem = (R v mem ∧ ai k v = true ∧ mem.all (aB k) = true) := propext ⟨fun ⟨_, h, e, h2⟩ => by cases e; exact ⟨h, h2⟩, fun ⟨h, h2⟩ => ⟨v, h, rfl, h2⟩⟩
def KQ (R : V → List au → Prop) (k : Nat) (tt : Table) (rs : Array ResultVar) (e : Exit) (s : St) : Prop := (e = .ret ∨ e = .normal) ∧ KP R k (iI tt rs s) (s.mem.take k)
theorem Hy {R : V → List au → Prop} {k : Nat} {rs : Array ResultVar} : KQ R k tt rs .ret ⟨W n ws, mem⟩ = KP R k (iI tt rs ⟨W n ws, mem⟩) (mem.take k) := propext ⟨fun h => h.2, fun h => ⟨.inl rfl, h⟩⟩
theorem EV {R : V → List au → Prop} {k : Nat} {rs : Array ResultVar} : KQ R k tt rs .normal ⟨W n ws, mem⟩ = KP R k (iI tt rs ⟨W n ws, mem⟩) (mem.take k) := propext ⟨fun h => h.2, fun h => ⟨.inr rfl, h⟩⟩
end
section
variable {P : Program} {tt : Table} {f : FuncId} {fn : Func} {body : Code} {args : List V}
theorem ek (ht : TT P tt) (sp : List Nat) (n : Nat) (rs : List ResultVar) {R : V → Prop} (hf : P.funcs[f]? = some fn) (hb : fn.body = some body)
  (du : ∀ (xs : Array Value) (w : World), (callFunc f xs).run P w = .ok (.enter f xs) w) (hn : fn.ntmps = n ∧ fn.results = rs.toArray ∧ args.length ≤ n)
  (h : ∀ K : V → Prop, (∀ v, R v → K v) → vc false P tt sp none 0 body ⟨W n (ti 0 args), []⟩ (OY K tt rs.toArray)) : ∃ r, R r ∧ aP P f args r := by
 have h := h R fun _ h => h
 obtain ⟨e, s, ⟨h1, r, hr, h2⟩, h3⟩ := xe (m := false) hn.1 hn.2.2 (vx (k_ := .b) ht h)
 exact ⟨r, hr, GF ht hf hb du (h3 _ ⟨h1, by rw [hn.2.1]; exact h2⟩)⟩
theorem QZ (ht : TT P tt) (sp : List Nat) (n : Nat) (rs : List ResultVar) {r : V} (hf : P.funcs[f]? = some fn) (hb : fn.body = some body)
  (du : ∀ (xs : Array Value) (w : World), (callFunc f xs).run P w = .ok (.enter f xs) w) (hn : fn.ntmps = n ∧ fn.results = rs.toArray ∧ args.length ≤ n)
  (h : ∀ K : V → Prop, (∀ v, v = r → K v) → vc true P tt sp none 0 body ⟨W n (ti 0 args), []⟩ (OY K tt rs.toArray)) : aP P f args r := by
 have h := h (fun v => v = r) fun _ h => h
 exact GF ht hf hb du (gA.mono (xe (m := true) hn.1 hn.2.2 (vx (k_ := .b) ht h)) fun e s ⟨h1, r', hr, h2⟩ => ⟨h1, by rw [hn.2.1, ← hr]; exact h2⟩)
theorem F4 (ht : TT P tt) (sp : List Nat) (n : Nat) (rs : List ResultVar) {R : V → List au → Prop} {mem : List au} (k : Nat) (hk : mem.length ≤ k) (hf : P.funcs[f]? = some fn) (hb : fn.body = some body)
  (du : ∀ (xs : Array Value) (w : World), (callFunc f xs).run P w = .ok (.enter f xs) w) (hn : fn.ntmps = n ∧ fn.results = rs.toArray ∧ args.length ≤ n)
  (h : ∀ K : V → List au → Prop, (∀ v m', R v m' → K v m') → vc false P tt sp none mem.length body ⟨W n (ti 0 args), mem⟩ (KQ K k tt rs.toArray)) : ∃ r m', R r m' ∧ aR P f args mem r m' := by
 have h := h R fun _ _ h => h
 obtain ⟨e, s, ⟨h1, r, hr, h2, h4⟩, h5⟩ := xe (m := false) hn.1 hn.2.2 (vx (k_ := .b) ht h)
 exact ⟨r, _, hr, GH ht k hk hf hb du (h5 _ ⟨h1, by rw [hn.2.1]; exact h2, h4.1, h4.2, rfl⟩)⟩
theorem F5 (ht : TT P tt) (sp : List Nat) (n : Nat) (rs : List ResultVar) {R : V → Prop} {mem : List au} (hf : P.funcs[f]? = some fn) (hb : fn.body = some body)
  (du : ∀ (xs : Array Value) (w : World), (callFunc f xs).run P w = .ok (.enter f xs) w) (hn : fn.ntmps = n ∧ fn.results = rs.toArray ∧ args.length ≤ n)
  (h : ∀ K : V → List au → Prop, (∀ v m', R v ∧ m' = mem → K v m') → vc false P tt sp none mem.length body ⟨W n (ti 0 args), mem⟩ (KQ K mem.length tt rs.toArray)) : ∃ r, R r ∧ aR P f args mem r mem := by
 obtain ⟨r, m', ⟨hr, rfl⟩, h⟩ := F4 ht sp n rs (R := fun r m' => R r ∧ m' = mem) mem.length (Nat.le_refl _) hf hb du hn h
 exact ⟨r, hr, h⟩
end
end Go.Eng
end

section
namespace Go.Eng
variable [aE]
open Go.RowKit (Below)

mutual
def bj (σ : Nat → Nat) : V → V
 | .undef => .undef
 | .sc v => .sc v
 | .agg cs => .agg (bZ σ cs)
 | .slice rows => .slice rows
 | .ms b v s l => .ms (σ b) v s l
 | .ptr b o => .ptr (σ b) o
 | .cY b v i o => .cY (σ b) v i o
 | .cg cs => .cg cs
 | .fU f first cap => .fU f (bZ σ first) (bZ σ cap)
 | .bt vs => .bt (bZ σ vs)
 | .ik b => .ik (σ b)
 | .mp b => .mp (σ b)
 | .gn => .gn
 | .full rows => .full rows
def bZ (σ : Nat → Nat) : List V → List V
 | [] => []
 | c :: r => bj σ c :: bZ σ r
end
theorem cK (σ : Nat → Nat) : ∀ l : List V, bZ σ l = l.map (bj σ)
 | [] => rfl
 | c :: r => by rw [bZ, cK σ r]; rfl
def cp (σ : Nat → Nat) : au → au
 | .box cs => .box (bZ σ cs)
 | .loop s p fr ps a b => .loop s p (bZ σ fr) ps a b
 | .map bf c => .map (bf.map fun e => (e.1, e.2.1, bj σ e.2.2)) c
 | .ed m since seen last => .ed (σ m) since seen last
 | B => B
theorem tj (σ : Nat → Nat) (B : au) : (cp σ B).ay = B.ay := by cases B <;> rfl
theorem aT.zd {E : Env} {v : V} {x : Value} (h : aT E v x) : ∀ {n : Nat} {σ : Nat → Nat} {E2 : Env}, ai n v = true → (∀ ad y, E.F ad = some y → E2.F ad = some y) → (∀ k v t, k < n → E.aG k v = some t → E2.aG (σ k) v = some t) → aT E2 (bj σ v) x := by
 induction h with
 | undef => intros; exact .undef _ _
 | sc => intros; exact .sc _ _
 | slice E rows a cap nj ad xf ha hX hz hF h1 hR ih =>
  intro n σ E2 hb eJ hk
  exact .slice _ _ _ _ nj ad xf ha hX hz (fun i row j c hi hj => eJ _ _ (hF i row j c hi hj)) h1 fun i row j c hi hj => (hR i row j c hi hj).mono ⟨eJ, fun _ _ _ h => by cases h⟩
 | ms E b v s l g e c a cap eV hl h0 CR =>
  intro n σ E2 hb eJ hk
  exact .ms _ _ _ _ _ g e c _ _ (hk _ _ _ (by simpa [ai] using hb) eV) hl h0 CR
 | cZ => intros; exact .cZ _ _ _ _
 | ptr E b o g e c eV =>
  intro n σ E2 hb eJ hk
  exact .ptr _ _ _ g e c (hk _ _ _ (by simpa [ai] using hb) eV)
 | ik E b l e c eV =>
  intro n σ E2 hb eJ hk
  exact .ik _ _ l e c (hk _ _ _ (by simpa [ai] using hb) eV)
 | mp E b l e c eV =>
  intro n σ E2 hb eJ hk
  exact .mp _ _ l e c (hk _ _ _ (by simpa [ai] using hb) eV)
 | cY E b v i o g e c eV =>
  intro n σ E2 hb eJ hk
  exact .cY _ _ _ _ _ g e c (hk _ _ _ (by simpa [ai] using hb) eV)
 | cg E cs ad xf hF hR ih =>
  intro n σ E2 hb eJ hk
  exact .cg _ _ _ xf (fun j c hj => eJ _ _ (hF j c hj)) fun j c hj => (hR j c hj).mono ⟨eJ, fun _ _ _ h => by cases h⟩
 | gn => intros; exact .gn _
 | full E rows a h ih =>
  intro n σ E2 hb eJ hk
  exact .full _ _ _ (ih (n := n) (σ := σ) rfl eJ hk)
 | agg E cs xs hl hh ih =>
  intro n σ E2 hb eJ hk
  rw [ai, cu] at hb
  rw [bj, cK]
  refine .agg _ _ _ (by rw [List.length_map]; exact hl) fun i c x hc hx => ?_
  rw [List.getElem?_map, Option.map_eq_some_iff] at hc
  obtain ⟨c0, Bo, rfl⟩ := hc
  exact ih i c0 x Bo hx (List.all_eq_true.1 hb c0 (List.mem_of_getElem? Bo)) eJ hk
 | bt E cs xs hl hh ih =>
  intro n σ E2 hb eJ hk
  rw [ai, cu] at hb
  rw [bj, cK]
  refine .bt _ _ _ (by rw [List.length_map]; exact hl) fun i c x hc hx => ?_
  rw [List.getElem?_map, Option.map_eq_some_iff] at hc
  obtain ⟨c0, Bo, rfl⟩ := hc
  exact ih i c0 x Bo hx (List.all_eq_true.1 hb c0 (List.mem_of_getElem? Bo)) eJ hk
 | fU E f first cap xs ys hx hy h1 h2 Nz NA =>
  intro n σ E2 hb eJ hk
  rw [ai, cu, cu, Bool.and_eq_true] at hb
  rw [bj, cK, cK]
  refine .fU _ _ _ _ _ _ (by rw [List.length_map]; exact hx) (by rw [List.length_map]; exact hy) (fun i c x hc hx => ?_) fun i c x hc hx => ?_
  ·rw [List.getElem?_map, Option.map_eq_some_iff] at hc
   obtain ⟨c0, Bo, rfl⟩ := hc
   exact Nz i c0 x Bo hx (List.all_eq_true.1 hb.1 c0 (List.mem_of_getElem? Bo)) eJ hk
  ·rw [List.getElem?_map, Option.map_eq_some_iff] at hc
   obtain ⟨c0, Bo, rfl⟩ := hc
   exact NA i c0 x Bo hx (List.all_eq_true.1 hb.2 c0 (List.mem_of_getElem? Bo)) eJ hk
theorem aT.qV {E : Env} {u : V} {x : Value} (h : aT E u x) : ∀ {v : V} {n : Nat} {σ : Nat → Nat} {E2 : Env}, u = bj σ v → ai n v = true → (∀ ad y, E.F ad = some y → E2.F ad = some y) → (∀ k v t, k < n → E.aG (σ k) v = some t → E2.aG k v = some t) → aT E2 v x := by
 induction h with
 | undef =>
  intro v n σ E2 he hb eJ hk
  cases v <;> simp only [bj,reduceCtorEq] at he
  exact .undef _ _
 | sc =>
  intro v n σ E2 he hb eJ hk
  cases v <;> simp only [bj,reduceCtorEq,V.sc.injEq] at he
  subst he; exact .sc _ _
 | slice E rows a cap nj ad xf ha hX hz hF h1 hR ih =>
  intro v n σ E2 he hb eJ hk
  cases v <;> simp only [bj,reduceCtorEq,V.slice.injEq] at he
  subst he
  exact .slice _ _ _ _ nj ad xf ha hX hz (fun i row j c hi hj => eJ _ _ (hF i row j c hi hj)) h1 fun i row j c hi hj => (hR i row j c hi hj).mono ⟨eJ, fun _ _ _ h => by cases h⟩
 | ms E b v s l g e c a cap eV hl h0 CR =>
  intro v n σ E2 he hb eJ hk
  cases v <;> simp only [bj,reduceCtorEq,V.ms.injEq] at he
  obtain ⟨rfl, rfl, rfl, rfl⟩ := he
  exact .ms _ _ _ _ _ g e c _ _ (hk _ _ _ (by simpa [ai] using hb) eV) hl h0 CR
 | cZ =>
  intro v n σ E2 he hb eJ hk
  cases v <;> simp only [bj,reduceCtorEq,V.ms.injEq] at he
  obtain ⟨rfl, rfl, rfl, rfl⟩ := he
  exact .cZ _ _ _ _
 | ptr E b o g e c eV =>
  intro v n σ E2 he hb eJ hk
  cases v <;> simp only [bj,reduceCtorEq,V.ptr.injEq] at he
  obtain ⟨rfl, rfl⟩ := he
  exact .ptr _ _ _ g e c (hk _ _ _ (by simpa [ai] using hb) eV)
 | ik E b l e c eV =>
  intro v n σ E2 he hb eJ hk
  cases v <;> simp only [bj,reduceCtorEq,V.ik.injEq] at he
  subst he
  exact .ik _ _ l e c (hk _ _ _ (by simpa [ai] using hb) eV)
 | mp E b l e c eV =>
  intro v n σ E2 he hb eJ hk
  cases v <;> simp only [bj,reduceCtorEq,V.mp.injEq] at he
  subst he
  exact .mp _ _ l e c (hk _ _ _ (by simpa [ai] using hb) eV)
 | cY E b v i o g e c eV =>
  intro v n σ E2 he hb eJ hk
  cases v <;> simp only [bj,reduceCtorEq,V.cY.injEq] at he
  obtain ⟨rfl, rfl, rfl, rfl⟩ := he
  exact .cY _ _ _ _ _ g e c (hk _ _ _ (by simpa [ai] using hb) eV)
 | cg E cs ad xf hF hR ih =>
  intro v n σ E2 he hb eJ hk
  cases v <;> simp only [bj,reduceCtorEq,V.cg.injEq] at he
  subst he
  exact .cg _ _ _ xf (fun j c hj => eJ _ _ (hF j c hj)) fun j c hj => (hR j c hj).mono ⟨eJ, fun _ _ _ h => by cases h⟩
 | full E rows a h ih =>
  intro v n σ E2 he hb eJ hk
  cases v <;> simp only [bj,reduceCtorEq,V.full.injEq] at he
  subst he
  exact .full _ _ _ (ih (v := .slice rows) (n := n) (σ := σ) rfl rfl eJ hk)
 | gn =>
  intro v n σ E2 he hb eJ hk
  cases v <;> simp only [bj,reduceCtorEq] at he
  exact .gn _
 | agg E cs xs hl hh ih =>
  intro v n σ E2 he hb eJ hk
  cases v <;> simp only [bj,reduceCtorEq,V.agg.injEq] at he
  subst he
  rw [ai, cu] at hb
  rw [cK, List.length_map] at hl
  refine .agg _ _ _ hl fun i c x hc hx => ?_
  exact ih i (bj σ c) x (by rw [cK, List.getElem?_map, hc]; rfl) hx rfl (List.all_eq_true.1 hb c (List.mem_of_getElem? hc)) eJ hk
 | bt E cs xs hl hh ih =>
  intro v n σ E2 he hb eJ hk
  cases v <;> simp only [bj,reduceCtorEq,V.bt.injEq] at he
  subst he
  rw [ai, cu] at hb
  rw [cK, List.length_map] at hl
  refine .bt _ _ _ hl fun i c x hc hx => ?_
  exact ih i (bj σ c) x (by rw [cK, List.getElem?_map, hc]; rfl) hx rfl (List.all_eq_true.1 hb c (List.mem_of_getElem? hc)) eJ hk
 | fU E f first cap xs ys hx hy h1 h2 Nz NA =>
  intro v n σ E2 he hb eJ hk
  cases v <;> simp only [bj,reduceCtorEq,V.fU.injEq] at he
  obtain ⟨rfl, rfl, rfl⟩ := he
  rw [ai, cu, cu, Bool.and_eq_true] at hb
  rw [cK, List.length_map] at hx hy
  refine .fU _ _ _ _ _ _ hx hy (fun i c x hc hx => ?_) fun i c x hc hx => ?_
  ·exact Nz i (bj σ c) x (by rw [cK, List.getElem?_map, hc]; rfl) hx rfl (List.all_eq_true.1 hb.1 c (List.mem_of_getElem? hc)) eJ hk
  ·exact NA i (bj σ c) x (by rw [cK, List.getElem?_map, hc]; rfl) hx rfl (List.all_eq_true.1 hb.2 c (List.mem_of_getElem? hc)) eJ hk
theorem aO.zd {E E2 : Env} {vs : List V} {xs : List Value} {n : Nat} {σ : Nat → Nat} (h : aO E vs xs) (hb : vs.all (ai n) = true) (hF : ∀ ad y, E.F ad = some y → E2.F ad = some y) (hk : ∀ k v t, k < n → E.aG k v = some t → E2.aG (σ k) v = some t) : aO E2 (bZ σ vs) xs := by
 rw [cK]
 refine ⟨by rw [List.length_map]; exact h.1, fun i v x hv hx => ?_⟩
 rw [List.getElem?_map, Option.map_eq_some_iff] at hv
 obtain ⟨c, hc, rfl⟩ := hv
 exact (h.2 i c x hc hx).zd (List.all_eq_true.1 hb c (List.mem_of_getElem? hc)) hF hk
theorem aO.qV {E E2 : Env} {vs : List V} {xs : List Value} {n : Nat} {σ : Nat → Nat} (h : aO E (bZ σ vs) xs) (hb : vs.all (ai n) = true) (hF : ∀ ad y, E.F ad = some y → E2.F ad = some y) (hk : ∀ k v t, k < n → E.aG (σ k) v = some t → E2.aG k v = some t) : aO E2 vs xs := by
 rw [cK] at h
 refine ⟨by have := h.1; rwa [List.length_map] at this, fun i v x hv hx => ?_⟩
 exact (h.2 i (bj σ v) x (by rw [List.getElem?_map, hv]; rfl) hx).qV rfl (List.all_eq_true.1 hb v (List.mem_of_getElem? hv)) hF hk
theorem iA.zd {E E2 : Env} {w w2 : World} {k : Nat} {B : au} {n : Nat} {σ : Nat → Nat} (h : iA E w k B) (gf : k < n) (hb : aB n B = true) (hF : E2.F = E.F) (hk : ∀ k v, k < n → E2.aG (σ k) v = E.aG k v) (hw : w2.heap = w.heap) : iA E2 w2 (σ k) (cp σ B) := by
 have AZ : ∀ ad y, E.F ad = some y → E2.F ad = some y := fun ad y h => by rw [hF]; exact h
 have fK : ∀ k v t, k < n → E.aG k v = some t → E2.aG (σ k) v = some t := fun k v t hn h => by rw [hk k v hn]; exact h
 have hp : E2.pure = E.pure := Env.Ef hF rfl
 cases B with
 | hole => exact fun v => by rw [hk k v gf]; exact h v
 | dead => trivial
 | box cs =>
  obtain ⟨g, T, xs, h1, h2, h3, h4⟩ := h
  exact ⟨g, T, xs, fK _ _ _ gf h1, by rw [hw]; exact h2, h3.zd hb AZ fK, fun o => by rw [hF]; exact h4 o⟩
 | rows v e rs =>
  rcases h with ⟨h1, h2⟩ | ⟨g, T, xs, c, h1, h2, h3, h4, h5, h6⟩
  ·exact .inl ⟨h1, by rw [hk k v gf]; exact h2⟩
  ·exact .inr ⟨g, T, xs, c, fK _ _ _ gf h1, by rw [hw]; exact h2, h3, h4, by rw [hp]; exact h5, fun o => by rw [hF]; exact h6 o⟩
 | mO v e rs =>
  rcases h with ⟨h1, h2⟩ | ⟨g, c, h1, h2, h3⟩
  ·exact .inl ⟨h1, by rw [hk k v gf]; exact h2⟩
  ·exact .inr ⟨g, c, fK _ _ _ gf h1, h2, by rw [hp, hF]; exact h3⟩
 | loop s jr fr params assign body =>
  obtain ⟨l, fn, tmps, db, h1, h2, h3, h4⟩ := h
  exact ⟨l, fn, tmps, db, fK _ _ _ gf h1, by rw [hw]; exact h2, h3.zd hb AZ fK, fun o => by rw [hF]; exact h4 o⟩
 | map bf clock =>
  obtain ⟨g, es, h1, h2, h3, h4⟩ := h
  refine ⟨g, es, fK _ _ _ gf h1, by rw [hw]; exact h2, ⟨by rw [List.length_map]; exact h3.1, fun i kb e dr he => ?_⟩, fun o => by rw [hF]; exact h4 o⟩
  rw [List.getElem?_map, Option.map_eq_some_iff] at dr
  obtain ⟨q, hq, rfl⟩ := dr
  obtain ⟨p1, p2, p3⟩ := h3.2 i q e hq he
  exact ⟨p1, p2, p3.zd (List.all_eq_true.1 hb q (List.mem_of_getElem? hq)) AZ fK⟩
 | ed m since seen last =>
  obtain ⟨g, gm, e, c, h1, h2, h3, h4⟩ := h
  exact ⟨g, gm, e, c, fK _ _ _ gf h1, fK _ _ _ (by simpa [aB] using hb) h2, by rw [hw]; exact h3, fun o => by rw [hF]; exact h4 o⟩
 | gZ s pos =>
  obtain ⟨g, h1, h2, h3⟩ := h
  exact ⟨g, fK _ _ _ gf h1, by rw [hw]; exact h2, fun o => by rw [hF]; exact h3 o⟩
 | iz =>
  obtain ⟨g, h1, h2, h3⟩ := h
  exact ⟨g, fK _ _ _ gf h1, by rw [hw]; exact h2, fun o => by rw [hF]; exact h3 o⟩
theorem iA.qV {E E2 : Env} {w : World} {k : Nat} {B : au} {n : Nat} {σ : Nat → Nat} (h : iA E w (σ k) (cp σ B)) (gf : k < n) (hb : aB n B = true) (hF : E2.F = E.F) (hk : ∀ k v, k < n → E2.aG k v = E.aG (σ k) v) : iA E2 w k B := by
 have AZ : ∀ ad y, E.F ad = some y → E2.F ad = some y := fun ad y h => by rw [hF]; exact h
 have fK : ∀ k v t, k < n → E.aG (σ k) v = some t → E2.aG k v = some t := fun k v t hn h => by rw [hk k v hn]; exact h
 have hp : E2.pure = E.pure := Env.Ef hF rfl
 cases B with
 | hole => exact fun v => by rw [hk k v gf]; exact h v
 | dead => trivial
 | box cs =>
  obtain ⟨g, T, xs, h1, h2, h3, h4⟩ := h
  exact ⟨g, T, xs, fK _ _ _ gf h1, h2, h3.qV hb AZ fK, fun o => by rw [hF]; exact h4 o⟩
 | rows v e rs =>
  rcases h with ⟨h1, h2⟩ | ⟨g, T, xs, c, h1, h2, h3, h4, h5, h6⟩
  ·exact .inl ⟨h1, by rw [hk k v gf]; exact h2⟩
  ·exact .inr ⟨g, T, xs, c, fK _ _ _ gf h1, h2, h3, h4, by rw [hp]; exact h5, fun o => by rw [hF]; exact h6 o⟩
 | mO v e rs =>
  rcases h with ⟨h1, h2⟩ | ⟨g, c, h1, h2, h3⟩
  ·exact .inl ⟨h1, by rw [hk k v gf]; exact h2⟩
  ·exact .inr ⟨g, c, fK _ _ _ gf h1, h2, by rw [hp, hF]; exact h3⟩
 | loop s jr fr params assign body =>
  obtain ⟨l, fn, tmps, db, h1, h2, h3, h4⟩ := h
  exact ⟨l, fn, tmps, db, fK _ _ _ gf h1, h2, h3.qV hb AZ fK, fun o => by rw [hF]; exact h4 o⟩
 | map bf clock =>
  obtain ⟨g, es, h1, h2, h3, h4⟩ := h
  refine ⟨g, es, fK _ _ _ gf h1, h2, ⟨by have := h3.1; rwa [List.length_map] at this, fun i q e hq he => ?_⟩, fun o => by rw [hF]; exact h4 o⟩
  obtain ⟨p1, p2, p3⟩ := h3.2 i _ e (by rw [List.getElem?_map, hq]; rfl) he
  exact ⟨p1, p2, p3.qV rfl (List.all_eq_true.1 hb q (List.mem_of_getElem? hq)) AZ fK⟩
 | ed m since seen last =>
  obtain ⟨g, gm, e, c, h1, h2, h3, h4⟩ := h
  exact ⟨g, gm, e, c, fK _ _ _ gf h1, fK _ _ _ (by simpa [aB] using hb) h2, h3, fun o => by rw [hF]; exact h4 o⟩
 | gZ s pos =>
  obtain ⟨g, h1, h2, h3⟩ := h
  exact ⟨g, fK _ _ _ gf h1, h2, fun o => by rw [hF]; exact h3 o⟩
 | iz =>
  obtain ⟨g, h1, h2, h3⟩ := h
  exact ⟨g, fK _ _ _ gf h1, h2, fun o => by rw [hF]; exact h3 o⟩

def gh (σ : Nat → Nat) : Nat → List au → List au → List au
 | _, [], M => M
 | i, B :: r, M => gh σ (i + 1) r (M.set (σ i) (cp σ B))
def mQ (σ : Nat → Nat) (n : Nat) (aA M : List au) : List au := gh σ 0 (aA.take n) M ++ (aA.drop n).map (cp σ)
theorem dW (σ : Nat → Nat) : ∀ (l : List au) (i : Nat) (M : List au), (gh σ i l M).length = M.length
 | [], _, _ => rfl
 | B :: r, i, M => by rw [gh, dW σ r]; simp
theorem pX (σ : Nat → Nat) : ∀ (l : List au) (i : Nat) (M : List au) (k : Nat), (∀ j, i ≤ j → j < i + l.length → σ j ≠ k) → (gh σ i l M)[k]? = M[k]?
 | [], _, _, _, _ => rfl
 | B :: r, i, M, k, h => by
  rw [gh, pX σ r (i + 1) _ k fun j h1 h2 => h j (by omega) (by simp; omega), List.getElem?_set_ne (h i (Nat.le_refl _) (by simp))]
theorem vA (σ : Nat → Nat) : ∀ (l : List au) (i : Nat) (M : List au) (j : Nat) (B : au), (∀ a b, i ≤ a → a < i + l.length → i ≤ b → b < i + l.length → σ a = σ b → a = b) → i ≤ j → l[j - i]? = some B → σ j < M.length → (gh σ i l M)[σ j]? = some (cp σ B)
 | [], _, _, _, _, _, _, h, _ => by simp at h
 | C :: r, i, M, j, B, EW, sv, h, aF => by
  rw [gh]
  by_cases hj : j = i
  ·subst hj
   rw [Nat.sub_self] at h; cases h
   rw [pX σ r (j + 1) _ (σ j) fun a h1 h2 e => by have := EW a j (by omega) (by simp; omega) (Nat.le_refl _) (by simp) e; omega]
   rw [List.getElem?_set]; simp [aF]
  ·refine vA σ r (i + 1) _ j B (fun a b h1 h2 h3 h4 => EW a b (by omega) (by simp; omega) (by omega) (by simp; omega)) (by omega) ?_ (by simpa using aF)
   rw [show j - i = (j - (i + 1)) + 1 by omega] at h
   simpa using h
theorem aR.zd {P : Program} {f : FuncId} {vs : List V} {r : V} {mem aA : List au} (h : aR P f vs mem r aA) (M : List au) (σ : Nat → Nat) (n : Nat) (hn : n = mem.length) (hv : vs.all (ai n) = true) (hm : mem.all (aB n) = true) (hr : ai aA.length r = true)
  (G1 : aA.all (aB aA.length) = true) (hlen : n ≤ aA.length) (hσ : ∀ i B, mem[i]? = some B → M[σ i]? = some (cp σ B)) (EW : ∀ i j, i < n → j < n → σ i = σ j → i = j) (iD : ∀ j, n ≤ j → σ j = M.length + (j - n)) :
  aR P f (bZ σ vs) M (bj σ r) (mQ σ n aA M) := by
 subst hn
 have hold : ∀ i, i < mem.length → σ i < M.length := fun i hi => (List.getElem?_eq_some_iff.1 (hσ i _ (List.getElem?_eq_getElem hi))).1
 have hL : (mQ σ mem.length aA M).length = M.length + (aA.length - mem.length) := by
  unfold mQ
  rw [List.length_append, dW, List.length_map, List.length_drop]
 have Kn : ∀ i B, aA[i]? = some B → (mQ σ mem.length aA M)[σ i]? = some (cp σ B) := fun i B hi => by
  unfold mQ
  rcases Nat.lt_or_ge i mem.length with aF | dg
  ·rw [List.getElem?_append_left (by rw [dW]; exact hold i aF)]
   refine vA σ _ 0 M i B (fun a b _ h2 _ h4 he => ?_) (Nat.zero_le _) (by rw [Nat.sub_zero, List.getElem?_take_of_lt aF]; exact hi) (hold i aF)
   rw [List.length_take] at h2 h4
   exact EW a b (by omega) (by omega) he
  ·rw [iD i dg, List.getElem?_append_right (by rw [dW]; omega), dW, Nat.add_sub_cancel_left, List.getElem?_map, List.getElem?_drop, show mem.length + (i - mem.length) = i by omega, hi]; rfl
 have bD : ∀ k, k < M.length → (∀ i, i < mem.length → σ i ≠ k) → (mQ σ mem.length aA M)[k]? = M[k]? := fun k hk h => by
  unfold mQ
  rw [List.getElem?_append_left (by rw [dW]; exact hk)]
  exact pX σ _ 0 M k fun j _ h2 => h j (by rw [List.length_take] at h2; omega)
 generalize mQ σ mem.length aA M = M' at hL Kn bD
 refine ⟨h.1, fun E w xs hs hx => ?_⟩
 have JH : ∀ k v, k < mem.length → (⟨E.F, fun k v => if k < mem.length then E.aG (σ k) v else none, E.gl⟩ : Env).aG k v = E.aG (σ k) v := fun k v hk => if_pos hk
 have OZ : ∀ k v, mem.length ≤ k → (⟨E.F, fun k v => if k < mem.length then E.aG (σ k) v else none, E.gl⟩ : Env).aG k v = none := fun k v hk => if_neg (by omega)
 have BB : (⟨E.F, fun k v => if k < mem.length then E.aG (σ k) v else none, E.gl⟩ : Env).F = E.F := rfl
 generalize (⟨E.F, fun k v => if k < mem.length then E.aG (σ k) v else none, E.gl⟩ : Env) = E0 at JH OZ BB
 have hY : ∀ k v t, E0.aG k v = some t → k < mem.length ∧ E.aG (σ k) v = some t := fun k v t h => by
  rcases Nat.lt_or_ge k mem.length with hk | hk
  ·exact ⟨hk, by rw [← JH k v hk]; exact h⟩
  ·rw [OZ k v hk] at h; cases h
 have AH : aV E0 w { tmps := #[], defers := [] } { fr := [], mem := mem } :=
  ⟨fun ad y hy => hs.F ad y (by rw [← BB]; exact hy), fun k v g e c hk => hs.lt _ _ _ _ _ (hY _ _ _ hk).2,
   fun k B hk => (hs.mem _ _ (hσ k B hk)).qV (List.getElem?_eq_some_iff.1 hk).1 (List.all_eq_true.1 hm B (List.mem_of_getElem? hk)) BB JH,
   fun k hk v => OZ k v hk, fun k B hk v hv => by
    rw [JH k v (List.getElem?_eq_some_iff.1 hk).1]
    exact hs.ay _ _ (hσ k B hk) v (by rw [tj]; exact hv),
   fun k k' v v' g e c e' c' h1 h2 => by
    obtain ⟨p1, p2⟩ := hY _ _ _ h1
    obtain ⟨q1, q2⟩ := hY _ _ _ h2
    exact EW k k' p1 q1 (hs.apart _ _ _ _ _ _ _ _ _ p2 q2), .nil _⟩
 have Az : aO E0 vs xs.toList := hx.qV hv (fun ad y hy => by rw [BB]; exact hy) fun k v t hk h => by rw [JH k v hk]; exact h
 refine (h.2 E0 w xs AH Az).mono ?_
 rintro en w1 ⟨E1, x, rfl, dm, lr, um⟩
 have Hz : ∀ i v, i < mem.length → (⟨E1.F, fun K v => match (List.range mem.length).find? (fun i => σ i == K) with | some i => E1.aG i v | none => if K < M.length then E.aG K v else E1.aG (K - M.length + mem.length) v, E1.gl⟩ : Env).aG (σ i) v = E1.aG i v := fun i v hi => by
  show (match (List.range mem.length).find? (fun j => σ j == σ i) with | some i => E1.aG i v | none => _) = _
  have : (List.range mem.length).find? (fun j => σ j == σ i) = some i := by
   cases hf : (List.range mem.length).find? (fun j => σ j == σ i) with
   | none =>
    have := List.find?_eq_none.1 hf i (List.mem_range.2 hi)
    simp at this
   | some j =>
    have h1 := List.find?_some hf
    have h2 := List.mem_range.1 (List.mem_of_find?_eq_some hf)
    rw [EW j i h2 hi (by simpa using h1)]
  rw [this]
 have dH : ∀ K, (∀ i, i < mem.length → σ i ≠ K) → (List.range mem.length).find? (fun i => σ i == K) = none := fun K h => List.find?_eq_none.2 fun i hi => by
  have := h i (List.mem_range.1 hi)
  simpa using this
 have hB : ∀ K v, K < M.length → (∀ i, i < mem.length → σ i ≠ K) → (⟨E1.F, fun K v => match (List.range mem.length).find? (fun i => σ i == K) with | some i => E1.aG i v | none => if K < M.length then E.aG K v else E1.aG (K - M.length + mem.length) v, E1.gl⟩ : Env).aG K v = E.aG K v := fun K v hK h => by
  show (match (List.range mem.length).find? (fun j => σ j == K) with | some i => E1.aG i v | none => _) = _
  rw [dH K h]
  exact if_pos hK
 have J3 : ∀ i v, mem.length ≤ i → (⟨E1.F, fun K v => match (List.range mem.length).find? (fun i => σ i == K) with | some i => E1.aG i v | none => if K < M.length then E.aG K v else E1.aG (K - M.length + mem.length) v, E1.gl⟩ : Env).aG (σ i) v = E1.aG i v := fun i v hi => by
  show (match (List.range mem.length).find? (fun j => σ j == σ i) with | some i => E1.aG i v | none => _) = _
  have eS := iD i hi
  rw [dH (σ i) fun j hj e => by have := hold j hj; omega]
  show (if σ i < M.length then E.aG (σ i) v else E1.aG (σ i - M.length + mem.length) v) = _
  rw [if_neg (by omega), eS, show M.length + (i - mem.length) - M.length + mem.length = i by omega]
 have BC : (⟨E1.F, fun K v => match (List.range mem.length).find? (fun i => σ i == K) with | some i => E1.aG i v | none => if K < M.length then E.aG K v else E1.aG (K - M.length + mem.length) v, E1.gl⟩ : Env).F = E1.F := rfl
 generalize (⟨E1.F, fun K v => match (List.range mem.length).find? (fun i => σ i == K) with | some i => E1.aG i v | none => if K < M.length then E.aG K v else E1.aG (K - M.length + mem.length) v, E1.gl⟩ : Env) = E2 at Hz hB J3 BC
 have hA : ∀ i v, E2.aG (σ i) v = E1.aG i v := fun i v => by
  rcases Nat.lt_or_ge i mem.length with hi | hi
  ·exact Hz i v hi
  ·exact J3 i v hi
 have cl : ∀ K, (∃ i, K = σ i) ∨ (K < M.length ∧ ∀ i, i < mem.length → σ i ≠ K) := fun K => by
  rcases Nat.lt_or_ge K M.length with hK | hK
  ·by_cases h : ∃ i, i < mem.length ∧ σ i = K
   ·obtain ⟨i, -, hi⟩ := h
    exact .inl ⟨i, hi.symm⟩
   ·exact .inr ⟨hK, fun i hi e => h ⟨i, hi, e⟩⟩
  ·exact .inl ⟨K - M.length + mem.length, by rw [iD _ (by omega)]; omega⟩
 have sG : ∀ K v g e c, (∀ i, i < mem.length → σ i ≠ K) → E.aG K v = some (g, e, c) → ∀ k0 v0 e0 c0, E0.aG k0 v0 ≠ some (g, e0, c0) := fun K v g e c hK hb k0 v0 e0 c0 h => by
  obtain ⟨h1, h2⟩ := hY _ _ _ h
  exact hK k0 h1 (hs.apart _ _ _ _ _ _ _ _ _ h2 hb)
 have hle : E.le E2 := ⟨fun ad y hy => by rw [BC]; exact dm.le.F _ _ (by rw [BB]; exact hy), fun K v t hk => by
  rcases cl K with ⟨i, rfl⟩ | ⟨hK, oQ⟩
  ·rw [hA i v]
   rcases Nat.lt_or_ge i mem.length with hi | hi
   ·exact dm.le.aG _ _ _ (by rw [JH i v hi]; exact hk)
   ·rw [hs.top (σ i) (by rw [iD i hi]; dsimp only; omega) v] at hk; cases hk
  ·rw [hB K v hK oQ]; exact hk⟩
 refine ⟨E2, x, rfl, ⟨hle, fun K v g e c hk => ?_, fun ad y hy => ?_, dm.os, dm.tape, dm.output, dm.size, fun b hb bD => dm.heap b hb fun k v e c h => bD _ _ _ _ (hY _ _ _ h).2⟩,
  ⟨fun ad y hy => lr.F _ _ (by rw [← BC]; exact hy), fun K v g e c hk => ?_, fun K B hk => ?_, fun K hk v => ?_, fun K B hk v hv => ?_, fun K K' v v' g e1 c1 e2 c2 h5 h6 => ?_, .nil _⟩, um.zd hr (fun ad y hy => by rw [BC]; exact hy) fun k v t _ hk => by rw [hA]; exact hk⟩
 ·rcases cl K with ⟨i, rfl⟩ | ⟨hK, oQ⟩
  ·rw [hA i v] at hk
   rcases dm.aG _ _ _ _ _ hk with ⟨k0, v0, e0, c0, h⟩ | h
   ·exact .inl ⟨_, _, _, _, (hY _ _ _ h).2⟩
   ·exact .inr h
  ·rw [hB K v hK oQ] at hk; exact .inl ⟨_, _, _, _, hk⟩
 ·rw [BC] at hy
  rcases dm.F _ _ hy with h | h | ⟨k0, v0, e0, c0, h⟩
  ·exact .inl (by rw [← BB]; exact h)
  ·exact .inr (.inl h)
  ·exact .inr (.inr ⟨_, _, _, _, (hY _ _ _ h).2⟩)
 ·rcases cl K with ⟨i, rfl⟩ | ⟨hK, oQ⟩
  ·rw [hA i v] at hk; exact lr.lt _ _ _ _ _ hk
  ·rw [hB K v hK oQ] at hk; exact Nat.lt_of_lt_of_le (hs.lt _ _ _ _ _ hk) dm.size
 ·rcases cl K with ⟨i, rfl⟩ | ⟨hK, oQ⟩
  ·have hi : i < aA.length := by
    have h1 := (List.getElem?_eq_some_iff.1 hk).1
    rcases Nat.lt_or_ge i mem.length with h2 | h2
    ·omega
    ·have h3 := iD i h2
     dsimp only at h1; omega
   have eQ := Kn i _ (List.getElem?_eq_getElem hi)
   rw [hk] at eQ
   cases eQ
   exact (lr.mem i _ (List.getElem?_eq_getElem hi)).zd hi (List.all_eq_true.1 G1 _ (List.getElem_mem hi)) BC (fun k v _ => hA k v) rfl
  ·dsimp only at hk
   rw [bD K hK oQ] at hk
   refine (hs.mem K B hk).mono hle (fun v hv => by rw [hB K v hK oQ]; exact hv) (fun g e c hb => dm.heap g (hs.lt _ _ _ _ _ hb) fun k0 v0 e0 c0 h => sG _ _ _ _ _ oQ hb _ _ _ _ h) fun g e c o hb hn => ?_
   rw [BC]
   cases hy : E1.F ⟨g, o, none⟩ with
   | none => rfl
   | some y =>
    rcases dm.F _ _ hy with h | h | ⟨k0, v0, e0, c0, h⟩
    ·rw [BB, hn] at h; cases h
    ·have := hs.lt _ _ _ _ _ hb; simp at h; omega
    ·exact absurd h (sG _ _ _ _ _ oQ hb _ _ _ _)
 ·rcases cl K with ⟨i, rfl⟩ | ⟨hK, oQ⟩
  ·rw [hA i v]
   refine lr.top i ?_ v
   dsimp only at hk ⊢
   rcases Nat.lt_or_ge i mem.length with h2 | h2
   ·have := hold i h2; omega
   ·have h3 := iD i h2; omega
  ·dsimp only at hk; omega
 ·rcases cl K with ⟨i, rfl⟩ | ⟨hK, oQ⟩
  ·rw [hA i v]
   have hi : i < aA.length := by
    have h1 := (List.getElem?_eq_some_iff.1 hk).1
    rcases Nat.lt_or_ge i mem.length with h2 | h2
    ·omega
    ·have h3 := iD i h2
     dsimp only at h1; omega
   have eQ := Kn i _ (List.getElem?_eq_getElem hi)
   rw [hk] at eQ
   cases eQ
   rw [tj] at hv
   exact lr.ay i _ (List.getElem?_eq_getElem hi) v hv
  ·rw [hB K v hK oQ]
   dsimp only at hk
   rw [bD K hK oQ] at hk
   exact hs.ay K B hk v hv
 ·have mixed : ∀ i K' v v' g e1 c1 e2 c2, (∀ i, i < mem.length → σ i ≠ K') → E1.aG i v = some (g, e1, c1) → E.aG K' v' = some (g, e2, c2) → False := fun i K' v v' g e1 c1 e2 c2 Uu h h' => by
   rcases dm.aG _ _ _ _ _ h with ⟨k0, v0, e0, c0, h0⟩ | h0
   ·exact absurd h0 (sG _ _ _ _ _ Uu h' _ _ _ _)
   ·have := hs.lt _ _ _ _ _ h'; omega
  rcases cl K with ⟨i, rfl⟩ | ⟨hK, O0⟩ <;> rcases cl K' with ⟨j, rfl⟩ | ⟨Uu, BD⟩
  ·rw [hA] at h5 h6
   rw [lr.apart _ _ _ _ _ _ _ _ _ h5 h6]
  ·rw [hA] at h5; rw [hB K' _ Uu BD] at h6
   exact (mixed _ _ _ _ _ _ _ _ _ BD h5 h6).elim
  ·rw [hB K _ hK O0] at h5; rw [hA] at h6
   exact (mixed _ _ _ _ _ _ _ _ _ O0 h6 h5).elim
  ·rw [hB K _ hK O0] at h5; rw [hB K' _ Uu BD] at h6
   exact hs.apart _ _ _ _ _ _ _ _ _ h5 h6
theorem EX (σ : Nat → Nat) : ∀ {v : V}, ai 0 v = true → bj σ v = v := fun {v} => by
 exact V.rec (motive_1 := fun v => ai 0 v = true → bj σ v = v) (motive_2 := fun l => dh 0 l = true → bZ σ l = l)
  (fun _ => rfl) (fun _ _ => rfl) (fun cs ih h => by rw [bj, ih (by simpa [ai] using h)]) (fun _ _ _ => rfl) (fun b v s l h => by simp [ai] at h) (fun b o h => by simp [ai] at h)
  (fun b v i o h => by simp [ai] at h) (fun _ _ _ => rfl) (fun f a c i1 i2 h => by simp only [ai,Bool.and_eq_true] at h; rw [bj, i1 h.1, i2 h.2]) (fun vs ih h => by rw [bj, ih (by simpa [ai] using h)])
  (fun b h => by simp [ai] at h) (fun b h => by simp [ai] at h) (fun _ => rfl) (fun _ _ _ => rfl) (fun _ => rfl) (fun c r i1 i2 h => by simp only [dh,Bool.and_eq_true] at h; rw [bZ, i1 h.1, i2 h.2]) v
end Go.Eng
end

section
namespace Go.Eng
variable [aE]
def swp (A B k : Nat) : Nat := if k = A then B else if k = B then A else k
theorem rS (A B k : Nat) : swp A B (swp A B k) = k := by
 unfold swp
 by_cases h1 : k = A
 ·subst h1
  by_cases h2 : B = k
  ·simp [h2]
  ·simp [h2]
 ·by_cases h2 : k = B
  ·subst h2; simp [h1]
  ·simp [h1, h2]
def qW (A B : Nat) (mem : List au) : List au := ((mem.set A (mem.getD B .dead)).set B (mem.getD A .dead)).map (cp (swp A B))
section
variable {P : Program} {ρ : Option Nat} {n0 : Nat} {c : Code} {st : St} {Q : Exit → St → Prop}
theorem xg (A B : Nat) (mem : List au) : (qW A B mem).length = mem.length := by simp [qW]
theorem vB {A B : Nat} {mem : List au} (hA : A < mem.length) (hB : B < mem.length) (k : Nat) : (qW A B mem)[k]? = (mem[swp A B k]?).map (cp (swp A B)) := by
 unfold qW
 rw [List.getElem?_map]
 congr 1
 rw [List.getElem?_set, List.getElem?_set, List.length_set]
 unfold swp
 by_cases h1 : B = k
 ·subst h1
  rw [if_pos rfl, if_pos hB]
  by_cases h2 : B = A
  ·subst h2; rw [if_pos rfl, List.getD_eq_getElem?_getD, List.getElem?_eq_getElem hB]; rfl
  ·rw [if_neg h2, if_pos rfl, List.getD_eq_getElem?_getD, List.getElem?_eq_getElem hA]; rfl
 ·rw [if_neg h1]
  by_cases h2 : A = k
  ·subst h2; rw [if_pos rfl, if_pos hA, if_pos rfl, List.getD_eq_getElem?_getD, List.getElem?_eq_getElem hB]; rfl
  ·rw [if_neg h2, if_neg (fun e => h2 e.symm), if_neg (fun e => h1 e.symm)]
theorem ze (A B : Nat) (Hz : n0 ≤ A) (vf : n0 ≤ B) (hA : A < st.mem.length) (hB : B < st.mem.length) (hf : st.fr.all (ai st.mem.length) = true) (hm : st.mem.all (aB st.mem.length) = true)
  (h : gA P ρ n0 c { fr := bZ (swp A B) st.fr, mem := qW A B st.mem } Q) : gA P ρ n0 c st Q := fun E0 w0 JF E w a he hs uG => by
 obtain ⟨E', hE⟩ : ∃ E' : Env, E' = { F := E.F, aG := fun k v => E.aG (swp A B k) v, gl := E.gl } := ⟨_, rfl⟩
 have eF : E'.F = E.F := by rw [hE]
 have eb : ∀ k v, E'.aG k v = E.aG (swp A B k) v := fun k v => by rw [hE]
 have Uc : ∀ k v, E'.aG (swp A B k) v = E.aG k v := fun k v => by rw [eb, rS]
 have aF : ∀ k, k < st.mem.length → swp A B k < st.mem.length := fun k hk => by unfold swp; split <;> (try split) <;> assumption
 have dg : ∀ k, st.mem.length ≤ k → swp A B k = k := fun k hk => by unfold swp; rw [if_neg (by omega), if_neg (by omega)]
 have dm : dk E0 w0 E' w := by
  refine ⟨⟨fun ad x hx => by rw [eF]; exact he.le.F _ _ hx, fun k v t hk => ?_⟩, fun k v g e c hk => he.aG _ _ _ _ _ (by rw [← eb]; exact hk), fun ad x hx => he.F _ _ (by rw [← eF]; exact hx), he.os, he.tape, he.output, he.size, he.heap⟩
  rcases Nat.lt_or_ge k n0 with MQ | MQ
  ·rw [eb, show swp A B k = k by unfold swp; rw [if_neg (by omega), if_neg (by omega)]]; exact he.le.aG _ _ _ hk
  ·rw [JF k MQ] at hk; cases hk
 refine h E0 w0 JF E' w a dm ⟨fun ad x hx => hs.F _ _ (by rw [← eF]; exact hx), fun k v g e c hk => hs.lt _ _ _ _ _ (by rw [← eb]; exact hk), fun k Bk hk => ?_, fun k hk v => ?_, fun k Bk hk v hv => ?_, fun k k' v v' g e c e' c' q1 q2 => ?_, ?_⟩ ?_
 ·dsimp only at hk
  rw [vB hA hB, Option.map_eq_some_iff] at hk
  obtain ⟨B0, HA, rfl⟩ := hk
  have h1 := (hs.mem _ _ HA).zd (σ := swp A B) (E2 := E') (w2 := w) (n := st.mem.length) (List.getElem?_eq_some_iff.1 HA).1 (List.all_eq_true.1 hm _ (List.mem_of_getElem? HA)) eF (fun k v _ => Uc k v) rfl
  rwa [rS] at h1
 ·dsimp only at hk
  rw [xg] at hk
  rw [eb, dg k hk]
  exact hs.top k hk v
 ·dsimp only at hk
  rw [vB hA hB, Option.map_eq_some_iff] at hk
  obtain ⟨B0, HA, rfl⟩ := hk
  rw [eb]
  rw [tj] at hv
  exact hs.ay _ _ HA v hv
 ·rw [eb] at q1 q2
  have := hs.apart _ _ _ _ _ _ _ _ _ q1 q2
  rw [← rS A B k, this, rS]
 ·exact hs.fr.zd hf (fun ad y hy => by rw [eF]; exact hy) fun k v t _ hk => by rw [Uc]; exact hk
 ·obtain ⟨rs, h1, h2, h3⟩ := uG
  exact ⟨rs, h1, h2, fun r hr => ⟨(h3 r hr).1, (h3 r hr).2.1, fun k v e c hk => (h3 r hr).2.2 _ _ _ _ (by rw [← eb]; exact hk)⟩⟩
theorem KR (A B : Nat) (Hz : n0 ≤ A) (vf : n0 ≤ B) (hA : A < st.mem.length) (hB : B < st.mem.length) (hf : st.fr.all (ai st.mem.length) = true) (hm : st.mem.all (aB st.mem.length) = true)
  (h : Ex P ρ n0 c { fr := bZ (swp A B) st.fr, mem := qW A B st.mem } Q) : Ex P ρ n0 c st Q := by
 obtain ⟨e, s2, hq, h2⟩ := h
 exact ⟨e, s2, hq, fun Q' h' => ze A B Hz vf hA hB hf hm (h2 Q' h')⟩
def tl (bf : List (Value × Nat × V)) (vs : List V) : List (Value × Nat × V) := List.zipWith (fun e v => (e.1, e.2.1, v)) bf vs
theorem tm (mem : List au) (keys : List (Nat × Nat)) (k : Nat) {bf : List (Value × Nat × V)} {cl : Nat} (h : mem[k]? = some (.map bf cl)) : (bL mem keys)[k]? = some (.map bf cl) := by
 unfold bL
 induction keys generalizing mem with
 | nil => exact h
 | cons q r ih =>
  rw [List.foldl_cons]
  refine ih _ ?_
  rw [yy, h]; rfl
theorem aV.O1 {E : Env} {w : World} {a : Act} (hs : aV E w a st) {k : Nat} {bf : List (Value × Nat × V)} {cl : Nat} {vs' : List V} (hk : st.mem[k]? = some (.map bf cl)) (hp : cj st.mem (bf.map fun e => e.2.2) = some vs') :
  ∃ E', aV E' w a { st with mem := (bL st.mem ((bf.map fun e => e.2.2).flatMap ck)).set k (.map (tl bf vs') cl) } ∧ dk E w E' w := by
 obtain ⟨E', h1, h2, h3⟩ := hs.freeze hp
 refine ⟨E', ⟨h1.F, h1.lt, fun k' B hB => ?_, fun k' eQ => h1.top k' (by simpa using eQ), fun k' B hB v hv => ?_, h1.apart, h1.fr⟩, h2⟩
 ·dsimp only at hB
  rw [List.getElem?_set] at hB
  split at hB
  ·rename_i he; subst he
   split at hB
   ·cases hB
    obtain ⟨g, es, q1, q2, q3, q4⟩ := hs.mem k _ hk
    obtain ⟨g', es', p1, p2, p3, p4⟩ := h1.mem k _ (tm _ _ _ hk)
    rw [h2.le.aG _ _ _ q1] at p1
    cases p1
    rw [q2] at p2
    cases p2
    refine ⟨g, es, h2.le.aG _ _ _ q1, q2, ?_, p4⟩
    have hR : aO E (bf.map fun e => e.2.2) (es.toList.map fun e => e.val) := by
     refine ⟨by simpa using q3.1, fun i v x hv hx => ?_⟩
     rw [List.getElem?_map, Option.map_eq_some_iff] at hv hx
     obtain ⟨e1, Zc, rfl⟩ := hv
     obtain ⟨e2, Uv, rfl⟩ := hx
     exact (q3.2 i _ _ Zc Uv).2.2
    have XH := h3 _ hR
    have hl : vs'.length = bf.length := by have h5 := XH.1; have h6 := hR.1; simp only [List.length_map] at h5 h6; omega
    refine ⟨by unfold tl; rw [List.length_zipWith, hl, Nat.min_self]; exact q3.1, fun i kb e dr he => ?_⟩
    unfold tl at dr
    rw [List.getElem?_zipWith] at dr
    cases h7 : bf[i]? with
    | none => rw [h7] at dr; simp at dr
    | some e1 =>
     cases h8 : vs'[i]? with
     | none => rw [h7, h8] at dr; simp at dr
     | some v1 =>
      rw [h7, h8] at dr
      simp at dr
      subst dr
      obtain ⟨r1, r2, r3⟩ := q3.2 i _ _ h7 he
      exact ⟨r1, r2, XH.2 i _ _ h8 (by rw [List.getElem?_map, he]; rfl)⟩
   ·cases hB
  ·exact h1.mem k' B hB
 ·dsimp only at hB
  rw [List.getElem?_set] at hB
  split at hB
  ·rename_i he; subst he
   split at hB
   ·cases hB
    exact h1.ay k _ (tm _ _ _ hk) v hv
   ·cases hB
  ·exact h1.ay k' B hB v hv
end
end Go.Eng
end

section
namespace Go.Eng
variable [aE]
theorem BE (mem : List au) (keys : List (Nat × Nat)) (k : Nat) {cs : List V} (h : mem[k]? = some (.box cs)) : (bL mem keys)[k]? = some (.box cs) := by
 rw [kp, h]
 have : ∀ (ks : List (Nat × Nat)), jk ks k (some (.box cs)) = some (.box cs) := fun ks => by
  unfold jk; rfl
 exact this keys
section
variable {P : Program} {ρ : Option Nat} {n0 : Nat} {Q : Exit → St → Prop} {c : Code} {st : St}
theorem aV.HB {E : Env} {w : World} {a : Act} (hs : aV E w a st) {k : Nat} {cs vs' : List V} (hk : st.mem[k]? = some (.box cs)) (hp : cj st.mem cs = some vs') :
  ∃ E', aV E' w a { st with mem := (bL st.mem (cs.flatMap ck)).set k (.box vs') } ∧ dk E w E' w := by
 obtain ⟨E', h1, h2, h3⟩ := hs.freeze hp
 have hb := BE st.mem (cs.flatMap ck) k hk
 refine ⟨E', ⟨h1.F, h1.lt, fun k' B hB => ?_, fun k' eQ => h1.top k' (by simpa using eQ), fun k' B hB v hv => ?_, h1.apart, h1.fr⟩, h2⟩
 ·dsimp only at hB
  rw [List.getElem?_set] at hB
  split at hB
  ·rename_i he; subst he
   split at hB
   ·cases hB
    obtain ⟨g, T, xs, q1, q2, q3, q4⟩ := hs.mem k _ hk
    obtain ⟨g', T', n5, p1, p2, p3, p4⟩ := h1.mem k _ hb
    rw [h2.le.aG _ _ _ q1] at p1
    cases p1
    rw [q2] at p2
    cases p2
    exact ⟨g, T, xs, h2.le.aG _ _ _ q1, q2, h3 _ q3, p4⟩
   ·cases hB
  ·exact h1.mem k' B hB
 ·dsimp only at hB
  rw [List.getElem?_set] at hB
  split at hB
  ·rename_i he; subst he
   split at hB
   ·cases hB
    exact h1.ay k _ hb v hv
   ·cases hB
  ·exact h1.ay k' B hB v hv
end
end Go.Eng
end

section
namespace Go.Eng
variable [aE]
section
variable {k_ : Tk} {m : Bool} {P : Program} {ρ : Option Nat} {n0 : Nat} {st : St} {Q : Exit → St → Prop} {n : Nat} {ws : List (Nat × V)} {mem : List au} {c : Code}
theorem SP {st' : St} (hw : ∀ E w a, aV E w a st → ∃ E', aV E' w a st' ∧ dk E w E' w) (h : X k_ m P ρ n0 c st' Q) : X k_ m P ρ n0 c st Q := by
 have key : ∀ Q' : Exit → St → Prop, gA P ρ n0 c st' Q' → gA P ρ n0 c st Q' := fun Q' h E0 w0 JF E w a he hs hm => by
  obtain ⟨E', h3, h4⟩ := hw E w a hs
  exact h E0 w0 JF E' w a (he.trans h4) h3 (hm.F1 h4)
 cases m
 ·obtain ⟨e, s2, hq, h2⟩ := h
  exact ⟨e, s2, hq, fun Q' h' => key Q' (h2 Q' h')⟩
 ·exact key Q h
theorem Wf {t : Nat} {v : V} (hn : t < n) (h : lk t ws = v) : (W n ws)[t]? = some v := by rw [nf, if_pos hn, h]
theorem EY (t v e : Nat) (hn : t < n) (h0 : lk t ws = .sc (.slice none 0 0)) (h : X k_ m P ρ n0 c ⟨W n ((t, .ms mem.length v 0 0) :: ws), mem ++ [.rows v e []]⟩ Q) : X k_ m P ρ n0 c ⟨W n ws, mem⟩ Q := by
 rw [← Dl] at h
 exact tg (st' := ⟨(W n ws).set t (.ms mem.length v 0 0), mem ++ [.rows v e []]⟩) (fun E w a hs => (hs.yU (i := t) mem.length v (Wf hn h0)).lO v e) h
theorem HC (v e : Nat) (h : X k_ m P ρ n0 c ⟨W n ws, mem ++ [.rows v e []]⟩ Q) : X k_ m P ρ n0 c ⟨W n ws, mem⟩ Q :=
 tg (st' := ⟨W n ws, mem ++ [.rows v e []]⟩) (fun E w a hs => hs.lO v e) h
theorem rT {cs : List V} (k j v e : Nat) (hk : mem[k]? = some (.box cs)) (hj : cs[j]? = some (.sc (.slice none 0 0))) (h : X k_ m P ρ n0 c ⟨W n ws, mem.set k (.box (cs.set j (.ms mem.length v 0 0))) ++ [.rows v e []]⟩ Q) : X k_ m P ρ n0 c ⟨W n ws, mem⟩ Q :=
 tg (st' := ⟨W n ws, mem.set k (.box (cs.set j (.ms mem.length v 0 0))) ++ [.rows v e []]⟩) (fun E w a hs => (hs.OG hk hj mem.length v).lO v e) h
theorem iq {k : Nat} {cs vs' : List V} (hk : mem[k]? = some (.box cs)) (hp : cj mem cs = some vs') (h : X k_ m P ρ n0 c ⟨W n ws, (bL mem (cs.flatMap ck)).set k (.box vs')⟩ Q) : X k_ m P ρ n0 c ⟨W n ws, mem⟩ Q :=
 SP (fun _ _ _ hs => aV.HB hs hk hp) h
theorem Ds {k : Nat} {bf : List (Value × Nat × V)} {cl : Nat} {vs' : List V} (hk : mem[k]? = some (.map bf cl)) (hp : cj mem (bf.map fun e => e.2.2) = some vs')
  (h : X k_ m P ρ n0 c ⟨W n ws, (bL mem ((bf.map fun e => e.2.2).flatMap ck)).set k (.map (tl bf vs') cl)⟩ Q) : X k_ m P ρ n0 c ⟨W n ws, mem⟩ Q := SP (fun _ _ _ hs => hs.O1 hk hp) h
theorem zf {t : Nat} {v : V} (h : lk t ws = v) : (W n ws).set t v = W n ws := by
 apply List.ext_getElem?
 intro i
 rw [List.getElem?_set, nf, jO]
 by_cases e : t = i
 ·subst e
  rw [if_pos rfl]
  by_cases h2 : t < n
  ·rw [if_pos h2, if_pos h2, h]
  ·rw [if_neg h2, if_neg h2]
 ·rw [if_neg e]
theorem HD {f : Nat → Nat} (i : Nat) : ∀ ws : List (Nat × V), lk i (ws.map fun p => (p.1, bj f p.2)) = bj f (lk i ws)
 | [] => rfl
 | p :: r => by
  simp only [List.map_cons,lk]
  split
  ·rfl
  ·exact HD i r
theorem Wg {f : Nat → Nat} : bZ f (W n ws) = W n (ws.map fun p => (p.1, bj f p.2)) := by
 rw [cK]
 unfold W
 rw [List.map_map]
 exact List.map_congr_left fun i _ => (HD i ws).symm
theorem M5 {v' : V} (t : Nat) (h0 : lk t ws = v') (h : X k_ m P ρ n0 c ⟨W n ((t, v') :: ws), mem⟩ Q) : X k_ m P ρ n0 c ⟨W n ws, mem⟩ Q := by
 rw [← Dl, zf h0] at h
 exact h
theorem SQ (A B : Nat) (Hz : n0 ≤ A) (vf : n0 ≤ B) (hA : A < mem.length) (hB : B < mem.length) (hf : F3 mem.length ws = true) (hm : mem.all (aB mem.length) = true)
  (h : X k_ m P ρ n0 c ⟨W n (ws.map fun p => (p.1, bj (swp A B) p.2)), qW A B mem⟩ Q) : X k_ m P ρ n0 c ⟨W n ws, mem⟩ Q := by
 rw [← Wg] at h
 cases m
 ·exact KR A B Hz vf hA hB (Hp hf) hm h
 ·exact ze A B Hz vf hA hB (Hp hf) hm h
end
end Go.Eng
end

section
namespace Go.Proofs.YtnfeacnbgbggfaaGreatDoor
open Go.Eng
attribute [go_sem] dt bx cO fR St.eval St.put dj fH wu List.all_cons List.all_nil Bool.and_true Bool.true_and Bool.and_self Value.oneCell' if_true if_false aX List.length_cons List.length_nil Nat.lt_irrefl List.nil_append List.cons_append List.append_nil List.set_cons_zero List.set_cons_succ List.getD_cons_zero List.getD_cons_succ pE dA jd lz mi List.map_nil List.map_cons Nat.zero_mul we JT fieldAt kS dq List.drop_zero List.drop_succ_cons List.take_succ_cons List.take_zero List.getElem?_cons_zero List.getElem?_cons_succ List.head?_cons Nat.zero_add Nat.add_zero Nat.zero_le Nat.le_refl true_and and_true and_self dn lA rowsOf ct Bool.false_eq_true rq N2 N3 N4 N5 N6 N7 N8 N9 Oa Ob Oc Od Gg Kd Ke Kf Kg Int.natCast_nonneg iB indexAt sk CT wk pw Int.toNat_natCast V.cells ya sh NC ba Option.map_some Option.map_none Option.bind_some List.size_toArray List.getElem?_toArray beq_self_eq_true decide_true decide_false Bool.not_true Bool.not_false jv lG kq gU cA jH JZ jb rowOf eH ne_eq not_true_eq_false not_false_eq_true gV gI ow V.sc.injEq Value.bool.injEq oF List.flatMap_cons List.flatMap_nil ck eg R5 R6 Kp Kq Kr CS Y2 Y3 Y4 Y5 Vv Vw Si Vx Vy Vz VB VE VG VH VI VJ VK VL VM VN VO Sj Sk Sl Sm List.toList_toArray List.append_eq Gp Gq AY My kX cP lK vm qH jj cj er c8 bz runM dC wR ry dZ oA rz isHole dc yJ au.ay nA OH nf Dl jO lk pV bY cQ pk zk ja bL sE List.foldl_cons List.foldl_nil ti ai dh aB OJ OK OL OM KK w7 VY Hu OU zG eG Hv OW OX sT Hr SH SI SJ SK SL VZ V0 V1 V2 V3 V4 V5 V6 V7 V8 V9 Wa Wb Wc Hx ET Hy EV EU uH iI sO yE MG List.replicate List.take_length
attribute [go_sem ↓] BA ES OO ER ON OD OE KN Dp
end Go.Proofs.YtnfeacnbgbggfaaGreatDoor
end

section
namespace Go.Eng
variable [aE]
open Go.RowKit (Below)
theorem aV.below {E : Env} {w w' : World} {a : Act} {st : St} (hs : aV E w a st) (hb : Below w.heap.size w w') : aV E w' a st ∧ dk E w E w' := by
 refine ⟨⟨fun ad y hy => ?_, fun k v g e c h => Nat.lt_of_lt_of_le (hs.lt _ _ _ _ _ h) hb.size, fun k B hk => ?_, hs.top, hs.ay, hs.apart, hs.fr⟩,
  ⟨E.le_refl, fun k v g e c h => .inl ⟨k, v, e, c, h⟩, fun _ _ h => .inl h, hb.os, hb.tape, hb.output, hb.size, fun b aF _ => hb.block b aF⟩⟩
 ·rw [hb.cell (World.block_lt_of_cell? w ad (hs.F ad y hy))]; exact hs.F ad y hy
 ·exact (hs.mem k B hk).mono E.le_refl (fun _ h => h) (fun g e c h => hb.block _ (hs.lt _ _ _ _ _ h)) fun _ _ _ _ _ h => h
end Go.Eng
end

section
namespace Go.Eng
variable [aE]
theorem aV.Wh {E : Env} {w w' : World} {a : Act} {st : St} (hs : aV E w a st) {b v e g c : Nat} {rs rs' : List V} {T : TypeId} {ys : Array Value} (hm : st.mem[b]? = some (.rows v e rs)) (hb : E.aG b v = some (g, e, c)) (hF : ∀ o, E.F ⟨g, o, none⟩ = none)
  (Zd : w'.os = w.os) (SR : w'.tape = w.tape) (Wi : w'.output = w.output) (kd : w.heap.size ≤ w'.heap.size) (hh : w'.heap[g]? = some (.cells ys T (0, 0))) (sr : ∀ k, k < w.heap.size → k ≠ g → w'.heap[k]? = w.heap[k]?)
  (zg : ys.size = c * e) (O2 : rs'.length ≤ c) (Ze : fF E.pure e rs' (fun o => ys[o]?)) : aV E w' a { st with mem := st.mem.set b (.rows v e rs') } ∧ dk E w E w' := by
 have aF := (List.getElem?_eq_some_iff.1 hm).1
 have Zf : ∀ ad x, E.F ad = some x → ad.block ≠ g := fun ad x h e => by
  have hc := hs.F ad x h
  obtain ⟨aG, off, spot⟩ := ad
  obtain rfl : aG = g := e
  have rK : spot = none := by
   unfold World.cell? at hc
   split at hc
   ·dsimp only at hc
    cases spot with
    | none => rfl
    | some s => simp at hc
   ·cases hc
  subst rK
  rw [hF] at h; cases h
 refine ⟨⟨fun ad x h => ?_, fun k v g e c h => Nat.lt_of_lt_of_le (hs.lt _ _ _ _ _ h) kd, fun k B hk => ?_, fun k hk => hs.top k (by simpa using hk), fun k B hk v hv => ?_, hs.apart, hs.fr⟩,
  ⟨E.le_refl, fun k v g e c h => .inl ⟨k, v, e, c, h⟩, fun _ _ h => .inl h, Zd, SR, Wi, kd, fun k hk bD => sr k hk fun e => by subst e; exact bD _ _ _ _ hb⟩⟩
 ·have h1 := hs.F ad x h
  have h2 := World.block_lt_of_cell? w ad h1
  rw [← h1]
  unfold World.cell?
  rw [sr _ h2 (Zf ad x h)]
 ·rw [List.getElem?_set] at hk
  split at hk
  ·rename_i he; subst he
   cases hk
   exact .inr ⟨g, T, ys, c, hb, hh, zg, O2, Ze, hF⟩
  ·rename_i bD
   refine (hs.mem k B hk).mono E.le_refl (fun _ h => h) (fun g' e' c' h => sr g' (hs.lt _ _ _ _ _ h) fun e => ?_) fun _ _ _ _ _ h => h
   subst e
   exact bD (hs.apart _ _ _ _ _ _ _ _ _ hb h)
 ·rw [List.getElem?_set] at hk
  split at hk
  ·rename_i he; subst he
   cases hk
   exact hs.ay b _ hm v hv
  ·exact hs.ay k B hk v hv
theorem aP.EZ {P : Program} {f : FuncId} {args : List V} {m : List au} {b v : Nat} (h : aP P f (.slice [] :: args) (.bt [])) (hp : ∀ E xs, aO E args xs → aO E.pure args xs) : aR P f (.ms b v 0 0 :: args) m (.sc (.tuple #[])) m := by
 refine ⟨h.1, fun E w xs hs hx => ?_⟩
 obtain ⟨x, ys, na, hr, vC⟩ := hx.of_cons
 have um : aT E.pure (.slice []) x := by
  cases hr with
  | ms _ _ _ _ _ g e c a cap hb hl h0 hc => exact .slice _ [] a cap 0 ⟨0, 0, none⟩ (fun _ _ => undef) (fun h => absurd rfl h) (Nat.zero_le _) (fun i row h => by simp at h) (fun i row j c h => by simp at h) (fun i row j c h => by simp at h) (fun i row j c h => by simp at h)
  | cZ => exact .slice _ [] none 0 0 ⟨0, 0, none⟩ (fun _ _ => undef) (fun h => absurd rfl h) (Nat.le_refl _) (fun i row h => by simp at h) (fun i row j c h => by simp at h) (fun i row j c h => by simp at h) (fun i row j c h => by simp at h)
 have FV : aO E.pure (.slice [] :: args) xs.toList := by rw [na]; exact aO.cons um (hp E _ vC)
 refine (h.2 E.F E.gl w xs hs.F FV).mono ?_
 rintro e w' ⟨F', y, rfl, -, -, -, ⟨J6, hy⟩, BF⟩
 have hy : y = .tuple #[] := by
  cases hy with
  | bt _ _ zs hl hh => exact congrArg Value.tuple (Array.eq_empty_of_size_eq_zero (xs := zs) (by simpa using hl.symm))
 obtain ⟨h1, h2⟩ := hs.below BF
 exact ⟨E, y, rfl, h2, h1, by rw [hy]; exact .sc _ _⟩
end Go.Eng
end
