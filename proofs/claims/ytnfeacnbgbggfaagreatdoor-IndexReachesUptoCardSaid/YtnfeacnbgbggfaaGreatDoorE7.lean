/-
  THE ENGINE, TM: the walk without a settled outcome: calls of which only a relation is told, and append behind a block's beginning.
  THE ENGINE, VA: one operation, for both forms of walk (m = true: Tri, m = false: Ex); what is stuck keeps what follows out of sight.
  THE ENGINE, FZ: a slot whose rows nobody will write any more.
  THE ENGINE, VC: sparse frames; code carried out as far as the data settle it; both forms of walk (m = true: Tri, m = false: Ex).
  THE ENGINE, VD: what stands between the stretches of VC: loops, ways that meet, regions that draw, functions' beginnings and ends.
  THE ENGINE, RN: a contract at a small store holds at every store that has the small one's blocks under other keys.
  THE ENGINE, SW: two blocks of a call's own change keys; the values of a map are frozen.
  THE ENGINE, FC: the rows that a struct's cells name are frozen.
  THE ENGINE, VF: what may be made of a state without a step: rows frozen, nil slices taken for empty rows, keys changed.
  THE ENGINE, GS: the facts for carrying code out, in the library's own simp set.
  THE ENGINE, AD: a block that a call has made is taken into the store.
  THE ENGINE, RP: live rows whose cells a call of the library's has turned.
-/
import Derived.Test.YtnfeacnbgbggfaaGreatDoorE6
set_option linter.all false
section
namespace Go.Eng
variable [aG]
section
variable {P : Program} {tt : Table} {ρ : Option Nat} {n0 : Nat} {st : St} {Q : Exit → St → Prop}
def Kh (P : Program) (f : FuncId) (vs : List V) (st : St) (dst : Option Tmp) (Q : St → Prop) : Prop :=
 ∃ R, gH P f vs st.mem R ∧ ∀ v m', R v m' → Q ({ st with mem := m' }.put dst v)
def Oh (P : Program) (f : FuncId) (vs : List V) (st : St) (dst : Option Tmp) (Q : St → Prop) : Prop := ME P f vs st dst Q ∨ Kh P f vs st dst Q
def Oi (P : Program) (tt : Table) (key : Nat) (o : Oper) (st : St) (Q : St → Prop) : Prop :=
 match o.op with
 | .call c => match c.callee with
  | .value f => match bn (st.eval f) (c.args.toList.map st.eval) with
   | some (g, vs) => Oh P g vs st o.dst Q
   | none => False
  | .builtin .append => match c.args.toList.map st.eval with
   | [s, x] => match dv tt st.mem c.argTypes.toList s x with
    | some (size, ob, rows) => Q ({ st with mem := (cy st.mem key size rows ob).1 }.put o.dst (cy st.mem key size rows ob).2)
    | none => qz tt st c.argTypes.toList s x o.dst Q
   | _ => False
  | _ => GO P tt key o st Q
 | _ => GO P tt key o st Q
def GU (P : Program) (tt : Table) (gl : List (Nat × Nat)) (all : Array Oper) : List Oper → St → (St → Prop) → Prop
 | [], st, Q => Q st
 | o :: r, st, Q => match wy gl all st.fr o with
  | some true => Oi P tt st.mem.length o st fun st' => GU P tt gl all r st' Q
  | some false => GU P tt gl all r (st.put o.dst (.sc undef)) Q
  | none => False
theorem AZ {ts : List TypeId} {s x : V} {dst : Option Tmp} {A B : St → Prop} (h : qz tt st ts s x dst A) (pg : ∀ s, A s → B s) : qz tt st ts s x dst B := by
 unfold qz at h ⊢
 split at h
 ·exact fun o rs' h1 h2 => pg _ (h o rs' h1 h2)
 ·exact h
attribute [irreducible] GU

end
end Go.Eng
end

section
namespace Go.Eng
variable [aG]
inductive Tk where
 | a
 | b
def tk : Tk := .b
theorem Sx {α : Type} {a b : α} (h : a = b) : a = b := h
theorem fq {a b : Prop} (h : a = b) : a = b := h
def bq {α : Type} (_ : Tk) (o : Option α) (K : α → Prop) : Prop := match o with
 | some v => K v
 | none => False
theorem Oj {α : Type} {k : Tk} {o : Option α} {K : α → Prop} : bq k o K = match o with | some v => K v | none => False := fq rfl
theorem fL {α : Type} {k : Tk} {o : Option α} {K : α → Prop} : bq k o K ↔ ∃ v, o = some v ∧ K v := by
 cases o with
 | none => exact ⟨fun h => h.elim, fun ⟨_, h, _⟩ => by cases h⟩
 | some v => exact ⟨fun h => ⟨v, rfl, h⟩, fun ⟨_, e, h⟩ => by cases e; exact h⟩
def nq {α : Type} (_ : Tk) (o : Option α) (A : α → Prop) (B : Prop) : Prop := match o with
 | some v => A v
 | none => B
theorem Ol {α : Type} {k : Tk} {o : Option α} {A : α → Prop} {B : Prop} : nq k o A B = match o with | some v => A v | none => B := fq rfl
theorem oQ {α : Type} {k : Tk} {v : α} {A : α → Prop} {B : Prop} : nq k (some v) A B = A v := rfl
theorem oR {α : Type} {k : Tk} {A : α → Prop} {B : Prop} : nq k none A B = B := rfl
section
variable {m : Bool} {P : Program} {tt : Table} {st : St} {Q : St → Prop}
def oS (_ : Tk) (m : Bool) (P : Program) (f : FuncId) (vs : List V) (o : Option (List V)) (keys : List (Nat × Nat)) (st : St) (dst : Option Tmp) (Q : St → Prop) : Prop :=
 (∃ vs' r, o = some vs' ∧ aP P f vs' r ∧ Q ({ st with mem := cP st.mem keys r }.put dst r)) ∨
 (∃ r aF, aU P f vs st.mem r aF ∧ Q ({ st with mem := aF }.put dst r)) ∨
 (m = true ∧ ∃ R, gH P f vs st.mem R ∧ ∀ r aF, R r aF → Q ({ st with mem := aF }.put dst r)) ∨
 (∃ r, sr P f vs r ∧ Q (st.put dst r))
def Sy (_ : Tk) (m : Bool) (P : Program) (k : Nat) (vs : List V) (st : St) (dst : Option Tmp) (Q : St → Prop) : Prop :=
 (∃ b aF, QB P k vs st.mem b aF ∧ Q ({ st with mem := aF }.put dst (.sc (.bool b)))) ∨
 (m = true ∧ ∃ R, D1 P k vs st.mem R ∧ ∀ b aF, R b aF → Q ({ st with mem := aF }.put dst (.sc (.bool b))))
def Sz (_ : Tk) (m : Bool) (r : Option (Nat × Nat × Nat × Nat × List V × List V)) (st : St) (dst : Option Tmp) (Q : St → Prop) : Prop := m = true ∧ match r with
 | some (size, b, v, l, rs, xs) => ∀ (o : Nat) (rs' : List V), rs'.drop o = rs ++ xs → o + (l + xs.length) = rs'.length → Q ({ st with mem := st.mem.set b (.rows (v + 1) size rs') }.put dst (.ms b (v + 1) o (l + xs.length)))
 | none => False
theorem V1 {k : Tk} {st : St} {size b v l : Nat} {rs xs : List V} {dst : Option Tmp} {Q : St → Prop} (h : ∀ (o : Nat) (rs' : List V), rs'.drop o = rs ++ xs → o + (l + xs.length) = rs'.length → Q ({ st with mem := st.mem.set b (.rows (v + 1) size rs') }.put dst (.ms b (v + 1) o (l + xs.length)))) : Sz k true (some (size, b, v, l, rs, xs)) st dst Q := ⟨rfl, h⟩
def XO (_ : Tk) (m : Bool) (st : St) (dst : Option Tmp) (it : V) (str : Bool) (Q : St → Prop) : Prop := m = true ∧ oy st dst it str Q
def V2 (_ : Tk) (m : Bool) (n : Nat) (op : BinOp) (st : St) (dst : Option Tmp) (Q : St → Prop) : Prop :=
 m = true ∧ ∀ b : Bool, (n ≠ 0 → b = false) → Q (st.put dst (.sc (.bool (kn op b))))
def Ki (tt : Table) (T : TypeId) (len : Nat) (parts : List (Nat × Operand)) (st : St) (key : Nat) : Option (List ay) :=
 match po tt T len parts st.eval with
 | some (size, rs) => some (bg st.mem key (.rows 0 size rs))
 | none => match ny tt T len parts st with
  | some (size, rs) => some (bg (bY st.mem (fg st.eval parts)) key (.rows 0 size rs))
  | none => none
def wB (tt : Table) (mem : List ay) (T : TypeId) (p x : V) : Option (List ay) :=
 match gR tt mem T p x with
 | some m => some m
 | none => v8 tt mem T p x
def iG (m : Bool) (P : Program) (tt : Table) (key : Nat) (o : Oper) (st : St) (Q : St → Prop) : Prop :=
 match o.op with
 | .alloc T => bq tk (tt T) fun i => Q ({ st with mem := bg st.mem key (.box (i.zero.map V.sc)) }.put o.dst (.ptr key 0))
 | .box _ x => bq tk (fH (st.eval x)) fun cs => Q ({ st with mem := bg st.mem key (.box cs) }.put o.dst (.ptr key 0))
 | .build T parts => bq tk (gU P tt T parts.toList st.eval) fun v => Q (st.put o.dst v)
 | .buildSlice T len parts => bq tk (Ki tt T len parts.toList st key) fun mem => Q ({ st with mem := mem }.put o.dst (.ms key 0 0 len))
 | .store T p x => bq tk (wB tt st.mem T (st.eval p) (st.eval x)) fun mem => Q ({ st with mem := mem }.put o.dst (.sc undef))
 | .call { callee := .builtin .append, args := xs, argTypes := ts } => match xs.toList.map st.eval with
  | [s, x] => nq tk (dv tt st.mem ts.toList s x) (fun p => Q ({ st with mem := (cy st.mem key p.1 p.2.2 p.2.1).1 }.put o.dst (cy st.mem key p.1 p.2.2 p.2.1).2)) (Sz tk m (ja tt st.mem ts.toList s x) st o.dst Q)
  | _ => False
 | .call { callee := .value f, args := xs, .. } => match st.eval f with
  | .ia k => Sy tk m P k (xs.toList.map st.eval) st o.dst Q
  | fv => bq tk (bn fv (xs.toList.map st.eval)) fun p => oS tk m P p.1 p.2 (cD st.mem p.2) (p.2.flatMap cr) st o.dst Q
 | .makeSlice T l c => bq tk (nc tt T (st.eval l) (st.eval c)) fun p => Q ({ st with mem := bg st.mem key (.rows 0 p.1 p.2.1) }.put o.dst (.ms key 0 0 p.2.1.length))
 | .makeMap _ none => Q ({ st with mem := bg st.mem key (.map [] 0) }.put o.dst (.mp key))
 | .mapUpdate T d k x => bq tk (cp P st.mem T (st.eval d) (st.eval k) (st.eval x)) fun mem => Q ({ st with mem := mem }.put o.dst (.sc undef))
 | .insert T d k x => bq tk (cp P st.mem T (st.eval d) (st.eval k) (st.eval x)) fun mem => Q ({ st with mem := mem }.put o.dst (.sc undef))
 | .mapEntry T d k => bq tk (pq P st.mem T (st.eval d) (st.eval k)) fun p => Q ({ st with mem := p.1 }.put o.dst p.2)
 | .entryStore _ d s x => bq tk (pw st.mem (st.eval d) (st.eval s) (st.eval x)) fun mem => Q ({ st with mem := mem }.put o.dst (.sc undef))
 | .call { callee := .builtin .delete, args := xs, argTypes := ts } => bq tk (mf P st.mem ts (xs.toList.map st.eval)) fun mem => Q ({ st with mem := mem }.put o.dst (.sc (.tuple #[])))
 | .range T x => bq tk (jH P st.mem T (st.eval x)) fun B => Q ({ st with mem := bg st.mem key B }.put o.dst (.ptr key 0))
 | .next it str => XO tk m st o.dst (st.eval it) str Q
 | .binOp op T x y _ => nq tk (jt tt op T (st.eval x) (st.eval y)) (fun n => V2 tk m n op st o.dst Q) (bq tk (fP P tt st o) fun v => Q (st.put o.dst v))
 | _ => bq tk (fP P tt st o) fun v => Q (st.put o.dst v)
theorem mr {α : Type} {k : Tk} {o : Option α} {A B : α → Prop} (h : bq k o A) (pg : ∀ v, A v → B v) : bq k o B := by
 cases o with
 | none => exact h
 | some v => exact pg v h
theorem A0 {dst : Option Tmp} {it : V} {str : Bool} {A B : St → Prop} (h : oy st dst it str A) (pg : ∀ s, A s → B s) : oy st dst it str B := by
 unfold oy at h ⊢
 split at h
 ·split at h
  ·split at h
   ·exact ⟨h.1, h.2.1, fun e => pg _ (h.2.2.1 e), fun e he => pg _ (h.2.2.2 e he)⟩
   ·exact h
  ·refine ⟨h.1, ?_⟩
   have := h.2
   split at this
   ·rename_i hp; rw [if_pos hp]; exact pg _ this
   ·rename_i hp; rw [if_neg hp]; exact pg _ this
  ·exact ⟨h.1, pg _ h.2⟩
  ·exact h
 ·exact h
theorem A1 {key : Nat} {o : Oper} {A B : St → Prop} (h : iG m P tt key o st A) (pg : ∀ s, A s → B s) : iG m P tt key o st B := by
 have app : ∀ {ts : List TypeId} {s x : V}, nq tk (dv tt st.mem ts s x) (fun p => A ({ st with mem := (cy st.mem key p.1 p.2.2 p.2.1).1 }.put o.dst (cy st.mem key p.1 p.2.2 p.2.1).2)) (Sz tk m (ja tt st.mem ts s x) st o.dst A) →
   nq tk (dv tt st.mem ts s x) (fun p => B ({ st with mem := (cy st.mem key p.1 p.2.2 p.2.1).1 }.put o.dst (cy st.mem key p.1 p.2.2 p.2.1).2)) (Sz tk m (ja tt st.mem ts s x) st o.dst B) := fun {ts s x} h => by
  cases ha : dv tt st.mem ts s x with
  | some p => rw [ha, oQ] at h; exact pg _ h
  | none => rw [ha, oR] at h; exact ⟨h.1, AZ (show qz tt st ts s x o.dst A from h.2) pg⟩
 have cv : ∀ {f : FuncId} {vs : List V} {p : Option (List V)} {keys : List (Nat × Nat)}, oS tk m P f vs p keys st o.dst A → oS tk m P f vs p keys st o.dst B := fun h => by
  rcases h with ⟨vs', r, h1, h2, h3⟩ | ⟨r, m', h1, h2⟩ | ⟨hm, R, h1, h2⟩ | ⟨r, h1, h2⟩
  ·exact .inl ⟨vs', r, h1, h2, pg _ h3⟩
  ·exact .inr (.inl ⟨r, m', h1, pg _ h2⟩)
  ·exact .inr (.inr (.inl ⟨hm, R, h1, fun r m' h => pg _ (h2 r m' h)⟩))
  ·exact .inr (.inr (.inr ⟨r, h1, pg _ h2⟩))
 obtain ⟨dst, op, type, pos, after, guard⟩ := o
 cases op
 case call c =>
  obtain ⟨callee, args, ats⟩ := c
  cases callee
  case value f =>
   simp only [iG] at h ⊢
   split at h
   ·rcases h with ⟨b, m', h1, h2⟩ | ⟨hm, R, h1, h2⟩
    ·exact .inl ⟨b, m', h1, pg _ h2⟩
    ·exact .inr ⟨hm, R, h1, fun b m' h => pg _ (h2 b m' h)⟩
   ·exact mr h fun v hv => cv hv
  case builtin b =>
   cases b
   case append =>
    simp only [iG] at h ⊢
    split at h
    ·exact app h
    ·exact h
   all_goals (simp only [iG] at h ⊢; exact mr h fun v hv => pg _ hv)
  all_goals (simp only [iG] at h ⊢; exact mr h fun v hv => pg _ hv)
 case makeMap T l =>
  cases l with
  | none => exact pg _ h
  | some l => simp only [iG] at h ⊢; exact mr h fun v hv => pg _ hv
 case next it str => exact ⟨h.1, A0 h.2 pg⟩
 case binOp op T x y yt =>
  simp only [iG] at h ⊢
  cases hn : jt tt op T (st.eval x) (st.eval y) with
  | some n =>
   rw [hn, oQ] at h
   exact ⟨h.1, fun b hb => pg _ (h.2 b hb)⟩
  | none => rw [hn, oR] at h; exact mr h fun v hv => pg _ hv
 all_goals (simp only [iG] at h ⊢; exact mr h fun v hv => pg _ hv)
def MF (m : Bool) (P : Program) (tt : Table) (key : Nat) (o : Oper) (st : St) (Q : St → Prop) : Prop := match m with
 | true => bH P tt key o st Q
 | false => ∃ s, Q s ∧ ∀ K : St → Prop, K s → bH P tt key o st K
theorem eN {key : Nat} {o : Oper} (s : St) (h : Q s) (hk : ∀ K : St → Prop, K s → bH P tt key o st K) : MF m P tt key o st Q := by
 cases m
 ·exact ⟨s, h, hk⟩
 ·exact hk Q h
theorem GV {f : FuncId} {vs : List V} {dst : Option Tmp} {k : Tk} (h : oS k m P f vs (cD st.mem vs) (vs.flatMap cr) st dst Q) : (m = true ∧ uM P f vs st dst Q) ∨ ∃ s, Q s ∧ ∀ K : St → Prop, K s → uM P f vs st dst K := by
 rcases h with ⟨vs', r, h1, h2, h3⟩ | ⟨r, m', h1, h2⟩ | ⟨hm, R, h1, h2⟩ | ⟨r, h1, h2⟩
 ·exact .inr ⟨_, h3, fun K hK => .inl ⟨vs', r, h1, h2, hK⟩⟩
 ·exact .inr ⟨_, h2, fun K hK => .inr (.inl ⟨r, m', h1, hK⟩)⟩
 ·exact .inl ⟨hm, .inr (.inr (.inl ⟨R, h1, h2⟩))⟩
 ·exact .inr ⟨_, h2, fun K hK => .inr (.inr (.inr ⟨r, h1, hK⟩))⟩
theorem GX {key : Nat} {o : Oper} (h : iG m P tt key o st Q) : MF m P tt key o st Q := by
 unfold iG at h
 split at h
 all_goals try (rename_i kd; simp only [fL] at h; obtain ⟨v, h1, h2⟩ := h; refine eN _ h2 fun K hK => ?_; unfold bH; rw [kd]; dsimp only; rw [h1]; exact hK)
 ·rename_i kd
  simp only [fL] at h
  obtain ⟨mem, h1, h2⟩ := h
  refine eN _ h2 fun K hK => ?_
  unfold bH; rw [kd]; dsimp only
  unfold Ki at h1
  split at h1
  ·rename_i hl; cases h1; rw [hl]; exact hK
  ·rename_i hl
   rw [hl]
   split at h1
   ·rename_i hl; cases h1; dsimp only; rw [hl]; exact hK
   ·cases h1
 ·rename_i kd
  simp only [fL] at h
  obtain ⟨mem, h1, h2⟩ := h
  refine eN _ h2 fun K hK => ?_
  unfold bH; rw [kd]; dsimp only
  unfold wB at h1
  split at h1
  ·rename_i hl; cases h1; rw [hl]; exact hK
  ·rename_i hl; rw [hl]; dsimp only; rw [h1]; exact hK
 ·rename_i kd
  split at h
  ·rename_i s x JH
   cases ha : dv tt st.mem _ s x with
   | some p =>
    rw [ha, oQ] at h
    refine eN _ h fun K hK => ?_
    unfold bH; rw [kd]; dsimp only; rw [JH]; dsimp only; rw [ha]; exact hK
   | none =>
    rw [ha, oR] at h
    obtain ⟨rfl, h⟩ := h
    show bH P tt key o st Q
    unfold bH; rw [kd]; dsimp only; rw [JH]; dsimp only; rw [ha]; exact h
  ·exact h.elim
 ·rename_i kd
  split at h
  ·rename_i k hk
   rcases h with ⟨b, m', h1, h2⟩ | ⟨rfl, R, h1, h2⟩
   ·refine eN _ h2 fun K hK => ?_
    unfold bH; rw [kd]; dsimp only; rw [hk]; exact .inl ⟨b, m', h1, hK⟩
   ·show bH P tt key o st Q
    unfold bH; rw [kd]; dsimp only; rw [hk]; exact .inr ⟨R, h1, h2⟩
  ·rename_i hk
   simp only [fL] at h
   obtain ⟨⟨g, vs⟩, h1, h2⟩ := h
   have SA : ∀ K : St → Prop, uM P g vs st o.dst K → bH P tt key o st K := fun K hK => by
    unfold bH; rw [kd]; dsimp only
    split
    ·rename_i k hy; exact (hk k hy).elim
    ·rw [h1]; exact hK
   rcases GV h2 with ⟨rfl, h3⟩ | ⟨s, h3, h4⟩
   ·exact SA Q h3
   ·exact eN s h3 fun K hK => SA K (h4 K hK)
 ·rename_i kd
  exact eN _ h fun K hK => by unfold bH; rw [kd]; exact hK
 ·rename_i kd
  obtain ⟨rfl, h⟩ := h
  show bH P tt key o st Q
  unfold bH; rw [kd]; exact h
 ·rename_i op T x y yt kd
  cases hn : jt tt op T (st.eval x) (st.eval y) with
  | some n =>
   rw [hn, oQ] at h
   obtain ⟨rfl, h⟩ := h
   show bH P tt key o st Q
   unfold bH; rw [kd]; dsimp only; rw [hn]; exact h
  | none =>
   rw [hn, oR, fL] at h
   obtain ⟨v, h1, h2⟩ := h
   exact eN _ h2 fun K hK => by unfold bH; rw [kd]; dsimp only; rw [hn]; dsimp only; rw [h1]; exact hK
 ·rw [fL] at h
  obtain ⟨v, h1, h2⟩ := h
  refine eN _ h2 fun K hK => ?_
  unfold bH
  split
  all_goals first
   | (rw [h1]; exact hK)
   | (exfalso; solve_by_elim)
end
end Go.Eng
end

section
namespace Go.Eng
variable [aG]
section
variable {P : Program} {ρ : Option Nat} {n0 : Nat} {c : Code} {st : St} {Q : Exit → St → Prop}
theorem CM {v v' : V} (t : Nat) (h0 : st.fr[t]? = some v) (hp : eA st.mem v = some v') (h : gD P ρ n0 c { fr := st.fr.set t v', mem := bY st.mem (cr v) } Q) : gD P ρ n0 c st Q := fun E0 w0 Ji E w a he hs fQ => by
 obtain ⟨E', h1, h2, h3⟩ := hs.freeze (vs := [v]) (vs' := [v']) (by simp only [cD,hp])
 obtain ⟨x, hx, hr⟩ := hs.fr.get h0
 have tX := (h3 [x] (aQ.cons hr (.nil _))).2 0 v' x rfl rfl
 have e1 : [v].flatMap cr = cr v := by simp
 rw [e1] at h1
 have e2 : a.tmps.toList.set t x = a.tmps.toList := by
  apply List.ext_getElem?
  intro i
  rw [List.getElem?_set]
  split
  ·rename_i hi; subst hi
   rw [if_pos (List.getElem?_eq_some_iff.1 hx).1, hx]
  ·rfl
 have h4 : aQ E' (st.fr.set t v') a.tmps.toList := by
  have := (aQ.set (n := t) h1.fr tX)
  rwa [e2] at this
 exact h E0 w0 Ji E' w a (he.trans h2) ⟨h1.F, h1.lt, h1.mem, h1.top, h1.aC, h1.apart, h4⟩ (fQ.FB h2)
theorem Om {v v' : V} (t : Nat) (h0 : st.fr[t]? = some v) (hp : eA st.mem v = some v') (h : Ex P ρ n0 c { fr := st.fr.set t v', mem := bY st.mem (cr v) } Q) : Ex P ρ n0 c st Q := by
 obtain ⟨e, s2, hq, h2⟩ := h
 exact ⟨e, s2, hq, fun Q' h' => CM t h0 hp (h2 Q' h')⟩
theorem eU {α : Type} {l : List α} {t : Nat} {x : α} (h : l[t]? = some x) : l.set t x = l := by
 apply List.ext_getElem?
 intro i
 rw [List.getElem?_set]
 split
 ·rename_i hi; subst hi
  rw [if_pos (List.getElem?_eq_some_iff.1 h).1, h]
 ·rfl
theorem bd.On {E : Env} {w : World} {a : Act} (hs : bd E w a st) {k j : Nat} {cs : List V} (hk : st.mem[k]? = some (.box cs)) (hj : cs[j]? = some (.sc (.slice none 0 0))) (b v : Nat) : bd E w a { st with mem := st.mem.set k (.box (cs.set j (.ms b v 0 0))) } := by
 have aB := (List.getElem?_eq_some_iff.1 hk).1
 refine ⟨hs.F, hs.lt, fun k' B hB => ?_, fun k' eQ => hs.top k' (by simpa using eQ), fun k' B hB v hv => ?_, hs.apart, hs.fr⟩
 ·rw [List.getElem?_set] at hB
  split at hB
  ·rename_i he; subst he
   cases hB
   obtain ⟨g, T, xs, hb, hh, hr, hf⟩ := hs.mem k _ hk
   refine ⟨g, T, xs, hb, hh, ?_, hf⟩
   obtain ⟨x, hx, Zg⟩ := hr.get hj
   have Zh := b9 Zg
   subst Zh
   have := aQ.set (n := j) hr (aX.df E b v 0)
   rwa [eU hx] at this
  ·exact hs.mem k' B hB
 ·rw [List.getElem?_set] at hB
  split at hB
  ·rename_i he; subst he
   cases hB
   exact hs.aC k _ hk v hv
  ·exact hs.aC k' B hB v hv
end
end Go.Eng
end

section
namespace Go.Eng
variable [aG]
def lk (t : Nat) : List (Nat × V) → V
 | [] => .undef
 | p :: ws => if p.1 = t then p.2 else lk t ws
def W (n : Nat) (ws : List (Nat × V)) : List V := (List.range n).map fun i => lk i ws
theorem nf (n : Nat) (ws : List (Nat × V)) (t : Nat) : (W n ws)[t]? = if t < n then some (lk t ws) else none := by
 unfold W
 rw [List.getElem?_map]
 by_cases h : t < n
 ·rw [if_pos h, List.getElem?_range h]; rfl
 ·rw [if_neg h, List.getElem?_eq_none (by simp; omega)]; rfl
theorem Oo (n : Nat) (ws : List (Nat × V)) (t : Nat) : (W n ws).getD t .undef = if t < n then lk t ws else .undef := by
 rw [List.getD_eq_getElem?_getD, nf]; split <;> rfl
theorem jN (n : Nat) (ws : List (Nat × V)) : (W n ws).length = n := by simp [W]
theorem CN (n : Nat) (ws : List (Nat × V)) (d : Nat) (v : V) : (W n ws).set d v = W n ((d, v) :: ws) := by
 apply List.ext_getElem?
 intro i
 rw [List.getElem?_set, nf, nf, jN]
 simp only [lk]
 by_cases h : d = i
 ·subst h; simp
 ·simp [h]
def je (jO : List (Nat × V)) : List (Nat × V) → Prop
 | [] => True
 | p :: r => lk p.1 jO = p.2 ∧ je jO r
theorem CO {jO : List (Nat × V)} : ∀ {ws : List (Nat × V)}, je jO ws → ∀ i, lk i ws = .undef ∨ lk i ws = lk i jO
 | [], _, i => .inl rfl
 | p :: r, h, i => by
  simp only [lk]
  by_cases e : p.1 = i
  ·subst e; rw [if_pos rfl]; exact .inr h.1.symm
  ·rw [if_neg e]; exact CO h.2 i
theorem Kj {E : Env} {n : Nat} {jO ws : List (Nat × V)} (h : je jO ws) {xs : List Value} (hr : aQ E (W n jO) xs) : aQ E (W n ws) xs := by
 refine ⟨by rw [← hr.1, jN, jN], fun i v x hv hx => ?_⟩
 rw [nf] at hv
 split at hv
 ·rename_i hi
  cases hv
  rcases CO h i with e | e
  ·rw [e]; exact .undef _ _
  ·rw [e]; exact hr.2 i _ x (by rw [nf, if_pos hi]) hx
 ·cases hv
def FE (k : Nat) (ws : List (Nat × V)) : Bool := ws.all fun p => ai k p.2
theorem GY {k n : Nat} {ws : List (Nat × V)} (h : FE k ws = true) : (W n ws).all (ai k) = true := by
 rw [List.all_eq_true]
 intro v hv
 unfold W at hv
 obtain ⟨i, -, rfl⟩ := List.mem_map.1 hv
 clear hv
 induction ws with
 | nil => rfl
 | cons p r ih =>
  unfold FE at h ih
  rw [List.all_cons, Bool.and_eq_true] at h
  simp only [lk]
  split
  ·exact h.1
  ·exact ih h.2

def X (_ : Tk) (m : Bool) (P : Program) (ρ : Option Nat) (n0 : Nat) (c : Code) (st : St) (Q : Exit → St → Prop) : Prop := match m with
 | true => gD P ρ n0 c st Q
 | false => Ex P ρ n0 c st Q
section
variable {k_ : Tk} {m : Bool} {P : Program} {tt : Table} {sp : List Nat} {ρ : Option Nat} {n0 : Nat} {st : St} {Q : Exit → St → Prop} {n : Nat} {ws jO : List (Nat × V)} {mem fT : List ay}
theorem X.mono {c : Code} {Q2 : Exit → St → Prop} (h : X k_ m P ρ n0 c st Q) (hq : ∀ e s, Q e s → Q2 e s) : X k_ m P ρ n0 c st Q2 := by
 cases m
 ·exact Ex.mono h hq
 ·exact gD.mono h hq
theorem u0 {x y : Code} (h : X k_ m P ρ n0 x st (dZ (fun st' => X k_ m P ρ n0 y st' Q) Q)) : X k_ m P ρ n0 (.seq x y) st Q := by
 cases m
 ·exact GM h
 ·exact kp h
theorem Kk {id : Nat} {c : Code} (h : X k_ m P ρ n0 c st (eD id Q)) : X k_ m P ρ n0 (.block id c) st Q := by
 cases m
 ·exact GN h
 ·exact jI h
theorem sR {c : Code} {st' : St} (hw : ∀ E w a, bd E w a st → bd E w a st') (h : X k_ m P ρ n0 c st' Q) : X k_ m P ρ n0 c st Q := by
 cases m
 ·obtain ⟨e, s, hq, h⟩ := h
  exact ⟨e, s, hq, fun Q' h' => sx hw (h Q' h')⟩
 ·exact sx hw h
theorem Oq {c : Code} (k : Nat) (hn : n0 ≤ k) (hf : st.fr.all (ai k) = true) (hm : (st.mem.take k).all (aA k) = true) (h : X k_ m P ρ n0 c { st with mem := st.mem.take k } Q) : X k_ m P ρ n0 c st Q := by
 cases m
 ·obtain ⟨e, s, hq, h⟩ := h
  exact ⟨e, s, hq, fun Q' h' => ya k [] hn hf hm (h Q' h')⟩
 ·exact ya k [] hn hf hm h
def rk (n0 k n : Nat) (ws : List (Nat × V)) (mem : List ay) (st : St) : Prop :=
 ∃ jO fT, st = ⟨W n jO, fT⟩ ∧ n0 ≤ k ∧ je jO ws ∧ FE k ws = true ∧ mem.all (aA k) = true ∧ fT.take k = mem
theorem ba {k : Nat} (h0 : n0 ≤ k) (h1 : je jO ws ∧ FE k ws = true ∧ mem.all (aA k) = true ∧ fT.take k = mem) : rk n0 k n ws mem ⟨W n jO, fT⟩ := ⟨jO, fT, rfl, h0, h1⟩
theorem GZ {c : Code} {k : Nat} (hl : rk n0 k n ws mem st) (h : X k_ m P ρ n0 c ⟨W n ws, mem⟩ Q) : X k_ m P ρ n0 c st Q := by
 obtain ⟨jO, fT, rfl, h0, h1, h2, h3, h4⟩ := hl
 subst h4
 exact sR (st' := ⟨W n ws, fT⟩) (fun E w a hs => ⟨hs.F, hs.lt, hs.mem, hs.top, hs.aC, hs.apart, Kj h1 hs.fr⟩) (Oq k h0 (GY h2) h3 h)

def gate (_ : Tk) (b : Bool) (d : Nat) (st : St) (f : Bool → St → Prop) : Prop := ∀ b', b = b' → f b' { st with fr := st.fr.set d (.sc (.bool b')) }
theorem Ot {d : Nat} {f : Bool → St → Prop} : gate k_ true d st f = f true { st with fr := st.fr.set d (.sc (.bool true)) } := propext ⟨fun h => h _ rfl, fun h b' e => by subst e; exact h⟩
theorem Ou {d : Nat} {f : Bool → St → Prop} : gate k_ false d st f = f false { st with fr := st.fr.set d (.sc (.bool false)) } := propext ⟨fun h => h _ rfl, fun h b' e => by subst e; exact h⟩
theorem aL {b : Bool} {d : Nat} {f : Bool → St → Prop} (h1 : b = true → f true { st with fr := st.fr.set d (.sc (.bool true)) }) (h2 : b = false → f false { st with fr := st.fr.set d (.sc (.bool false)) }) : gate k_ b d st f := by
 intro b' e
 cases b' with
 | true => exact h1 e
 | false => exact h2 e
theorem CP {b : Bool} {d : Nat} {f : Bool → St → Prop} (hd : st.fr[d]? = some (.sc (.bool b)) ∨ st.fr.getD d .undef = .sc (.bool b)) (h : gate k_ b d st f) : f b st := by
 have := h b rfl
 have e : st.fr.set d (.sc (.bool b)) = st.fr := by
  rcases hd with hd | hd
  ·exact eU hd
  ·rw [List.getD_eq_getElem?_getD] at hd
   cases hg : st.fr[d]? with
   | none => rw [hg] at hd; cases hd
   | some v => rw [hg] at hd; cases hd; exact eU hg
 rw [e] at this
 exact this
def wC (_ : Tk) (v : Option V) (d : Nat) (want : Bool) (st : St) (yes no : St → Prop) : Prop := match v with
 | some (.sc (.bool b)) => gate tk b d st fun b s => match b == want with | true => yes s | false => no s
 | some (.sc _) => no st
 | some _ => False
 | none => no st
def qM : List Oper → Nat → Option Tmp
 | [], _ => none
 | o :: _, 0 => o.dst
 | _ :: r, n + 1 => qM r n
theorem Kl {o : Oper} {r : List Oper} : qM (o :: r) 0 = o.dst := rfl
theorem CQ {o : Oper} {r : List Oper} {n : Nat} : qM (o :: r) (n + 1) = qM r n := rfl
theorem yH : ∀ (l : List Oper) (j : Nat), qM l j = (l[j]?).bind (·.dst)
 | [], j => by simp [qM]
 | o :: r, 0 => rfl
 | o :: r, j + 1 => by rw [CQ, yH r j, List.getElem?_cons_succ]
def gd (all : List Oper) (o : Oper) (st : St) (yes no : St → Prop) : Prop := match o.guard with
 | none => yes st
 | some (j, want) => match qM all j with
  | none => no st
  | some d => wC tk st.fr[d]? d want st yes no
theorem MG {all : Array Oper} {o : Oper} {yes no : St → Prop} (h : gd all.toList o st yes no) : (cZ all st.fr o = some true ∧ yes st) ∨ (cZ all st.fr o = some false ∧ no st) := by
 unfold gd at h
 unfold cZ
 split at h
 ·rename_i hg; rw [hg]; exact .inl ⟨rfl, h⟩
 ·rename_i j want hg
  rw [hg]
  dsimp only
  rw [yH, Array.getElem?_toList] at h
  cases hd : (all[j]?).bind (·.dst) with
  | none => rw [hd] at h; exact .inr ⟨rfl, h⟩
  | some d =>
   rw [hd] at h
   dsimp only at h ⊢
   unfold wC at h
   split at h
   ·rename_i b hb
    have h := CP (.inl hb) h
    rw [hb]
    dsimp only
    cases hc : b == want with
    | true => rw [hc] at h; exact .inl ⟨rfl, h⟩
    | false => rw [hc] at h; exact .inr ⟨rfl, h⟩
   ·rename_i x hx hb
    rw [hb]
    cases x with
    | bool b => exact absurd rfl (hx b)
    | _ => exact .inr ⟨rfl, h⟩
   ·exact h.elim
   ·rename_i hb; rw [hb]; exact .inr ⟨rfl, h⟩
def nE (m : Bool) (P : Program) (tt : Table) (all : List Oper) : List Oper → St → (St → Prop) → Prop
 | [], st, Q => Q st
 | o :: r, st, Q => gd all o st (fun s => iG m P tt s.mem.length o s fun s => nE m P tt all r s Q) (fun s => nE m P tt all r (s.put o.dst (.sc undef)) Q)
theorem Ov {all : List Oper} {Q : St → Prop} : nE m P tt all [] ⟨W n ws, mem⟩ Q = Q ⟨W n ws, mem⟩ := fq rfl
theorem Ow {all : List Oper} {o : Oper} {r : List Oper} {Q : St → Prop} : nE m P tt all (o :: r) ⟨W n ws, mem⟩ Q = gd all o ⟨W n ws, mem⟩ (fun s => iG m P tt s.mem.length o s fun s => nE m P tt all r s Q) (fun s => nE m P tt all r (s.put o.dst (.sc undef)) Q) := fq rfl
def SB (m : Bool) (P : Program) (tt : Table) (all : Array Oper) (l : List Oper) (st : St) (Q : St → Prop) : Prop := match m with
 | true => dA P tt all l st Q
 | false => ∃ s, Q s ∧ ∀ K : St → Prop, K s → dA P tt all l st K
theorem wD {all : Array Oper} {Q : St → Prop} : ∀ (l : List Oper) (st : St), nE m P tt all.toList l st Q → SB m P tt all l st Q
 | [], st, h => by
  cases m with
  | true => show dA P tt all [] st Q; rw [dA]; exact h
  | false => exact ⟨st, h, fun K hK => by rw [dA]; exact hK⟩
 | o :: r, st, h => by
  rw [nE] at h
  rcases MG h with ⟨hw, h⟩ | ⟨hw, h⟩
  ·have h := GX (A1 (B := fun s => SB m P tt all r s Q) h fun s hs => wD r s hs)
   cases m with
   | true =>
    show dA P tt all (o :: r) st Q
    rw [dA, hw]
    exact h
   | false =>
    obtain ⟨s1, h1, h2⟩ := h
    obtain ⟨s2, h3, h4⟩ := h1
    exact ⟨s2, h3, fun K hK => by rw [dA, hw]; exact h2 _ (h4 K hK)⟩
  ·have h := wD r _ h
   cases m with
   | true =>
    show dA P tt all (o :: r) st Q
    rw [dA, hw]; exact h
   | false =>
    obtain ⟨s2, h3, h4⟩ := h
    exact ⟨s2, h3, fun K hK => by rw [dA, hw]; exact h4 K hK⟩
theorem oT (ht : TT P tt) {id : Nat} {ops : Array Oper} (h : nE m P tt ops.toList ops.toList st (Q .normal)) : X k_ m P ρ n0 (.region id ops false) st Q := by
 have h := wD _ _ h
 cases m with
 | true => exact kq ht h
 | false =>
  obtain ⟨s, h1, h2⟩ := h
  exact ⟨.normal, s, h1, fun Q' h' => kq ht (h2 _ h')⟩
def CR (c : Operand) (st : St) (f : Bool → St → Prop) : Prop := match st.eval c with
 | .sc (.bool b) => match c with
  | .tmp t => gate tk b t st f
  | _ => f b st
 | _ => False
def G0 (i : Nat) : List Nat → Bool
 | [] => false
 | a :: r => if a = i then true else G0 i r
def ky : Code → Nat
 | .cond (.tmp t) _ _ => 10000 + t
 | .block i _ => 20000 + i
 | .seq _ _ => 30000
 | .region i _ _ => i
 | _ => 40000
def vc (m : Bool) (P : Program) (tt : Table) (sp : List Nat) (ρ : Option Nat) (n0 : Nat) : Code → St → (Exit → St → Prop) → Prop
 | .seq x y, st, Q => match x with
  | .region id ops false => match G0 id sp with
   | false => nE m P tt ops.toList ops.toList st fun s => vc m P tt sp ρ n0 y s Q
   | true => X tk m P ρ n0 (.seq (.region id ops false) y) st Q
  | .skip => vc m P tt sp ρ n0 y st Q
  | _ => match G0 (ky x) sp with
   | false => vc m P tt sp ρ n0 x st (dZ (fun s => vc m P tt sp ρ n0 y s Q) Q)
   | true => X tk m P ρ n0 (.seq x y) st Q
 | .region id ops false, st, Q => match G0 id sp with
  | false => nE m P tt ops.toList ops.toList st (Q .normal)
  | true => X tk m P ρ n0 (.region id ops false) st Q
 | .cond c x y, st, Q => CR c st fun b s => match b with | true => vc m P tt sp ρ n0 x s Q | false => vc m P tt sp ρ n0 y s Q
 | .block id c, st, Q => vc m P tt sp ρ n0 c st (eD id Q)
 | .skip, st, Q => Q .normal st
 | .ret, st, Q => Q .ret st
 | .exit id, st, Q => Q (.exit id) st
 | c, st, Q => X tk m P ρ n0 c st Q
theorem vx (ht : TT P tt) : ∀ {c : Code} {st : St} {Q : Exit → St → Prop}, vc m P tt sp ρ n0 c st Q → X k_ m P ρ n0 c st Q := by
 intro c
 induction c with
 | seq x y Ut QM =>
  intro st Q h
  unfold vc at h
  split at h
  ·split at h
   ·refine u0 ((oT (Q := dZ (fun s => vc m P tt sp ρ n0 y s Q) Q) ht h).mono fun e s h => ?_)
    cases e with
    | normal => exact QM h
    | _ => exact h
   ·exact h
  ·have h := QM h
   cases m
   ·exact GM (CL h)
   ·exact kp (lA h)
  ·split at h
   ·refine u0 ((Ut h).mono fun e s h => ?_)
    cases e with
    | normal => exact QM h
    | _ => exact h
   ·exact h
 | region id ops mixed =>
  intro st Q h
  cases mixed
  ·unfold vc at h
   split at h
   ·exact oT ht h
   ·exact h
  ·unfold vc at h; exact h
 | cond c x y Ut QM =>
  intro st Q h
  unfold vc at h
  unfold CR at h
  split at h
  ·rename_i b hb
   have h : X k_ m P ρ n0 (if b = true then x else y) st Q := by
    split at h
    ·rename_i t
     have h := CP (.inr hb) h
     cases b
     ·exact QM h
     ·exact Ut h
    ·cases b
     ·exact QM h
     ·exact Ut h
   cases m
   ·exact Kd hb h
   ·exact lB hb h
  ·exact h.elim
 | block id c ih => intro st Q h; unfold vc at h; exact Kk (ih h)
 | skip =>
  intro st Q h; unfold vc at h
  cases m
  ·exact CL h
  ·exact lA h
 | ret =>
  intro st Q h; unfold vc at h
  cases m
  ·exact Oc h
  ·exact oB h
 | exit id =>
  intro st Q h; unfold vc at h
  cases m
  ·exact Kc h
  ·exact sv h
 | _ => intro st Q h; unfold vc at h; exact h
section
variable {x y : Code} {id : Nat} {ops : Array Oper} {c : Operand}
theorem A2 {v : Option V} {d : Nat} {want : Bool} {yes no : St → Prop} {k : Tk} : wC k v d want st yes no = match v with
  | some (.sc (.bool b)) => gate tk b d st fun b s => match b == want with | true => yes s | false => no s
  | some (.sc _) => no st
  | some _ => False
  | none => no st := fq rfl
def sV := @iG
theorem Em {key : Nat} {o : Oper} {Q : St → Prop} : iG m P tt key o ⟨W n ws, mem⟩ Q = sV m P tt key o ⟨W n ws, mem⟩ Q := fq rfl
theorem Ox {key : Nat} {o : Oper} {Q : St → Prop} : sV m P tt key o st Q = match o.op with
   | .alloc T => bq tk (tt T) fun i => Q ({ st with mem := bg st.mem key (.box (i.zero.map V.sc)) }.put o.dst (.ptr key 0))
   | .box _ x => bq tk (fH (st.eval x)) fun cs => Q ({ st with mem := bg st.mem key (.box cs) }.put o.dst (.ptr key 0))
   | .build T parts => bq tk (gU P tt T parts.toList st.eval) fun v => Q (st.put o.dst v)
   | .buildSlice T len parts => bq tk (Ki tt T len parts.toList st key) fun mem => Q ({ st with mem := mem }.put o.dst (.ms key 0 0 len))
   | .store T p x => bq tk (wB tt st.mem T (st.eval p) (st.eval x)) fun mem => Q ({ st with mem := mem }.put o.dst (.sc undef))
   | .call { callee := .builtin .append, args := xs, argTypes := ts } => match xs.toList.map st.eval with
    | [s, x] => nq tk (dv tt st.mem ts.toList s x) (fun p => Q ({ st with mem := (cy st.mem key p.1 p.2.2 p.2.1).1 }.put o.dst (cy st.mem key p.1 p.2.2 p.2.1).2)) (Sz tk m (ja tt st.mem ts.toList s x) st o.dst Q)
    | _ => False
   | .call { callee := .value f, args := xs, .. } => match st.eval f with
    | .ia k => Sy tk m P k (xs.toList.map st.eval) st o.dst Q
    | fv => bq tk (bn fv (xs.toList.map st.eval)) fun p => oS tk m P p.1 p.2 (cD st.mem p.2) (p.2.flatMap cr) st o.dst Q
   | .makeSlice T l c => bq tk (nc tt T (st.eval l) (st.eval c)) fun p => Q ({ st with mem := bg st.mem key (.rows 0 p.1 p.2.1) }.put o.dst (.ms key 0 0 p.2.1.length))
   | .makeMap _ none => Q ({ st with mem := bg st.mem key (.map [] 0) }.put o.dst (.mp key))
   | .mapUpdate T d k x => bq tk (cp P st.mem T (st.eval d) (st.eval k) (st.eval x)) fun mem => Q ({ st with mem := mem }.put o.dst (.sc undef))
   | .insert T d k x => bq tk (cp P st.mem T (st.eval d) (st.eval k) (st.eval x)) fun mem => Q ({ st with mem := mem }.put o.dst (.sc undef))
   | .mapEntry T d k => bq tk (pq P st.mem T (st.eval d) (st.eval k)) fun p => Q ({ st with mem := p.1 }.put o.dst p.2)
   | .entryStore _ d s x => bq tk (pw st.mem (st.eval d) (st.eval s) (st.eval x)) fun mem => Q ({ st with mem := mem }.put o.dst (.sc undef))
   | .call { callee := .builtin .delete, args := xs, argTypes := ts } => bq tk (mf P st.mem ts (xs.toList.map st.eval)) fun mem => Q ({ st with mem := mem }.put o.dst (.sc (.tuple #[])))
   | .range T x => bq tk (jH P st.mem T (st.eval x)) fun B => Q ({ st with mem := bg st.mem key B }.put o.dst (.ptr key 0))
   | .next it str => XO tk m st o.dst (st.eval it) str Q
   | .binOp op T x y _ => nq tk (jt tt op T (st.eval x) (st.eval y)) (fun n => V2 tk m n op st o.dst Q) (bq tk (fP P tt st o) fun v => Q (st.put o.dst v))
   | _ => bq tk (fP P tt st o) fun v => Q (st.put o.dst v) := fq rfl
theorem Oy {all : List Oper} {o : Oper} {yes no : St → Prop} : gd all o ⟨W n ws, mem⟩ yes no = match o.guard with
  | none => yes ⟨W n ws, mem⟩
  | some (j, want) => match qM all j with
   | none => no ⟨W n ws, mem⟩
   | some d => wC tk (W n ws)[d]? d want ⟨W n ws, mem⟩ yes no := fq rfl
theorem En {f : Bool → St → Prop} : CR c st f = match st.eval c with
  | .sc (.bool b) => match c with
   | .tmp t => gate tk b t st f
   | _ => f b st
  | _ => False := fq rfl
theorem SC : vc m P tt sp ρ n0 (.seq (.region id ops false) y) ⟨W n ws, mem⟩ Q = match G0 id sp with
  | false => nE m P tt ops.toList ops.toList ⟨W n ws, mem⟩ fun s => vc m P tt sp ρ n0 y s Q
  | true => X tk m P ρ n0 (.seq (.region id ops false) y) ⟨W n ws, mem⟩ Q := fq rfl
theorem SD : vc m P tt sp ρ n0 (.seq (.region id ops true) y) ⟨W n ws, mem⟩ Q = match G0 id sp with
  | false => vc m P tt sp ρ n0 (.region id ops true) ⟨W n ws, mem⟩ (dZ (fun s => vc m P tt sp ρ n0 y s Q) Q)
  | true => X tk m P ρ n0 (.seq (.region id ops true) y) ⟨W n ws, mem⟩ Q := fq rfl
theorem SE {x1 : Code} : vc m P tt sp ρ n0 (.seq (.seq x x1) y) ⟨W n ws, mem⟩ Q = match G0 30000 sp with
  | false => vc m P tt sp ρ n0 (.seq x x1) ⟨W n ws, mem⟩ (dZ (fun s => vc m P tt sp ρ n0 y s Q) Q)
  | true => X tk m P ρ n0 (.seq (.seq x x1) y) ⟨W n ws, mem⟩ Q := fq rfl
theorem SG {x1 : Code} {t : Nat} : vc m P tt sp ρ n0 (.seq (.cond (.tmp t) x x1) y) ⟨W n ws, mem⟩ Q = match G0 (10000 + t) sp with
  | false => vc m P tt sp ρ n0 (.cond (.tmp t) x x1) ⟨W n ws, mem⟩ (dZ (fun s => vc m P tt sp ρ n0 y s Q) Q)
  | true => X tk m P ρ n0 (.seq (.cond (.tmp t) x x1) y) ⟨W n ws, mem⟩ Q := fq rfl
theorem SH : vc m P tt sp ρ n0 (.seq (.block id x) y) ⟨W n ws, mem⟩ Q = match G0 (20000 + id) sp with
  | false => vc m P tt sp ρ n0 (.block id x) ⟨W n ws, mem⟩ (dZ (fun s => vc m P tt sp ρ n0 y s Q) Q)
  | true => X tk m P ρ n0 (.seq (.block id x) y) ⟨W n ws, mem⟩ Q := fq rfl
theorem V3 : vc m P tt sp ρ n0 (.region id ops false) ⟨W n ws, mem⟩ Q = match G0 id sp with
  | false => nE m P tt ops.toList ops.toList ⟨W n ws, mem⟩ (Q .normal)
  | true => X tk m P ρ n0 (.region id ops false) ⟨W n ws, mem⟩ Q := fq rfl
theorem V4 : vc m P tt sp ρ n0 (.region id ops true) ⟨W n ws, mem⟩ Q = X tk m P ρ n0 (.region id ops true) ⟨W n ws, mem⟩ Q := fq rfl
theorem V5 : vc m P tt sp ρ n0 (.cond c x y) ⟨W n ws, mem⟩ Q = CR c ⟨W n ws, mem⟩ fun b s => match b with | true => vc m P tt sp ρ n0 x s Q | false => vc m P tt sp ρ n0 y s Q := fq rfl
theorem V6 : vc m P tt sp ρ n0 (.block id x) ⟨W n ws, mem⟩ Q = vc m P tt sp ρ n0 x ⟨W n ws, mem⟩ (eD id Q) := fq rfl
theorem V7 : vc m P tt sp ρ n0 .skip ⟨W n ws, mem⟩ Q = Q .normal ⟨W n ws, mem⟩ := fq rfl
theorem V8 : vc m P tt sp ρ n0 .ret ⟨W n ws, mem⟩ Q = Q .ret ⟨W n ws, mem⟩ := fq rfl
theorem V9 : vc m P tt sp ρ n0 (.exit id) ⟨W n ws, mem⟩ Q = Q (.exit id) ⟨W n ws, mem⟩ := fq rfl
theorem Wa : vc m P tt sp ρ n0 (.loop x) ⟨W n ws, mem⟩ Q = X tk m P ρ n0 (.loop x) ⟨W n ws, mem⟩ Q := fq rfl
theorem Wb {f : St → Prop} : dZ f Q .normal st = f st := fq rfl
theorem Wc {f : St → Prop} : dZ f Q .ret st = Q .ret st := fq rfl
theorem Wd {f : St → Prop} {j : Nat} : dZ f Q (.exit j) st = Q (.exit j) st := fq rfl
theorem We {j : Nat} : eD j Q .normal st = Q .normal st := fq rfl
theorem Wf {j : Nat} : eD j Q .ret st = Q .ret st := fq rfl
theorem Wg {i j : Nat} : eD i Q (.exit j) st = if j = i then Q .normal st else Q (.exit j) st := fq rfl
end
attribute [irreducible] vc
end
end Go.Eng
end

section
namespace Go.Eng
variable [aG]
section
variable {k_ : Tk} {m : Bool} {P : Program} {tt : Table} {ρ : Option Nat} {n0 : Nat} {st : St} {Q : Exit → St → Prop} {n : Nat} {ws jO : List (Nat × V)} {mem fT : List ay}
theorem sS (ht : TT P tt) {sp : List Nat} {y : Code} (e : Exit) (s : St) (h : dZ (fun s => vc m P tt sp ρ n0 y s Q) Q e s) : dZ (fun s => X k_ m P ρ n0 y s Q) Q e s := by
 cases e with
 | normal => exact vx (k_ := k_) ht h
 | _ => exact h
theorem sq (ht : TT P tt) (sp : List Nat) {x y : Code} (h : vc m P tt sp ρ n0 x st (dZ (fun s => vc m P tt sp ρ n0 y s Q) Q)) : X k_ m P ρ n0 (.seq x y) st Q := u0 ((vx ht h).mono (sS ht))
theorem Uu (ht : TT P tt) (sp : List Nat) {id : Nat} {ops : Array Oper} {y : Code} (h : nE m P tt ops.toList ops.toList st fun s => vc m P tt sp ρ n0 y s Q) : X k_ m P ρ n0 (.seq (.region id ops false) y) st Q :=
 u0 ((oT (Q := dZ (fun s => vc m P tt sp ρ n0 y s Q) Q) ht h).mono (sS ht))
theorem A3 (ht : TT P tt) {id : Nat} {ops : Array Oper} (h : nE m P tt ops.toList ops.toList st (Q .normal)) : X k_ m P ρ n0 (.region id ops false) st Q := oT ht h
theorem kC {c : Code} {k j : Nat} (hl : rk n0 k n ws mem st) (h : kU P ρ n0 c j ⟨W n ws, mem⟩ Q) : kU P ρ n0 c j st Q := by
 cases j with
 | zero => exact h.elim
 | succ j => exact GZ (k_ := .b) (m := true) hl h
theorem Oz {α : Type} (F : α → List (Nat × V)) (M : α → List ay) (μ : α → Nat) (Inv : α → Prop) (a0 : α) (k : Nat) {c : Code} (h0 : rk n0 k n (F a0) (M a0) st) (hi : Inv a0)
  (step : ∀ a, Inv a → X k_ m P ρ n0 c ⟨W n (F a), M a⟩ (dZ (fun s => ∃ a', Inv a' ∧ μ a' < μ a ∧ rk n0 k n (F a') (M a') s) Q)) : X k_ m P ρ n0 (.loop c) st Q := by
 cases m with
 | true =>
  have key : ∀ (j : Nat) (a : α), Inv a → μ a = j → kU P ρ n0 c (j + 1) ⟨W n (F a), M a⟩ Q := by
   intro j
   induction j using Nat.strongRecOn with
   | _ j ih =>
    intro a hi hj
    refine gD.mono (step a hi) fun e s h => ?_
    cases e with
    | normal =>
     obtain ⟨a', h1, h2, h3⟩ := h
     exact kC h3 (sA (by omega) (ih _ (by omega) a' h1 rfl))
    | _ => exact h
  exact sw _ (kC h0 (key _ a0 hi rfl))
 | false =>
  have key : ∀ (j : Nat) (a : α), Inv a → μ a = j → ∃ (e : Exit) (s : St), Q e s ∧ ∀ Q' : Exit → St → Prop, Q' e s → ∃ i, kU P ρ n0 c i ⟨W n (F a), M a⟩ Q' := by
   intro j
   induction j using Nat.strongRecOn with
   | _ j ih =>
    intro a hi hj
    obtain ⟨e, s, hq, h⟩ := step a hi
    cases e with
    | normal =>
     obtain ⟨a', h1, h2, h3⟩ := hq
     obtain ⟨e2, s2, Fz, h5⟩ := ih _ (by omega) a' h1 rfl
     refine ⟨e2, s2, Fz, fun Q' h' => ?_⟩
     obtain ⟨i, h6⟩ := h5 Q' h'
     exact ⟨i + 1, h _ (kC h3 h6)⟩
    | _ => exact ⟨_, s, hq, fun Q' h' => ⟨1, h (dZ (fun st' => kU P ρ n0 c 0 st' Q') Q') h'⟩⟩
  obtain ⟨e, s, hq, h⟩ := key _ a0 hi rfl
  refine ⟨e, s, hq, fun Q' h' => ?_⟩
  obtain ⟨j, hj⟩ := h Q' h'
  exact sw j (kC h0 hj)
theorem ct (ht : TT P tt) (sp : List Nat) {α : Type} (F : α → List (Nat × V)) (M : α → List ay) (μ : α → Nat) (Inv : α → Prop) (a0 : α) (k : Nat) {c : Code} (h0 : rk n0 k n (F a0) (M a0) st) (hi : Inv a0)
  (step : ∀ a, Inv a → ∀ K : St → Prop, (∀ s, (∃ a', Inv a' ∧ μ a' < μ a ∧ rk n0 k n (F a') (M a') s) → K s) → vc m P tt sp ρ n0 c ⟨W n (F a), M a⟩ (dZ K Q)) : X k_ m P ρ n0 (.loop c) st Q := Oz F M μ Inv a0 k h0 hi fun a h => vx ht (step a h _ fun _ h => h)
def pk (ws : List (Nat × V)) : List Nat → List (Nat × V)
 | [] => []
 | k :: r => (k, lk k ws) :: pk ws r
def zk : List Nat → List V → List (Nat × V) → List (Nat × V)
 | t :: ts, v :: vs, r => (t, v) :: zk ts vs r
 | _, _, r => r
theorem OA {ks : List Nat} : je ws (pk ws ks) := by
 induction ks with
 | nil => trivial
 | cons k r ih => exact ⟨rfl, ih⟩
theorem aW {k : Nat} {p : Nat × V} : FE k (p :: ws) = (ai k p.2 && FE k ws) := Sx rfl
theorem bo {k : Nat} : FE k [] = true := Sx rfl
theorem OB (ht : TT P tt) (sp : List Nat) (ts : List Nat) (SI : List V) (k : Nat) (ks : List Nat) (μ : List V → Nat) (Inv : List V → Prop) {c : Code} (hn : n0 ≤ k) (h0 : je jO (zk ts SI (pk jO ks)) ∧ FE k (zk ts SI (pk jO ks)) = true ∧ (fT.take k).all (aA k) = true) (hi : Inv SI)
  (step : ∀ vs, Inv vs → ∀ K : St → Prop, (∀ s, (∃ vs', Inv vs' ∧ μ vs' < μ vs ∧ rk n0 k n (zk ts vs' (pk jO ks)) (fT.take k) s) → K s) → vc m P tt sp ρ n0 c ⟨W n (zk ts vs (pk jO ks)), fT.take k⟩ (dZ K Q)) : X k_ m P ρ n0 (.loop c) ⟨W n jO, fT⟩ Q :=
 ct ht sp (fun vs => zk ts vs (pk jO ks)) (fun _ => fT.take k) μ Inv SI k (ba hn ⟨h0.1, h0.2.1, h0.2.2, rfl⟩) hi step
def fa (ws : List (Nat × V)) : List Nat → List V
 | [] => []
 | t :: r => lk t ws :: fa ws r
theorem wE : ∀ {ts : List Nat} {r : List (Nat × V)}, je ws r → je ws (zk ts (fa ws ts) r)
 | [], r, h => h
 | t :: ts, r, h => ⟨rfl, wE h⟩
theorem bA (ht : TT P tt) (sp : List Nat) (ts : List Nat) (k : Nat) (ks : List Nat) (μ : List V → Nat) (Inv : List V → Prop) {c : Code} (hn : n0 ≤ k) (h0 : FE k (zk ts (fa jO ts) (pk jO ks)) = true ∧ (fT.take k).all (aA k) = true) (hi : Inv (fa jO ts))
  (step : ∀ vs, Inv vs → ∀ K : St → Prop, (∀ s, (∃ vs', Inv vs' ∧ μ vs' < μ vs ∧ rk n0 k n (zk ts vs' (pk jO ks)) (fT.take k) s) → K s) → vc m P tt sp ρ n0 c ⟨W n (zk ts vs (pk jO ks)), fT.take k⟩ (dZ K Q)) : X k_ m P ρ n0 (.loop c) ⟨W n jO, fT⟩ Q :=
 OB ht sp ts (fa jO ts) k ks μ Inv hn ⟨wE OA, h0⟩ hi step
theorem cA {ts ks : List Nat} {k j : Nat} {Inv : List V → Prop} {μ : List V → Nat} {Jj : List (Nat × V)} {G1 : List ay} (hn : n0 ≤ k) (h : je Jj (pk jO ks) ∧ FE k (zk ts (fa Jj ts) (pk jO ks)) = true ∧ (fT.take k).all (aA k) = true ∧ G1.take k = fT.take k) (hi : Inv (fa Jj ts)) (hm : μ (fa Jj ts) < j) :
  ∃ vs', Inv vs' ∧ μ vs' < j ∧ rk n0 k n (zk ts vs' (pk jO ks)) (fT.take k) ⟨W n Jj, G1⟩ := ⟨_, hi, hm, ba hn ⟨wE h.1, h.2⟩⟩
theorem SJ {ts ks : List Nat} {k : Nat} {Inv : List V → Prop} {Jj : List (Nat × V)} {G1 : List ay} (hn : n0 ≤ k) (h : je Jj (pk jO ks) ∧ FE k (zk ts (fa Jj ts) (pk jO ks)) = true ∧ (fT.take k).all (aA k) = true ∧ G1.take k = fT.take k) (hi : Inv (fa Jj ts)) :
  ∃ vs', Inv vs' ∧ rk n0 k n (zk ts vs' (pk jO ks)) (fT.take k) ⟨W n Jj, G1⟩ := ⟨_, hi, ba hn ⟨wE h.1, h.2⟩⟩
theorem SK (ht : TT P tt) (sp : List Nat) (ts : List Nat) (k : Nat) (ks : List Nat) (Inv : List V → Prop) {x y : Code}
  (h1 : ∀ K : St → Prop, (∀ s, (∃ vs, Inv vs ∧ rk n0 k n (zk ts vs (pk jO ks)) (fT.take k) s) → K s) → vc m P tt sp ρ n0 x ⟨W n jO, fT⟩ (dZ K Q))
  (h2 : ∀ vs, Inv vs → vc m P tt sp ρ n0 y ⟨W n (zk ts vs (pk jO ks)), fT.take k⟩ Q) : X k_ m P ρ n0 (.seq x y) ⟨W n jO, fT⟩ Q := by
 refine u0 ((vx ht (h1 _ fun _ h => h)).mono fun e s h => ?_)
 cases e with
 | normal =>
  obtain ⟨vs, hv, hl⟩ := h
  exact GZ (k_ := k_) hl (vx ht (h2 vs hv))
 | _ => exact h
theorem rl {c : Code} {v v' : V} (t : Nat) (hn : t < n) (h0 : lk t ws = v) (hp : eA mem v = some v') (h : X k_ m P ρ n0 c ⟨W n ((t, v') :: ws), bY mem (cr v)⟩ Q) : X k_ m P ρ n0 c ⟨W n ws, mem⟩ Q := by
 have hg : (⟨W n ws, mem⟩ : St).fr[t]? = some v := by rw [← h0]; show (W n ws)[t]? = _; rw [nf, if_pos hn]
 rw [← CN] at h
 cases m
 ·exact Om t hg hp h
 ·exact CM t hg hp h
def MH (_ : Tk) (P : Program) (f : FuncId) (o : Option (List V)) (st : St) (dst : Option Tmp) (Q : St → Prop) : Prop := ∃ vs' r, o = some vs' ∧ wi P f vs' r ∧ Q (st.put dst r)
def OC (_ : Tk) (P : Program) (f : FuncId) (o : Option (List V)) (st : St) (key : Nat) (dst : Option Tmp) (Q : St → Prop) : Prop := ∃ vs' e rs, o = some vs' ∧ sC P f vs' e rs ∧ Q (sD st key dst e rs)
def OD (_ : Tk) (P : Program) (f : FuncId) (o : Option (List V)) (keys : List (Nat × Nat)) (st : St) (dst : Option Tmp) (Q : St → Prop) : Prop := ∃ vs' r, o = some vs' ∧ aP P f vs' r ∧ Q ({ st with mem := cP st.mem keys r }.put dst r)
def G2 (_ : Tk) (P : Program) (f : FuncId) (vs : List V) (k : Nat) (st : St) (dst : Option Tmp) (Q : St → Prop) : Prop := Aw P f vs k st dst Q
def G3 (P : Program) (tt : Table) (o : Oper) (um st : St) (Q : St → Prop) : Prop :=
 match o.op with
 | .call { callee := .value f, args := xs, .. } => bq tk (bn (um.eval f) (xs.toList.map um.eval)) fun p => MH tk P p.1 (cD [] p.2) st o.dst Q
 | _ => bq tk (rh P tt o um) fun v => Q (st.put o.dst v)
def OE (P : Program) (o : Oper) (key : Nat) (st : St) (Q : St → Prop) : Prop :=
 match o.op with
 | .call { callee := .value f, args := xs, .. } => bq tk (bn (st.eval f) (xs.toList.map st.eval)) fun p => OC tk P p.1 (cD [] p.2) st key o.dst Q
 | _ => False
def zG (P : Program) (o : Oper) (st : St) (Q : St → Prop) : Prop :=
 match o.op with
 | .call { callee := .value f, args := xs, .. } => bq tk (bn (st.eval f) (xs.toList.map st.eval)) fun p => OD tk P p.1 (cD st.mem p.2) (p.2.flatMap cr) st o.dst Q
 | _ => False
def eG (P : Program) (o : Oper) (k : Nat) (st : St) (Q : St → Prop) : Prop :=
 match o.op with
 | .call { callee := .value f, args := xs, .. } => bq tk (bn (st.eval f) (xs.toList.map st.eval)) fun p => G2 tk P p.1 p.2 k st o.dst Q
 | _ => False
def G4 (P : Program) (tt : Table) (base : Nat) (o : Oper) (p : Pl) (st : St) (Q : St → Prop) : Prop := match p.cls with
 | .n => G3 P tt o { st with mem := [] } st Q
 | .r => G3 P tt o { st with mem := dm (p.mask.map (base + ·) ++ p.abs) st.mem } st Q
 | .a => isHole st.mem (base + p.key) = true ∧ nq tk (ej tt o (base + p.key) st) (fun q => Q ({ st with mem := st.mem.set (base + p.key) q.1 }.put o.dst q.2)) (OE P o (base + p.key) st Q)
 | .w => isHole st.mem (base + p.key) = true ∧ bq tk (oF P tt (base + p.key) o st) fun q => Q ({ st with mem := q.1 }.put o.dst q.2)
 | .s => bq tk (ri tt (base + p.key) o st) fun mem => Q ({ st with mem := mem }.put o.dst (.sc undef))
 | .b => bq tk (kW tt o st) fun v => Q (st.put o.dst v)
 | .z => zG P o st Q
 | .e => eG P o p.key st Q
theorem OF {all : Array Oper} {base : Nat} {o : Oper} {p : Pl} {Q : St → Prop} (hw : cZ all st.fr o = some true) (h : G4 P tt base o p st Q) : dM P tt all base o p st Q := by
 have hv : ∀ {um : St}, G3 P tt o um st Q → wj P tt o um st Q := fun {um} h => by
  unfold G3 at h
  unfold wj
  split at h
  ·rename_i f xs ts kd
   rw [kd]
   dsimp only
   rw [fL] at h
   obtain ⟨⟨g, vs⟩, h1, h2⟩ := h
   rw [h1]
   exact h2
  ·rename_i kd
   split
   ·rename_i f xs ts Wh; exact (kd f xs ts Wh).elim
   ·rw [fL] at h
    obtain ⟨v, h1, h2⟩ := h
    rw [h1]; exact h2
 unfold G4 at h
 unfold dM
 rw [hw]
 dsimp only
 split at h <;> (rename_i hc; rw [hc]; dsimp only)
 ·exact hv h
 ·exact hv h
 ·refine ⟨h.1, ?_⟩
  have h := h.2
  cases hn : ej tt o (base + p.key) st with
  | some q => rw [hn, oQ] at h; exact h
  | none =>
   rw [hn, oR] at h
   dsimp only
   unfold OE at h
   unfold nA
   split at h
   ·rename_i kd
    rw [kd]
    dsimp only
    rw [fL] at h
    obtain ⟨⟨g, vs⟩, h1, h2⟩ := h
    rw [h1]; exact h2
   ·exact h.elim
 ·refine ⟨h.1, ?_⟩
  have h := h.2
  rw [fL] at h
  obtain ⟨q, h1, h2⟩ := h
  rw [h1]; exact h2
 ·rw [fL] at h
  obtain ⟨q, h1, h2⟩ := h
  rw [h1]; exact h2
 ·rw [fL] at h
  obtain ⟨q, h1, h2⟩ := h
  rw [h1]; exact h2
 ·unfold zG at h
  unfold lD
  split at h
  ·rename_i kd
   rw [kd]
   dsimp only
   rw [fL] at h
   obtain ⟨⟨g, vs⟩, h1, h2⟩ := h
   rw [h1]; exact h2
  ·exact h.elim
 ·unfold eG at h
  unfold uR
  split at h
  ·rename_i kd
   rw [kd]
   dsimp only
   rw [fL] at h
   obtain ⟨⟨g, vs⟩, h1, h2⟩ := h
   rw [h1]; exact h2
  ·exact h.elim
def wF (P : Program) (tt : Table) (all : List Oper) (base : Nat) : List Oper → List Pl → St → (St → Prop) → Prop
 | [], _, st, K => K st
 | o :: r, p :: ps, st, K => gd all o st (fun st => G4 P tt base o p st fun st' => wF P tt all base r ps st' K) (fun st => wF P tt all base r ps (st.put o.dst (.sc undef)) K)
 | _ :: _, [], _, _ => False
theorem OG {all : List Oper} {base : Nat} {ps : List Pl} {K : St → Prop} : wF P tt all base [] ps ⟨W n ws, mem⟩ K = K ⟨W n ws, mem⟩ := fq rfl
theorem OH {all : List Oper} {base : Nat} {o : Oper} {r : List Oper} {p : Pl} {ps : List Pl} {K : St → Prop} : wF P tt all base (o :: r) (p :: ps) ⟨W n ws, mem⟩ K = gd all o ⟨W n ws, mem⟩ (fun st => G4 P tt base o p st fun st' => wF P tt all base r ps st' K) (fun st => wF P tt all base r ps (st.put o.dst (.sc undef)) K) := fq rfl
theorem rG {all : Array Oper} {base : Nat} {Q : St → Prop} : ∀ (l : List Oper) (ps : List Pl) (st : St), wF P tt all.toList base l ps st Q → runM P tt all base l ps st Q
 | [], ps, st, h => h
 | o :: r, [], st, h => h.elim
 | o :: r, p :: ps, st, h => by
  rw [runM]
  rcases MG (show gd all.toList o st _ _ from h) with ⟨hw, h⟩ | ⟨hw, h⟩
  ·have h := OF hw h
   by_cases hz : p.cls = .z
   ·unfold dM at h ⊢
    rw [hw, hz] at h ⊢
    exact sE h fun s hs => rG r ps s hs
   ·obtain ⟨v, m, h1, h2⟩ := (ee hz).1 h
    exact (ee hz).2 ⟨v, m, h1, rG r ps _ h2⟩
  ·unfold dM
   rw [hw]
   exact rG r ps _ h
theorem bu (ht : TT P tt) (hm : P.follows .mixedOrders = true) (plan : List Pl) (j : Nat) {id : Nat} {ops : Array Oper} (bM : sJ ops plan = true) (h : wF P tt ops.toList st.mem.length ops.toList plan { st with mem := st.mem ++ List.replicate j .hole } (Q .normal)) : X k_ m P ρ n0 (.region id ops true) st Q := by
 have h := rG _ _ _ h
 cases m
 ·obtain ⟨s, h1, h2⟩ := rF _ _ _ h
  exact ⟨.normal, s, h1, fun Q' h' => pK ht hm plan j bM (h2 _ h')⟩
 ·exact pK ht hm plan j bM h
theorem Wi (ht : TT P tt) (sp : List Nat) (hm : P.follows .mixedOrders = true) (plan : List Pl) (j : Nat) {id : Nat} {ops : Array Oper} {y : Code} (bM : sJ ops plan = true)
  (h : wF P tt ops.toList st.mem.length ops.toList plan { st with mem := st.mem ++ List.replicate j .hole } fun s => vc m P tt sp ρ n0 y s Q) : X k_ m P ρ n0 (.seq (.region id ops true) y) st Q :=
 u0 ((bu (Q := dZ (fun s => vc m P tt sp ρ n0 y s Q) Q) ht hm plan j bM h).mono (sS ht))
section
variable {k : Tk} {f : FuncId} {vs vs' : List V} {o : Option (List V)} {keys : List (Nat × Nat)} {dst : Option Tmp} {Q : St → Prop}
theorem cF {R : V → Prop} (hr : ∃ v, R v ∧ aP P f vs' v) (h : ∀ v, R v → Q ({ st with mem := cP st.mem keys v }.put dst v)) : oS k m P f vs (some vs') keys st dst Q := by
 obtain ⟨v, h1, h2⟩ := hr
 exact .inl ⟨vs', v, rfl, h2, h v h1⟩
theorem cW {R : V → List ay → Prop} (hr : ∃ v m', R v m' ∧ aU P f vs st.mem v m') (h : ∀ v m', R v m' → Q ({ st with mem := m' }.put dst v)) : oS k m P f vs o keys st dst Q := by
 obtain ⟨v, m', h1, h2⟩ := hr
 exact .inr (.inl ⟨v, m', h2, h v m' h1⟩)
theorem cS {R : V → Prop} (hr : ∃ v, R v ∧ aU P f vs st.mem v st.mem) (h : ∀ v, R v → Q (st.put dst v)) : oS k m P f vs o keys st dst Q := by
 obtain ⟨v, h1, h2⟩ := hr
 exact .inr (.inl ⟨v, _, h2, h v h1⟩)
theorem cR {R : V → List ay → Prop} (hr : gH P f vs st.mem R) (h : ∀ v m', R v m' → Q ({ st with mem := m' }.put dst v)) : oS k true P f vs o keys st dst Q := .inr (.inr (.inl ⟨rfl, R, hr, h⟩))
theorem cG {R : V → Prop} (hr : ∃ v, R v ∧ aP P f vs' v) (h : ∀ v, R v → Q (st.put dst v)) : MH k P f (some vs') st dst Q := by
 obtain ⟨v, h1, h2⟩ := hr
 exact ⟨vs', v, rfl, .inl h2, h v h1⟩
theorem XP {R : V → ay → Prop} {j : Nat} {B0 : ay} (hv : st.mem[j]? = some B0) (h0 : B0.aC = 0) (hr : ∃ v B, R v B ∧ B.aC = 0 ∧ ∀ mem : List ay, mem[j]? = some B0 → aU P f vs mem v (mem.set j B)) (h : ∀ v B, R v B → Q ({ st with mem := st.mem.set j B }.put dst v)) : G2 k P f vs j st dst Q := El hv h0 hr h
end
def sT : Nat → List V → List (Nat × V)
 | i, v :: vs => (i, v) :: sT (i + 1) vs
 | _, [] => []
theorem CS : ∀ (vs : List V) (i t : Nat), lk t (sT i vs) = if i ≤ t then vs.getD (t - i) .undef else .undef
 | [], i, t => by simp [sT, lk]
 | v :: vs, i, t => by
  simp only [sT,lk]
  rw [CS vs (i + 1) t]
  by_cases h : i = t
  ·subst h; simp
  ·rw [if_neg h]
   by_cases h2 : i + 1 ≤ t
   ·rw [if_pos h2, if_pos (by omega), show t - i = (t - (i + 1)) + 1 by omega]; simp
   ·rw [if_neg h2, if_neg (by omega)]
theorem wG {fn : Func} {args : List V} {c : Code} (hn : fn.ntmps = n) (hl : args.length ≤ n) (h : X k_ m P ρ n0 c ⟨W n (sT 0 args), mem⟩ Q) : X k_ m P ρ n0 c (ew fn args mem) Q := by
 refine sR (st' := ⟨W n (sT 0 args), mem⟩) (fun E w a hs => ⟨hs.F, hs.lt, hs.mem, hs.top, hs.aC, hs.apart, ?_⟩) h
 have hr := hs.fr
 simp only [ew,hn] at hr
 refine ⟨by rw [← hr.1, jN, List.length_append, List.length_replicate]; omega, fun i v x hv hx => ?_⟩
 rw [nf] at hv
 split at hv
 ·rename_i hi
  cases hv
  rw [CS, if_pos (Nat.zero_le _), Nat.sub_zero, List.getD_eq_getElem?_getD]
  cases ha : args[i]? with
  | none => exact .undef _ _
  | some v => exact hr.2 i v x (by rw [List.getElem?_append_left (List.getElem?_eq_some_iff.1 ha).1]; exact ha) hx
 ·cases hv
def Km (R : V → Prop) (o : Option V) : Prop := ∃ r, R r ∧ o = some r
theorem Eo {R : V → Prop} {v : V} : Km R (some v) = R v := propext ⟨fun ⟨_, h, e⟩ => by cases e; exact h, fun h => ⟨v, h, rfl⟩⟩
theorem G5 {K : V → Prop} {L : List V} {k : Nat} (h : L.length = k) (hk : K (.slice L)) : Km K (if k ≤ L.length then some (.slice (L.take k)) else none) := by
 subst h
 rw [if_pos (Nat.le_refl _), List.take_length]
 exact ⟨_, hk, rfl⟩
def OI (R : V → Prop) (tt : Table) (rs : Array ResultVar) (e : Exit) (s : St) : Prop := (e = .ret ∨ e = .normal) ∧ Km R (mK tt rs s)
theorem G6 {R : V → Prop} {rs : Array ResultVar} : OI R tt rs .ret ⟨W n ws, mem⟩ = Km R (mK tt rs ⟨W n ws, mem⟩) := propext ⟨fun h => h.2, fun h => ⟨.inl rfl, h⟩⟩
def Kn (R : V → List ay → Prop) (k : Nat) (o : Option V) (mem : List ay) : Prop := ∃ r, R r mem ∧ o = some r ∧ ai k r = true ∧ mem.all (aA k) = true
theorem Ep {R : V → List ay → Prop} {k : Nat} {v : V} : Kn R k (some v) mem = (R v mem ∧ ai k v = true ∧ mem.all (aA k) = true) := propext ⟨fun ⟨_, h, e, h2⟩ => by cases e; exact ⟨h, h2⟩, fun ⟨h, h2⟩ => ⟨v, h, rfl, h2⟩⟩
def Ko (R : V → List ay → Prop) (k : Nat) (tt : Table) (rs : Array ResultVar) (e : Exit) (s : St) : Prop := (e = .ret ∨ e = .normal) ∧ Kn R k (iE tt rs s) (s.mem.take k)
theorem G7 {R : V → List ay → Prop} {k : Nat} {rs : Array ResultVar} : Ko R k tt rs .ret ⟨W n ws, mem⟩ = Kn R k (iE tt rs ⟨W n ws, mem⟩) (mem.take k) := propext ⟨fun h => h.2, fun h => ⟨.inl rfl, h⟩⟩
theorem Er {R : V → List ay → Prop} {k : Nat} {rs : Array ResultVar} : Ko R k tt rs .normal ⟨W n ws, mem⟩ = Kn R k (iE tt rs ⟨W n ws, mem⟩) (mem.take k) := propext ⟨fun h => h.2, fun h => ⟨.inr rfl, h⟩⟩
end
section
variable {P : Program} {tt : Table} {f : FuncId} {fn : Func} {body : Code} {args : List V}
theorem dI (ht : TT P tt) (sp : List Nat) (n : Nat) (rs : List ResultVar) {R : V → Prop} (hf : P.funcs[f]? = some fn) (hb : fn.body = some body)
  (dB : ∀ (xs : Array Value) (w : World), (callFunc f xs).run P w = .ok (.enter f xs) w) (hn : fn.ntmps = n ∧ fn.results = rs.toArray ∧ args.length ≤ n)
  (h : ∀ K : V → Prop, (∀ v, R v → K v) → vc false P tt sp none 0 body ⟨W n (sT 0 args), []⟩ (OI K tt rs.toArray)) : ∃ r, R r ∧ aP P f args r := by
 have h := h R fun _ h => h
 obtain ⟨e, s, ⟨h1, r, hr, h2⟩, h3⟩ := wG (m := false) hn.1 hn.2.2 (vx (k_ := .b) ht h)
 exact ⟨r, hr, Ga ht hf hb dB (h3 _ ⟨h1, by rw [hn.2.1]; exact h2⟩)⟩
theorem QN (ht : TT P tt) (sp : List Nat) (n : Nat) (rs : List ResultVar) {r : V} (hf : P.funcs[f]? = some fn) (hb : fn.body = some body)
  (dB : ∀ (xs : Array Value) (w : World), (callFunc f xs).run P w = .ok (.enter f xs) w) (hn : fn.ntmps = n ∧ fn.results = rs.toArray ∧ args.length ≤ n)
  (h : ∀ K : V → Prop, (∀ v, v = r → K v) → vc true P tt sp none 0 body ⟨W n (sT 0 args), []⟩ (OI K tt rs.toArray)) : aP P f args r := by
 have h := h (fun v => v = r) fun _ h => h
 exact Ga ht hf hb dB (gD.mono (wG (m := true) hn.1 hn.2.2 (vx (k_ := .b) ht h)) fun e s ⟨h1, r', hr, h2⟩ => ⟨h1, by rw [hn.2.1, ← hr]; exact h2⟩)
theorem FF (ht : TT P tt) (sp : List Nat) (n : Nat) (rs : List ResultVar) {R : V → List ay → Prop} {mem : List ay} (k : Nat) (hk : mem.length ≤ k) (hf : P.funcs[f]? = some fn) (hb : fn.body = some body)
  (dB : ∀ (xs : Array Value) (w : World), (callFunc f xs).run P w = .ok (.enter f xs) w) (hn : fn.ntmps = n ∧ fn.results = rs.toArray ∧ args.length ≤ n)
  (h : ∀ K : V → List ay → Prop, (∀ v m', R v m' → K v m') → vc false P tt sp none mem.length body ⟨W n (sT 0 args), mem⟩ (Ko K k tt rs.toArray)) : ∃ r m', R r m' ∧ aU P f args mem r m' := by
 have h := h R fun _ _ h => h
 obtain ⟨e, s, ⟨h1, r, hr, h2, h4⟩, h5⟩ := wG (m := false) hn.1 hn.2.2 (vx (k_ := .b) ht h)
 exact ⟨r, _, hr, Gc ht k hk hf hb dB (h5 _ ⟨h1, by rw [hn.2.1]; exact h2, h4.1, h4.2, rfl⟩)⟩
theorem FG (ht : TT P tt) (sp : List Nat) (n : Nat) (rs : List ResultVar) {R : V → Prop} {mem : List ay} (hf : P.funcs[f]? = some fn) (hb : fn.body = some body)
  (dB : ∀ (xs : Array Value) (w : World), (callFunc f xs).run P w = .ok (.enter f xs) w) (hn : fn.ntmps = n ∧ fn.results = rs.toArray ∧ args.length ≤ n)
  (h : ∀ K : V → List ay → Prop, (∀ v m', R v ∧ m' = mem → K v m') → vc false P tt sp none mem.length body ⟨W n (sT 0 args), mem⟩ (Ko K mem.length tt rs.toArray)) : ∃ r, R r ∧ aU P f args mem r mem := by
 obtain ⟨r, m', ⟨hr, rfl⟩, h⟩ := FF ht sp n rs (R := fun r m' => R r ∧ m' = mem) mem.length (Nat.le_refl _) hf hb dB hn h
 exact ⟨r, hr, h⟩
end
end Go.Eng
end

section
namespace Go.Eng
variable [aG]
open Go.RowKit (Below)

mutual
def bw (σ : Nat → Nat) : V → V
 | .undef => .undef
 | .sc v => .sc v
 | .agg cs => .agg (cg σ cs)
 | .slice rows => .slice rows
 | .ms b v s l => .ms (σ b) v s l
 | .ptr b o => .ptr (σ b) o
 | .de b v i o => .de (σ b) v i o
 | .cn cs => .cn cs
 | .fS f first cap => .fS f (cg σ first) (cg σ cap)
 | .bT vs => .bT (cg σ vs)
 | .ia b => .ia (σ b)
 | .mp b => .mp (σ b)
 | .gn => .gn
 | .full rows => .full rows
def cg (σ : Nat → Nat) : List V → List V
 | [] => []
 | c :: r => bw σ c :: cg σ r
end
theorem cU (σ : Nat → Nat) : ∀ l : List V, cg σ l = l.map (bw σ)
 | [] => rfl
 | c :: r => by rw [cg, cU σ r]; rfl
def cu (σ : Nat → Nat) : ay → ay
 | .box cs => .box (cg σ cs)
 | .loop s p fr ps a b => .loop s p (cg σ fr) ps a b
 | .map br c => .map (br.map fun e => (e.1, e.2.1, bw σ e.2.2)) c
 | .eo m since seen last => .eo (σ m) since seen last
 | B => B
theorem sU (σ : Nat → Nat) (B : ay) : (cu σ B).aC = B.aC := by cases B <;> rfl
theorem aX.yI {E : Env} {v : V} {x : Value} (h : aX E v x) : ∀ {n : Nat} {σ : Nat → Nat} {E2 : Env}, ai n v = true → (∀ ad y, E.F ad = some y → E2.F ad = some y) → (∀ k v t, k < n → E.aK k v = some t → E2.aK (σ k) v = some t) → aX E2 (bw σ v) x := by
 induction h with
 | undef => intros; exact .undef _ _
 | sc => intros; exact .sc _ _
 | slice E rows a cap nn ad xf ha hD hz hF h1 hR ih =>
  intro n σ E2 hb ei hk
  exact .slice _ _ _ _ nn ad xf ha hD hz (fun i row j c hi hj => ei _ _ (hF i row j c hi hj)) h1 fun i row j c hi hj => (hR i row j c hi hj).mono ⟨ei, fun _ _ _ h => by cases h⟩
 | ms E b v s l g e c a cap dX hl h0 uD =>
  intro n σ E2 hb ei hk
  exact .ms _ _ _ _ _ g e c _ _ (hk _ _ _ (by simpa [ai] using hb) dX) hl h0 uD
 | df => intros; exact .df _ _ _ _
 | ptr E b o g e c dX =>
  intro n σ E2 hb ei hk
  exact .ptr _ _ _ g e c (hk _ _ _ (by simpa [ai] using hb) dX)
 | ia E b l e c dX =>
  intro n σ E2 hb ei hk
  exact .ia _ _ l e c (hk _ _ _ (by simpa [ai] using hb) dX)
 | mp E b l e c dX =>
  intro n σ E2 hb ei hk
  exact .mp _ _ l e c (hk _ _ _ (by simpa [ai] using hb) dX)
 | de E b v i o g e c dX =>
  intro n σ E2 hb ei hk
  exact .de _ _ _ _ _ g e c (hk _ _ _ (by simpa [ai] using hb) dX)
 | cn E cs ad xf hF hR ih =>
  intro n σ E2 hb ei hk
  exact .cn _ _ _ xf (fun j c hj => ei _ _ (hF j c hj)) fun j c hj => (hR j c hj).mono ⟨ei, fun _ _ _ h => by cases h⟩
 | gn => intros; exact .gn _
 | full E rows a h ih =>
  intro n σ E2 hb ei hk
  exact .full _ _ _ (ih (n := n) (σ := σ) rfl ei hk)
 | agg E cs xs hl hh ih =>
  intro n σ E2 hb ei hk
  rw [ai, cz] at hb
  rw [bw, cU]
  refine .agg _ _ _ (by rw [List.length_map]; exact hl) fun i c x hc hx => ?_
  rw [List.getElem?_map, Option.map_eq_some_iff] at hc
  obtain ⟨c0, AQ, rfl⟩ := hc
  exact ih i c0 x AQ hx (List.all_eq_true.1 hb c0 (List.mem_of_getElem? AQ)) ei hk
 | bT E cs xs hl hh ih =>
  intro n σ E2 hb ei hk
  rw [ai, cz] at hb
  rw [bw, cU]
  refine .bT _ _ _ (by rw [List.length_map]; exact hl) fun i c x hc hx => ?_
  rw [List.getElem?_map, Option.map_eq_some_iff] at hc
  obtain ⟨c0, AQ, rfl⟩ := hc
  exact ih i c0 x AQ hx (List.all_eq_true.1 hb c0 (List.mem_of_getElem? AQ)) ei hk
 | fS E f first cap xs ys hx hy h1 h2 Ni Nj =>
  intro n σ E2 hb ei hk
  rw [ai, cz, cz, Bool.and_eq_true] at hb
  rw [bw, cU, cU]
  refine .fS _ _ _ _ _ _ (by rw [List.length_map]; exact hx) (by rw [List.length_map]; exact hy) (fun i c x hc hx => ?_) fun i c x hc hx => ?_
  ·rw [List.getElem?_map, Option.map_eq_some_iff] at hc
   obtain ⟨c0, AQ, rfl⟩ := hc
   exact Ni i c0 x AQ hx (List.all_eq_true.1 hb.1 c0 (List.mem_of_getElem? AQ)) ei hk
  ·rw [List.getElem?_map, Option.map_eq_some_iff] at hc
   obtain ⟨c0, AQ, rfl⟩ := hc
   exact Nj i c0 x AQ hx (List.all_eq_true.1 hb.2 c0 (List.mem_of_getElem? AQ)) ei hk
theorem aX.qN {E : Env} {u : V} {x : Value} (h : aX E u x) : ∀ {v : V} {n : Nat} {σ : Nat → Nat} {E2 : Env}, u = bw σ v → ai n v = true → (∀ ad y, E.F ad = some y → E2.F ad = some y) → (∀ k v t, k < n → E.aK (σ k) v = some t → E2.aK k v = some t) → aX E2 v x := by
 induction h with
 | undef =>
  intro v n σ E2 he hb ei hk
  cases v <;> simp only [bw,reduceCtorEq] at he
  exact .undef _ _
 | sc =>
  intro v n σ E2 he hb ei hk
  cases v <;> simp only [bw,reduceCtorEq,V.sc.injEq] at he
  subst he; exact .sc _ _
 | slice E rows a cap nn ad xf ha hD hz hF h1 hR ih =>
  intro v n σ E2 he hb ei hk
  cases v <;> simp only [bw,reduceCtorEq,V.slice.injEq] at he
  subst he
  exact .slice _ _ _ _ nn ad xf ha hD hz (fun i row j c hi hj => ei _ _ (hF i row j c hi hj)) h1 fun i row j c hi hj => (hR i row j c hi hj).mono ⟨ei, fun _ _ _ h => by cases h⟩
 | ms E b v s l g e c a cap dX hl h0 uD =>
  intro v n σ E2 he hb ei hk
  cases v <;> simp only [bw,reduceCtorEq,V.ms.injEq] at he
  obtain ⟨rfl, rfl, rfl, rfl⟩ := he
  exact .ms _ _ _ _ _ g e c _ _ (hk _ _ _ (by simpa [ai] using hb) dX) hl h0 uD
 | df =>
  intro v n σ E2 he hb ei hk
  cases v <;> simp only [bw,reduceCtorEq,V.ms.injEq] at he
  obtain ⟨rfl, rfl, rfl, rfl⟩ := he
  exact .df _ _ _ _
 | ptr E b o g e c dX =>
  intro v n σ E2 he hb ei hk
  cases v <;> simp only [bw,reduceCtorEq,V.ptr.injEq] at he
  obtain ⟨rfl, rfl⟩ := he
  exact .ptr _ _ _ g e c (hk _ _ _ (by simpa [ai] using hb) dX)
 | ia E b l e c dX =>
  intro v n σ E2 he hb ei hk
  cases v <;> simp only [bw,reduceCtorEq,V.ia.injEq] at he
  subst he
  exact .ia _ _ l e c (hk _ _ _ (by simpa [ai] using hb) dX)
 | mp E b l e c dX =>
  intro v n σ E2 he hb ei hk
  cases v <;> simp only [bw,reduceCtorEq,V.mp.injEq] at he
  subst he
  exact .mp _ _ l e c (hk _ _ _ (by simpa [ai] using hb) dX)
 | de E b v i o g e c dX =>
  intro v n σ E2 he hb ei hk
  cases v <;> simp only [bw,reduceCtorEq,V.de.injEq] at he
  obtain ⟨rfl, rfl, rfl, rfl⟩ := he
  exact .de _ _ _ _ _ g e c (hk _ _ _ (by simpa [ai] using hb) dX)
 | cn E cs ad xf hF hR ih =>
  intro v n σ E2 he hb ei hk
  cases v <;> simp only [bw,reduceCtorEq,V.cn.injEq] at he
  subst he
  exact .cn _ _ _ xf (fun j c hj => ei _ _ (hF j c hj)) fun j c hj => (hR j c hj).mono ⟨ei, fun _ _ _ h => by cases h⟩
 | full E rows a h ih =>
  intro v n σ E2 he hb ei hk
  cases v <;> simp only [bw,reduceCtorEq,V.full.injEq] at he
  subst he
  exact .full _ _ _ (ih (v := .slice rows) (n := n) (σ := σ) rfl rfl ei hk)
 | gn =>
  intro v n σ E2 he hb ei hk
  cases v <;> simp only [bw,reduceCtorEq] at he
  exact .gn _
 | agg E cs xs hl hh ih =>
  intro v n σ E2 he hb ei hk
  cases v <;> simp only [bw,reduceCtorEq,V.agg.injEq] at he
  subst he
  rw [ai, cz] at hb
  rw [cU, List.length_map] at hl
  refine .agg _ _ _ hl fun i c x hc hx => ?_
  exact ih i (bw σ c) x (by rw [cU, List.getElem?_map, hc]; rfl) hx rfl (List.all_eq_true.1 hb c (List.mem_of_getElem? hc)) ei hk
 | bT E cs xs hl hh ih =>
  intro v n σ E2 he hb ei hk
  cases v <;> simp only [bw,reduceCtorEq,V.bT.injEq] at he
  subst he
  rw [ai, cz] at hb
  rw [cU, List.length_map] at hl
  refine .bT _ _ _ hl fun i c x hc hx => ?_
  exact ih i (bw σ c) x (by rw [cU, List.getElem?_map, hc]; rfl) hx rfl (List.all_eq_true.1 hb c (List.mem_of_getElem? hc)) ei hk
 | fS E f first cap xs ys hx hy h1 h2 Ni Nj =>
  intro v n σ E2 he hb ei hk
  cases v <;> simp only [bw,reduceCtorEq,V.fS.injEq] at he
  obtain ⟨rfl, rfl, rfl⟩ := he
  rw [ai, cz, cz, Bool.and_eq_true] at hb
  rw [cU, List.length_map] at hx hy
  refine .fS _ _ _ _ _ _ hx hy (fun i c x hc hx => ?_) fun i c x hc hx => ?_
  ·exact Ni i (bw σ c) x (by rw [cU, List.getElem?_map, hc]; rfl) hx rfl (List.all_eq_true.1 hb.1 c (List.mem_of_getElem? hc)) ei hk
  ·exact Nj i (bw σ c) x (by rw [cU, List.getElem?_map, hc]; rfl) hx rfl (List.all_eq_true.1 hb.2 c (List.mem_of_getElem? hc)) ei hk
theorem aQ.yI {E E2 : Env} {vs : List V} {xs : List Value} {n : Nat} {σ : Nat → Nat} (h : aQ E vs xs) (hb : vs.all (ai n) = true) (hF : ∀ ad y, E.F ad = some y → E2.F ad = some y) (hk : ∀ k v t, k < n → E.aK k v = some t → E2.aK (σ k) v = some t) : aQ E2 (cg σ vs) xs := by
 rw [cU]
 refine ⟨by rw [List.length_map]; exact h.1, fun i v x hv hx => ?_⟩
 rw [List.getElem?_map, Option.map_eq_some_iff] at hv
 obtain ⟨c, hc, rfl⟩ := hv
 exact (h.2 i c x hc hx).yI (List.all_eq_true.1 hb c (List.mem_of_getElem? hc)) hF hk
theorem aQ.qN {E E2 : Env} {vs : List V} {xs : List Value} {n : Nat} {σ : Nat → Nat} (h : aQ E (cg σ vs) xs) (hb : vs.all (ai n) = true) (hF : ∀ ad y, E.F ad = some y → E2.F ad = some y) (hk : ∀ k v t, k < n → E.aK (σ k) v = some t → E2.aK k v = some t) : aQ E2 vs xs := by
 rw [cU] at h
 refine ⟨by have := h.1; rwa [List.length_map] at this, fun i v x hv hx => ?_⟩
 exact (h.2 i (bw σ v) x (by rw [List.getElem?_map, hv]; rfl) hx).qN rfl (List.all_eq_true.1 hb v (List.mem_of_getElem? hv)) hF hk
theorem iw.yI {E E2 : Env} {w w2 : World} {k : Nat} {B : ay} {n : Nat} {σ : Nat → Nat} (h : iw E w k B) (eR : k < n) (hb : aA n B = true) (hF : E2.F = E.F) (hk : ∀ k v, k < n → E2.aK (σ k) v = E.aK k v) (hw : w2.heap = w.heap) : iw E2 w2 (σ k) (cu σ B) := by
 have Ao : ∀ ad y, E.F ad = some y → E2.F ad = some y := fun ad y h => by rw [hF]; exact h
 have fJ : ∀ k v t, k < n → E.aK k v = some t → E2.aK (σ k) v = some t := fun k v t hn h => by rw [hk k v hn]; exact h
 have hp : E2.pure = E.pure := Env.DO hF rfl
 cases B with
 | hole => exact fun v => by rw [hk k v eR]; exact h v
 | dead => trivial
 | box cs =>
  obtain ⟨g, T, xs, h1, h2, h3, h4⟩ := h
  exact ⟨g, T, xs, fJ _ _ _ eR h1, by rw [hw]; exact h2, h3.yI hb Ao fJ, fun o => by rw [hF]; exact h4 o⟩
 | rows v e rs =>
  rcases h with ⟨h1, h2⟩ | ⟨g, T, xs, c, h1, h2, h3, h4, h5, h6⟩
  ·exact .inl ⟨h1, by rw [hk k v eR]; exact h2⟩
  ·exact .inr ⟨g, T, xs, c, fJ _ _ _ eR h1, by rw [hw]; exact h2, h3, h4, by rw [hp]; exact h5, fun o => by rw [hF]; exact h6 o⟩
 | mJ v e rs =>
  rcases h with ⟨h1, h2⟩ | ⟨g, c, h1, h2, h3⟩
  ·exact .inl ⟨h1, by rw [hk k v eR]; exact h2⟩
  ·exact .inr ⟨g, c, fJ _ _ _ eR h1, h2, by rw [hp, hF]; exact h3⟩
 | loop s jm fr params assign body =>
  obtain ⟨l, fn, tmps, db, h1, h2, h3, h4⟩ := h
  exact ⟨l, fn, tmps, db, fJ _ _ _ eR h1, by rw [hw]; exact h2, h3.yI hb Ao fJ, fun o => by rw [hF]; exact h4 o⟩
 | map br clock =>
  obtain ⟨g, es, h1, h2, h3, h4⟩ := h
  refine ⟨g, es, fJ _ _ _ eR h1, by rw [hw]; exact h2, ⟨by rw [List.length_map]; exact h3.1, fun i kb e dG he => ?_⟩, fun o => by rw [hF]; exact h4 o⟩
  rw [List.getElem?_map, Option.map_eq_some_iff] at dG
  obtain ⟨q, hq, rfl⟩ := dG
  obtain ⟨p1, p2, p3⟩ := h3.2 i q e hq he
  exact ⟨p1, p2, p3.yI (List.all_eq_true.1 hb q (List.mem_of_getElem? hq)) Ao fJ⟩
 | eo m since seen last =>
  obtain ⟨g, gm, e, c, h1, h2, h3, h4⟩ := h
  exact ⟨g, gm, e, c, fJ _ _ _ eR h1, fJ _ _ _ (by simpa [aA] using hb) h2, by rw [hw]; exact h3, fun o => by rw [hF]; exact h4 o⟩
 | gX s pos =>
  obtain ⟨g, h1, h2, h3⟩ := h
  exact ⟨g, fJ _ _ _ eR h1, by rw [hw]; exact h2, fun o => by rw [hF]; exact h3 o⟩
 | iv =>
  obtain ⟨g, h1, h2, h3⟩ := h
  exact ⟨g, fJ _ _ _ eR h1, by rw [hw]; exact h2, fun o => by rw [hF]; exact h3 o⟩
theorem iw.qN {E E2 : Env} {w : World} {k : Nat} {B : ay} {n : Nat} {σ : Nat → Nat} (h : iw E w (σ k) (cu σ B)) (eR : k < n) (hb : aA n B = true) (hF : E2.F = E.F) (hk : ∀ k v, k < n → E2.aK k v = E.aK (σ k) v) : iw E2 w k B := by
 have Ao : ∀ ad y, E.F ad = some y → E2.F ad = some y := fun ad y h => by rw [hF]; exact h
 have fJ : ∀ k v t, k < n → E.aK (σ k) v = some t → E2.aK k v = some t := fun k v t hn h => by rw [hk k v hn]; exact h
 have hp : E2.pure = E.pure := Env.DO hF rfl
 cases B with
 | hole => exact fun v => by rw [hk k v eR]; exact h v
 | dead => trivial
 | box cs =>
  obtain ⟨g, T, xs, h1, h2, h3, h4⟩ := h
  exact ⟨g, T, xs, fJ _ _ _ eR h1, h2, h3.qN hb Ao fJ, fun o => by rw [hF]; exact h4 o⟩
 | rows v e rs =>
  rcases h with ⟨h1, h2⟩ | ⟨g, T, xs, c, h1, h2, h3, h4, h5, h6⟩
  ·exact .inl ⟨h1, by rw [hk k v eR]; exact h2⟩
  ·exact .inr ⟨g, T, xs, c, fJ _ _ _ eR h1, h2, h3, h4, by rw [hp]; exact h5, fun o => by rw [hF]; exact h6 o⟩
 | mJ v e rs =>
  rcases h with ⟨h1, h2⟩ | ⟨g, c, h1, h2, h3⟩
  ·exact .inl ⟨h1, by rw [hk k v eR]; exact h2⟩
  ·exact .inr ⟨g, c, fJ _ _ _ eR h1, h2, by rw [hp, hF]; exact h3⟩
 | loop s jm fr params assign body =>
  obtain ⟨l, fn, tmps, db, h1, h2, h3, h4⟩ := h
  exact ⟨l, fn, tmps, db, fJ _ _ _ eR h1, h2, h3.qN hb Ao fJ, fun o => by rw [hF]; exact h4 o⟩
 | map br clock =>
  obtain ⟨g, es, h1, h2, h3, h4⟩ := h
  refine ⟨g, es, fJ _ _ _ eR h1, h2, ⟨by have := h3.1; rwa [List.length_map] at this, fun i q e hq he => ?_⟩, fun o => by rw [hF]; exact h4 o⟩
  obtain ⟨p1, p2, p3⟩ := h3.2 i _ e (by rw [List.getElem?_map, hq]; rfl) he
  exact ⟨p1, p2, p3.qN rfl (List.all_eq_true.1 hb q (List.mem_of_getElem? hq)) Ao fJ⟩
 | eo m since seen last =>
  obtain ⟨g, gm, e, c, h1, h2, h3, h4⟩ := h
  exact ⟨g, gm, e, c, fJ _ _ _ eR h1, fJ _ _ _ (by simpa [aA] using hb) h2, h3, fun o => by rw [hF]; exact h4 o⟩
 | gX s pos =>
  obtain ⟨g, h1, h2, h3⟩ := h
  exact ⟨g, fJ _ _ _ eR h1, h2, fun o => by rw [hF]; exact h3 o⟩
 | iv =>
  obtain ⟨g, h1, h2, h3⟩ := h
  exact ⟨g, fJ _ _ _ eR h1, h2, fun o => by rw [hF]; exact h3 o⟩

def gf (σ : Nat → Nat) : Nat → List ay → List ay → List ay
 | _, [], M => M
 | i, B :: r, M => gf σ (i + 1) r (M.set (σ i) (cu σ B))
def mM (σ : Nat → Nat) (n : Nat) (aF M : List ay) : List ay := gf σ 0 (aF.take n) M ++ (aF.drop n).map (cu σ)
theorem eg (σ : Nat → Nat) : ∀ (l : List ay) (i : Nat) (M : List ay), (gf σ i l M).length = M.length
 | [], _, _ => rfl
 | B :: r, i, M => by rw [gf, eg σ r]; simp
theorem pR (σ : Nat → Nat) : ∀ (l : List ay) (i : Nat) (M : List ay) (k : Nat), (∀ j, i ≤ j → j < i + l.length → σ j ≠ k) → (gf σ i l M)[k]? = M[k]?
 | [], _, _, _, _ => rfl
 | B :: r, i, M, k, h => by
  rw [gf, pR σ r (i + 1) _ k fun j h1 h2 => h j (by omega) (by simp; omega), List.getElem?_set_ne (h i (Nat.le_refl _) (by simp))]
theorem u4 (σ : Nat → Nat) : ∀ (l : List ay) (i : Nat) (M : List ay) (j : Nat) (B : ay), (∀ a b, i ≤ a → a < i + l.length → i ≤ b → b < i + l.length → σ a = σ b → a = b) → i ≤ j → l[j - i]? = some B → σ j < M.length → (gf σ i l M)[σ j]? = some (cu σ B)
 | [], _, _, _, _, _, _, h, _ => by simp at h
 | C :: r, i, M, j, B, Es, sb, h, aB => by
  rw [gf]
  by_cases hj : j = i
  ·subst hj
   rw [Nat.sub_self] at h; cases h
   rw [pR σ r (j + 1) _ (σ j) fun a h1 h2 e => by have := Es a j (by omega) (by simp; omega) (Nat.le_refl _) (by simp) e; omega]
   rw [List.getElem?_set]; simp [aB]
  ·refine u4 σ r (i + 1) _ j B (fun a b h1 h2 h3 h4 => Es a b (by omega) (by simp; omega) (by omega) (by simp; omega)) (by omega) ?_ (by simpa using aB)
   rw [show j - i = (j - (i + 1)) + 1 by omega] at h
   simpa using h
theorem aU.yI {P : Program} {f : FuncId} {vs : List V} {r : V} {mem aF : List ay} (h : aU P f vs mem r aF) (M : List ay) (σ : Nat → Nat) (n : Nat) (hn : n = mem.length) (hv : vs.all (ai n) = true) (hm : mem.all (aA n) = true) (hr : ai aF.length r = true)
  (Gu : aF.all (aA aF.length) = true) (hlen : n ≤ aF.length) (hσ : ∀ i B, mem[i]? = some B → M[σ i]? = some (cu σ B)) (Es : ∀ i j, i < n → j < n → σ i = σ j → i = j) (iz : ∀ j, n ≤ j → σ j = M.length + (j - n)) :
  aU P f (cg σ vs) M (bw σ r) (mM σ n aF M) := by
 subst hn
 have hold : ∀ i, i < mem.length → σ i < M.length := fun i hi => (List.getElem?_eq_some_iff.1 (hσ i _ (List.getElem?_eq_getElem hi))).1
 have hL : (mM σ mem.length aF M).length = M.length + (aF.length - mem.length) := by
  unfold mM
  rw [List.length_append, eg, List.length_map, List.length_drop]
 have JV : ∀ i B, aF[i]? = some B → (mM σ mem.length aF M)[σ i]? = some (cu σ B) := fun i B hi => by
  unfold mM
  rcases Nat.lt_or_ge i mem.length with aB | cB
  ·rw [List.getElem?_append_left (by rw [eg]; exact hold i aB)]
   refine u4 σ _ 0 M i B (fun a b _ h2 _ h4 he => ?_) (Nat.zero_le _) (by rw [Nat.sub_zero, List.getElem?_take_of_lt aB]; exact hi) (hold i aB)
   rw [List.length_take] at h2 h4
   exact Es a b (by omega) (by omega) he
  ·rw [iz i cB, List.getElem?_append_right (by rw [eg]; omega), eg, Nat.add_sub_cancel_left, List.getElem?_map, List.getElem?_drop, show mem.length + (i - mem.length) = i by omega, hi]; rfl
 have bO : ∀ k, k < M.length → (∀ i, i < mem.length → σ i ≠ k) → (mM σ mem.length aF M)[k]? = M[k]? := fun k hk h => by
  unfold mM
  rw [List.getElem?_append_left (by rw [eg]; exact hk)]
  exact pR σ _ 0 M k fun j _ h2 => h j (by rw [List.length_take] at h2; omega)
 generalize mM σ mem.length aF M = M' at hL JV bO
 refine ⟨h.1, fun E w xs hs hx => ?_⟩
 have Jk : ∀ k v, k < mem.length → (⟨E.F, fun k v => if k < mem.length then E.aK (σ k) v else none, E.gl⟩ : Env).aK k v = E.aK (σ k) v := fun k v hk => if_pos hk
 have OJ : ∀ k v, mem.length ≤ k → (⟨E.F, fun k v => if k < mem.length then E.aK (σ k) v else none, E.gl⟩ : Env).aK k v = none := fun k v hk => if_neg (by omega)
 have A4 : (⟨E.F, fun k v => if k < mem.length then E.aK (σ k) v else none, E.gl⟩ : Env).F = E.F := rfl
 generalize (⟨E.F, fun k v => if k < mem.length then E.aK (σ k) v else none, E.gl⟩ : Env) = E0 at Jk OJ A4
 have fF : ∀ k v t, E0.aK k v = some t → k < mem.length ∧ E.aK (σ k) v = some t := fun k v t h => by
  rcases Nat.lt_or_ge k mem.length with hk | hk
  ·exact ⟨hk, by rw [← Jk k v hk]; exact h⟩
  ·rw [OJ k v hk] at h; cases h
 have FD : bd E0 w { tmps := #[], defers := [] } { fr := [], mem := mem } :=
  ⟨fun ad y hy => hs.F ad y (by rw [← A4]; exact hy), fun k v g e c hk => hs.lt _ _ _ _ _ (fF _ _ _ hk).2,
   fun k B hk => (hs.mem _ _ (hσ k B hk)).qN (List.getElem?_eq_some_iff.1 hk).1 (List.all_eq_true.1 hm B (List.mem_of_getElem? hk)) A4 Jk,
   fun k hk v => OJ k v hk, fun k B hk v hv => by
    rw [Jk k v (List.getElem?_eq_some_iff.1 hk).1]
    exact hs.aC _ _ (hσ k B hk) v (by rw [sU]; exact hv),
   fun k k' v v' g e c e' c' h1 h2 => by
    obtain ⟨p1, p2⟩ := fF _ _ _ h1
    obtain ⟨q1, q2⟩ := fF _ _ _ h2
    exact Es k k' p1 q1 (hs.apart _ _ _ _ _ _ _ _ _ p2 q2), .nil _⟩
 have jF : aQ E0 vs xs.toList := hx.qN hv (fun ad y hy => by rw [A4]; exact hy) fun k v t hk h => by rw [Jk k v hk]; exact h
 refine (h.2 E0 w xs FD jF).mono ?_
 rintro en w1 ⟨E1, x, rfl, du, la, tX⟩
 have G8 : ∀ i v, i < mem.length → (⟨E1.F, fun K v => match (List.range mem.length).find? (fun i => σ i == K) with | some i => E1.aK i v | none => if K < M.length then E.aK K v else E1.aK (K - M.length + mem.length) v, E1.gl⟩ : Env).aK (σ i) v = E1.aK i v := fun i v hi => by
  show (match (List.range mem.length).find? (fun j => σ j == σ i) with | some i => E1.aK i v | none => _) = _
  have : (List.range mem.length).find? (fun j => σ j == σ i) = some i := by
   cases hf : (List.range mem.length).find? (fun j => σ j == σ i) with
   | none =>
    have := List.find?_eq_none.1 hf i (List.mem_range.2 hi)
    simp at this
   | some j =>
    have h1 := List.find?_some hf
    have h2 := List.mem_range.1 (List.mem_of_find?_eq_some hf)
    rw [Es j i h2 hi (by simpa using h1)]
  rw [this]
 have ec : ∀ K, (∀ i, i < mem.length → σ i ≠ K) → (List.range mem.length).find? (fun i => σ i == K) = none := fun K h => List.find?_eq_none.2 fun i hi => by
  have := h i (List.mem_range.1 hi)
  simpa using this
 have hB : ∀ K v, K < M.length → (∀ i, i < mem.length → σ i ≠ K) → (⟨E1.F, fun K v => match (List.range mem.length).find? (fun i => σ i == K) with | some i => E1.aK i v | none => if K < M.length then E.aK K v else E1.aK (K - M.length + mem.length) v, E1.gl⟩ : Env).aK K v = E.aK K v := fun K v hK h => by
  show (match (List.range mem.length).find? (fun j => σ j == K) with | some i => E1.aK i v | none => _) = _
  rw [ec K h]
  exact if_pos hK
 have JB : ∀ i v, mem.length ≤ i → (⟨E1.F, fun K v => match (List.range mem.length).find? (fun i => σ i == K) with | some i => E1.aK i v | none => if K < M.length then E.aK K v else E1.aK (K - M.length + mem.length) v, E1.gl⟩ : Env).aK (σ i) v = E1.aK i v := fun i v hi => by
  show (match (List.range mem.length).find? (fun j => σ j == σ i) with | some i => E1.aK i v | none => _) = _
  have jC := iz i hi
  rw [ec (σ i) fun j hj e => by have := hold j hj; omega]
  show (if σ i < M.length then E.aK (σ i) v else E1.aK (σ i - M.length + mem.length) v) = _
  rw [if_neg (by omega), jC, show M.length + (i - mem.length) - M.length + mem.length = i by omega]
 have A5 : (⟨E1.F, fun K v => match (List.range mem.length).find? (fun i => σ i == K) with | some i => E1.aK i v | none => if K < M.length then E.aK K v else E1.aK (K - M.length + mem.length) v, E1.gl⟩ : Env).F = E1.F := rfl
 generalize (⟨E1.F, fun K v => match (List.range mem.length).find? (fun i => σ i == K) with | some i => E1.aK i v | none => if K < M.length then E.aK K v else E1.aK (K - M.length + mem.length) v, E1.gl⟩ : Env) = E2 at G8 hB JB A5
 have hA : ∀ i v, E2.aK (σ i) v = E1.aK i v := fun i v => by
  rcases Nat.lt_or_ge i mem.length with hi | hi
  ·exact G8 i v hi
  ·exact JB i v hi
 have cl : ∀ K, (∃ i, K = σ i) ∨ (K < M.length ∧ ∀ i, i < mem.length → σ i ≠ K) := fun K => by
  rcases Nat.lt_or_ge K M.length with hK | hK
  ·by_cases h : ∃ i, i < mem.length ∧ σ i = K
   ·obtain ⟨i, -, hi⟩ := h
    exact .inl ⟨i, hi.symm⟩
   ·exact .inr ⟨hK, fun i hi e => h ⟨i, hi, e⟩⟩
  ·exact .inl ⟨K - M.length + mem.length, by rw [iz _ (by omega)]; omega⟩
 have sn : ∀ K v g e c, (∀ i, i < mem.length → σ i ≠ K) → E.aK K v = some (g, e, c) → ∀ k0 v0 e0 c0, E0.aK k0 v0 ≠ some (g, e0, c0) := fun K v g e c hK hb k0 v0 e0 c0 h => by
  obtain ⟨h1, h2⟩ := fF _ _ _ h
  exact hK k0 h1 (hs.apart _ _ _ _ _ _ _ _ _ h2 hb)
 have hle : E.le E2 := ⟨fun ad y hy => by rw [A5]; exact du.le.F _ _ (by rw [A4]; exact hy), fun K v t hk => by
  rcases cl K with ⟨i, rfl⟩ | ⟨hK, oU⟩
  ·rw [hA i v]
   rcases Nat.lt_or_ge i mem.length with hi | hi
   ·exact du.le.aK _ _ _ (by rw [Jk i v hi]; exact hk)
   ·rw [hs.top (σ i) (by rw [iz i hi]; dsimp only; omega) v] at hk; cases hk
  ·rw [hB K v hK oU]; exact hk⟩
 refine ⟨E2, x, rfl, ⟨hle, fun K v g e c hk => ?_, fun ad y hy => ?_, du.os, du.tape, du.output, du.size, fun b hb bO => du.heap b hb fun k v e c h => bO _ _ _ _ (fF _ _ _ h).2⟩,
  ⟨fun ad y hy => la.F _ _ (by rw [← A5]; exact hy), fun K v g e c hk => ?_, fun K B hk => ?_, fun K hk v => ?_, fun K B hk v hv => ?_, fun K K' v v' g e1 c1 e2 c2 h5 h6 => ?_, .nil _⟩, tX.yI hr (fun ad y hy => by rw [A5]; exact hy) fun k v t _ hk => by rw [hA]; exact hk⟩
 ·rcases cl K with ⟨i, rfl⟩ | ⟨hK, oU⟩
  ·rw [hA i v] at hk
   rcases du.aK _ _ _ _ _ hk with ⟨k0, v0, e0, c0, h⟩ | h
   ·exact .inl ⟨_, _, _, _, (fF _ _ _ h).2⟩
   ·exact .inr h
  ·rw [hB K v hK oU] at hk; exact .inl ⟨_, _, _, _, hk⟩
 ·rw [A5] at hy
  rcases du.F _ _ hy with h | h | ⟨k0, v0, e0, c0, h⟩
  ·exact .inl (by rw [← A4]; exact h)
  ·exact .inr (.inl h)
  ·exact .inr (.inr ⟨_, _, _, _, (fF _ _ _ h).2⟩)
 ·rcases cl K with ⟨i, rfl⟩ | ⟨hK, oU⟩
  ·rw [hA i v] at hk; exact la.lt _ _ _ _ _ hk
  ·rw [hB K v hK oU] at hk; exact Nat.lt_of_lt_of_le (hs.lt _ _ _ _ _ hk) du.size
 ·rcases cl K with ⟨i, rfl⟩ | ⟨hK, oU⟩
  ·have hi : i < aF.length := by
    have h1 := (List.getElem?_eq_some_iff.1 hk).1
    rcases Nat.lt_or_ge i mem.length with h2 | h2
    ·omega
    ·have h3 := iz i h2
     dsimp only at h1; omega
   have eQ := JV i _ (List.getElem?_eq_getElem hi)
   rw [hk] at eQ
   cases eQ
   exact (la.mem i _ (List.getElem?_eq_getElem hi)).yI hi (List.all_eq_true.1 Gu _ (List.getElem_mem hi)) A5 (fun k v _ => hA k v) rfl
  ·dsimp only at hk
   rw [bO K hK oU] at hk
   refine (hs.mem K B hk).mono hle (fun v hv => by rw [hB K v hK oU]; exact hv) (fun g e c hb => du.heap g (hs.lt _ _ _ _ _ hb) fun k0 v0 e0 c0 h => sn _ _ _ _ _ oU hb _ _ _ _ h) fun g e c o hb hn => ?_
   rw [A5]
   cases hy : E1.F ⟨g, o, none⟩ with
   | none => rfl
   | some y =>
    rcases du.F _ _ hy with h | h | ⟨k0, v0, e0, c0, h⟩
    ·rw [A4, hn] at h; cases h
    ·have := hs.lt _ _ _ _ _ hb; simp at h; omega
    ·exact absurd h (sn _ _ _ _ _ oU hb _ _ _ _)
 ·rcases cl K with ⟨i, rfl⟩ | ⟨hK, oU⟩
  ·rw [hA i v]
   refine la.top i ?_ v
   dsimp only at hk ⊢
   rcases Nat.lt_or_ge i mem.length with h2 | h2
   ·have := hold i h2; omega
   ·have h3 := iz i h2; omega
  ·dsimp only at hk; omega
 ·rcases cl K with ⟨i, rfl⟩ | ⟨hK, oU⟩
  ·rw [hA i v]
   have hi : i < aF.length := by
    have h1 := (List.getElem?_eq_some_iff.1 hk).1
    rcases Nat.lt_or_ge i mem.length with h2 | h2
    ·omega
    ·have h3 := iz i h2
     dsimp only at h1; omega
   have eQ := JV i _ (List.getElem?_eq_getElem hi)
   rw [hk] at eQ
   cases eQ
   rw [sU] at hv
   exact la.aC i _ (List.getElem?_eq_getElem hi) v hv
  ·rw [hB K v hK oU]
   dsimp only at hk
   rw [bO K hK oU] at hk
   exact hs.aC K B hk v hv
 ·have mixed : ∀ i K' v v' g e1 c1 e2 c2, (∀ i, i < mem.length → σ i ≠ K') → E1.aK i v = some (g, e1, c1) → E.aK K' v' = some (g, e2, c2) → False := fun i K' v v' g e1 c1 e2 c2 Uv h h' => by
   rcases du.aK _ _ _ _ _ h with ⟨k0, v0, e0, c0, h0⟩ | h0
   ·exact absurd h0 (sn _ _ _ _ _ Uv h' _ _ _ _)
   ·have := hs.lt _ _ _ _ _ h'; omega
  rcases cl K with ⟨i, rfl⟩ | ⟨hK, OK⟩ <;> rcases cl K' with ⟨j, rfl⟩ | ⟨Uv, A6⟩
  ·rw [hA] at h5 h6
   rw [la.apart _ _ _ _ _ _ _ _ _ h5 h6]
  ·rw [hA] at h5; rw [hB K' _ Uv A6] at h6
   exact (mixed _ _ _ _ _ _ _ _ _ A6 h5 h6).elim
  ·rw [hB K _ hK OK] at h5; rw [hA] at h6
   exact (mixed _ _ _ _ _ _ _ _ _ OK h6 h5).elim
  ·rw [hB K _ hK OK] at h5; rw [hB K' _ Uv A6] at h6
   exact hs.apart _ _ _ _ _ _ _ _ _ h5 h6
theorem Et (σ : Nat → Nat) : ∀ {v : V}, ai 0 v = true → bw σ v = v := fun {v} => by
 exact V.rec (motive_1 := fun v => ai 0 v = true → bw σ v = v) (motive_2 := fun l => dp 0 l = true → cg σ l = l)
  (fun _ => rfl) (fun _ _ => rfl) (fun cs ih h => by rw [bw, ih (by simpa [ai] using h)]) (fun _ _ _ => rfl) (fun b v s l h => by simp [ai] at h) (fun b o h => by simp [ai] at h)
  (fun b v i o h => by simp [ai] at h) (fun _ _ _ => rfl) (fun f a c i1 i2 h => by simp only [ai,Bool.and_eq_true] at h; rw [bw, i1 h.1, i2 h.2]) (fun vs ih h => by rw [bw, ih (by simpa [ai] using h)])
  (fun b h => by simp [ai] at h) (fun b h => by simp [ai] at h) (fun _ => rfl) (fun _ _ _ => rfl) (fun _ => rfl) (fun c r i1 i2 h => by simp only [dp,Bool.and_eq_true] at h; rw [cg, i1 h.1, i2 h.2]) v
end Go.Eng
end

section
namespace Go.Eng
variable [aG]
def swp (A B k : Nat) : Nat := if k = A then B else if k = B then A else k
theorem rH (A B k : Nat) : swp A B (swp A B k) = k := by
 unfold swp
 by_cases h1 : k = A
 ·subst h1
  by_cases h2 : B = k
  ·simp [h2]
  ·simp [h2]
 ·by_cases h2 : k = B
  ·subst h2; simp [h1]
  ·simp [h1, h2]
def qO (A B : Nat) (mem : List ay) : List ay := ((mem.set A (mem.getD B .dead)).set B (mem.getD A .dead)).map (cu (swp A B))
section
variable {P : Program} {ρ : Option Nat} {n0 : Nat} {c : Code} {st : St} {Q : Exit → St → Prop}
theorem wH (A B : Nat) (mem : List ay) : (qO A B mem).length = mem.length := by simp [qO]
theorem u5 {A B : Nat} {mem : List ay} (hA : A < mem.length) (hB : B < mem.length) (k : Nat) : (qO A B mem)[k]? = (mem[swp A B k]?).map (cu (swp A B)) := by
 unfold qO
 rw [List.getElem?_map]
 congr 1
 rw [List.getElem?_set, List.getElem?_set, List.length_set]
 unfold swp
 by_cases h1 : B = k
 ·subst h1
  rw [if_pos rfl, if_pos hB]
  by_cases h2 : B = A
  ·subst h2; rw [if_pos rfl, List.getD_eq_getElem?_getD, List.getElem?_eq_getElem hB]; rfl
  ·rw [if_neg h2, if_pos rfl, List.getD_eq_getElem?_getD, List.getElem?_eq_getElem hA]; rfl
 ·rw [if_neg h1]
  by_cases h2 : A = k
  ·subst h2; rw [if_pos rfl, if_pos hA, if_pos rfl, List.getD_eq_getElem?_getD, List.getElem?_eq_getElem hB]; rfl
  ·rw [if_neg h2, if_neg (fun e => h2 e.symm), if_neg (fun e => h1 e.symm)]
theorem yJ (A B : Nat) (G8 : n0 ≤ A) (uL : n0 ≤ B) (hA : A < st.mem.length) (hB : B < st.mem.length) (hf : st.fr.all (ai st.mem.length) = true) (hm : st.mem.all (aA st.mem.length) = true)
  (h : gD P ρ n0 c { fr := cg (swp A B) st.fr, mem := qO A B st.mem } Q) : gD P ρ n0 c st Q := fun E0 w0 Ji E w a he hs fQ => by
 obtain ⟨E', hE⟩ : ∃ E' : Env, E' = { F := E.F, aK := fun k v => E.aK (swp A B k) v, gl := E.gl } := ⟨_, rfl⟩
 have eF : E'.F = E.F := by rw [hE]
 have eb : ∀ k v, E'.aK k v = E.aK (swp A B k) v := fun k v => by rw [hE]
 have Uc : ∀ k v, E'.aK (swp A B k) v = E.aK k v := fun k v => by rw [eb, rH]
 have aB : ∀ k, k < st.mem.length → swp A B k < st.mem.length := fun k hk => by unfold swp; split <;> (try split) <;> assumption
 have cB : ∀ k, st.mem.length ≤ k → swp A B k = k := fun k hk => by unfold swp; rw [if_neg (by omega), if_neg (by omega)]
 have du : dt E0 w0 E' w := by
  refine ⟨⟨fun ad x hx => by rw [eF]; exact he.le.F _ _ hx, fun k v t hk => ?_⟩, fun k v g e c hk => he.aK _ _ _ _ _ (by rw [← eb]; exact hk), fun ad x hx => he.F _ _ (by rw [← eF]; exact hx), he.os, he.tape, he.output, he.size, he.heap⟩
  rcases Nat.lt_or_ge k n0 with Mu | Mu
  ·rw [eb, show swp A B k = k by unfold swp; rw [if_neg (by omega), if_neg (by omega)]]; exact he.le.aK _ _ _ hk
  ·rw [Ji k Mu] at hk; cases hk
 refine h E0 w0 Ji E' w a du ⟨fun ad x hx => hs.F _ _ (by rw [← eF]; exact hx), fun k v g e c hk => hs.lt _ _ _ _ _ (by rw [← eb]; exact hk), fun k Bk hk => ?_, fun k hk v => ?_, fun k Bk hk v hv => ?_, fun k k' v v' g e c e' c' q1 q2 => ?_, ?_⟩ ?_
 ·dsimp only at hk
  rw [u5 hA hB, Option.map_eq_some_iff] at hk
  obtain ⟨B0, G9, rfl⟩ := hk
  have h1 := (hs.mem _ _ G9).yI (σ := swp A B) (E2 := E') (w2 := w) (n := st.mem.length) (List.getElem?_eq_some_iff.1 G9).1 (List.all_eq_true.1 hm _ (List.mem_of_getElem? G9)) eF (fun k v _ => Uc k v) rfl
  rwa [rH] at h1
 ·dsimp only at hk
  rw [wH] at hk
  rw [eb, cB k hk]
  exact hs.top k hk v
 ·dsimp only at hk
  rw [u5 hA hB, Option.map_eq_some_iff] at hk
  obtain ⟨B0, G9, rfl⟩ := hk
  rw [eb]
  rw [sU] at hv
  exact hs.aC _ _ G9 v hv
 ·rw [eb] at q1 q2
  have := hs.apart _ _ _ _ _ _ _ _ _ q1 q2
  rw [← rH A B k, this, rH]
 ·exact hs.fr.yI hf (fun ad y hy => by rw [eF]; exact hy) fun k v t _ hk => by rw [Uc]; exact hk
 ·obtain ⟨rs, h1, h2, h3⟩ := fQ
  exact ⟨rs, h1, h2, fun r hr => ⟨(h3 r hr).1, (h3 r hr).2.1, fun k v e c hk => (h3 r hr).2.2 _ _ _ _ (by rw [← eb]; exact hk)⟩⟩
theorem Kp (A B : Nat) (G8 : n0 ≤ A) (uL : n0 ≤ B) (hA : A < st.mem.length) (hB : B < st.mem.length) (hf : st.fr.all (ai st.mem.length) = true) (hm : st.mem.all (aA st.mem.length) = true)
  (h : Ex P ρ n0 c { fr := cg (swp A B) st.fr, mem := qO A B st.mem } Q) : Ex P ρ n0 c st Q := by
 obtain ⟨e, s2, hq, h2⟩ := h
 exact ⟨e, s2, hq, fun Q' h' => yJ A B G8 uL hA hB hf hm (h2 Q' h')⟩
def sW (br : List (Value × Nat × V)) (vs : List V) : List (Value × Nat × V) := List.zipWith (fun e v => (e.1, e.2.1, v)) br vs
theorem sX (mem : List ay) (keys : List (Nat × Nat)) (k : Nat) {br : List (Value × Nat × V)} {cl : Nat} (h : mem[k]? = some (.map br cl)) : (bY mem keys)[k]? = some (.map br cl) := by
 unfold bY
 induction keys generalizing mem with
 | nil => exact h
 | cons q r ih =>
  rw [List.foldl_cons]
  refine ih _ ?_
  rw [xW, h]; rfl
theorem bd.OL {E : Env} {w : World} {a : Act} (hs : bd E w a st) {k : Nat} {br : List (Value × Nat × V)} {cl : Nat} {vs' : List V} (hk : st.mem[k]? = some (.map br cl)) (hp : cD st.mem (br.map fun e => e.2.2) = some vs') :
  ∃ E', bd E' w a { st with mem := (bY st.mem ((br.map fun e => e.2.2).flatMap cr)).set k (.map (sW br vs') cl) } ∧ dt E w E' w := by
 obtain ⟨E', h1, h2, h3⟩ := hs.freeze hp
 refine ⟨E', ⟨h1.F, h1.lt, fun k' B hB => ?_, fun k' eQ => h1.top k' (by simpa using eQ), fun k' B hB v hv => ?_, h1.apart, h1.fr⟩, h2⟩
 ·dsimp only at hB
  rw [List.getElem?_set] at hB
  split at hB
  ·rename_i he; subst he
   split at hB
   ·cases hB
    obtain ⟨g, es, q1, q2, q3, q4⟩ := hs.mem k _ hk
    obtain ⟨g', es', p1, p2, p3, p4⟩ := h1.mem k _ (sX _ _ _ hk)
    rw [h2.le.aK _ _ _ q1] at p1
    cases p1
    rw [q2] at p2
    cases p2
    refine ⟨g, es, h2.le.aK _ _ _ q1, q2, ?_, p4⟩
    have hR : aQ E (br.map fun e => e.2.2) (es.toList.map fun e => e.val) := by
     refine ⟨by simpa using q3.1, fun i v x hv hx => ?_⟩
     rw [List.getElem?_map, Option.map_eq_some_iff] at hv hx
     obtain ⟨e1, Zi, rfl⟩ := hv
     obtain ⟨e2, Uw, rfl⟩ := hx
     exact (q3.2 i _ _ Zi Uw).2.2
    have XQ := h3 _ hR
    have hl : vs'.length = br.length := by have h5 := XQ.1; have h6 := hR.1; simp only [List.length_map] at h5 h6; omega
    refine ⟨by unfold sW; rw [List.length_zipWith, hl, Nat.min_self]; exact q3.1, fun i kb e dG he => ?_⟩
    unfold sW at dG
    rw [List.getElem?_zipWith] at dG
    cases h7 : br[i]? with
    | none => rw [h7] at dG; simp at dG
    | some e1 =>
     cases h8 : vs'[i]? with
     | none => rw [h7, h8] at dG; simp at dG
     | some v1 =>
      rw [h7, h8] at dG
      simp at dG
      subst dG
      obtain ⟨r1, r2, r3⟩ := q3.2 i _ _ h7 he
      exact ⟨r1, r2, XQ.2 i _ _ h8 (by rw [List.getElem?_map, he]; rfl)⟩
   ·cases hB
  ·exact h1.mem k' B hB
 ·dsimp only at hB
  rw [List.getElem?_set] at hB
  split at hB
  ·rename_i he; subst he
   split at hB
   ·cases hB
    exact h1.aC k _ (sX _ _ _ hk) v hv
   ·cases hB
  ·exact h1.aC k' B hB v hv
end
end Go.Eng
end

section
namespace Go.Eng
variable [aG]
theorem A7 (mem : List ay) (keys : List (Nat × Nat)) (k : Nat) {cs : List V} (h : mem[k]? = some (.box cs)) : (bY mem keys)[k]? = some (.box cs) := by
 rw [km, h]
 have : ∀ (ks : List (Nat × Nat)), jb ks k (some (.box cs)) = some (.box cs) := fun ks => by
  unfold jb; rfl
 exact this keys
section
variable {P : Program} {ρ : Option Nat} {n0 : Nat} {Q : Exit → St → Prop} {c : Code} {st : St}
theorem bd.Ha {E : Env} {w : World} {a : Act} (hs : bd E w a st) {k : Nat} {cs vs' : List V} (hk : st.mem[k]? = some (.box cs)) (hp : cD st.mem cs = some vs') :
  ∃ E', bd E' w a { st with mem := (bY st.mem (cs.flatMap cr)).set k (.box vs') } ∧ dt E w E' w := by
 obtain ⟨E', h1, h2, h3⟩ := hs.freeze hp
 have hb := A7 st.mem (cs.flatMap cr) k hk
 refine ⟨E', ⟨h1.F, h1.lt, fun k' B hB => ?_, fun k' eQ => h1.top k' (by simpa using eQ), fun k' B hB v hv => ?_, h1.apart, h1.fr⟩, h2⟩
 ·dsimp only at hB
  rw [List.getElem?_set] at hB
  split at hB
  ·rename_i he; subst he
   split at hB
   ·cases hB
    obtain ⟨g, T, xs, q1, q2, q3, q4⟩ := hs.mem k _ hk
    obtain ⟨g', T', oc, p1, p2, p3, p4⟩ := h1.mem k _ hb
    rw [h2.le.aK _ _ _ q1] at p1
    cases p1
    rw [q2] at p2
    cases p2
    exact ⟨g, T, xs, h2.le.aK _ _ _ q1, q2, h3 _ q3, p4⟩
   ·cases hB
  ·exact h1.mem k' B hB
 ·dsimp only at hB
  rw [List.getElem?_set] at hB
  split at hB
  ·rename_i he; subst he
   split at hB
   ·cases hB
    exact h1.aC k _ hb v hv
   ·cases hB
  ·exact h1.aC k' B hB v hv
end
end Go.Eng
end

section
namespace Go.Eng
variable [aG]
section
variable {k_ : Tk} {m : Bool} {P : Program} {ρ : Option Nat} {n0 : Nat} {st : St} {Q : Exit → St → Prop} {n : Nat} {ws : List (Nat × V)} {mem : List ay} {c : Code}
theorem SL {st' : St} (hw : ∀ E w a, bd E w a st → ∃ E', bd E' w a st' ∧ dt E w E' w) (h : X k_ m P ρ n0 c st' Q) : X k_ m P ρ n0 c st Q := by
 have key : ∀ Q' : Exit → St → Prop, gD P ρ n0 c st' Q' → gD P ρ n0 c st Q' := fun Q' h E0 w0 Ji E w a he hs hm => by
  obtain ⟨E', h3, h4⟩ := hw E w a hs
  exact h E0 w0 Ji E' w a (he.trans h4) h3 (hm.FB h4)
 cases m
 ·obtain ⟨e, s2, hq, h2⟩ := h
  exact ⟨e, s2, hq, fun Q' h' => key Q' (h2 Q' h')⟩
 ·exact key Q h
theorem Wj {t : Nat} {v : V} (hn : t < n) (h : lk t ws = v) : (W n ws)[t]? = some v := by rw [nf, if_pos hn, h]
theorem yK (t v e : Nat) (hn : t < n) (h0 : lk t ws = .sc (.slice none 0 0)) (h : X k_ m P ρ n0 c ⟨W n ((t, .ms mem.length v 0 0) :: ws), mem ++ [.rows v e []]⟩ Q) : X k_ m P ρ n0 c ⟨W n ws, mem⟩ Q := by
 rw [← CN] at h
 exact sR (st' := ⟨(W n ws).set t (.ms mem.length v 0 0), mem ++ [.rows v e []]⟩) (fun E w a hs => (hs.yq (i := t) mem.length v (Wj hn h0)).lH v e) h
theorem Hb (v e : Nat) (h : X k_ m P ρ n0 c ⟨W n ws, mem ++ [.rows v e []]⟩ Q) : X k_ m P ρ n0 c ⟨W n ws, mem⟩ Q :=
 sR (st' := ⟨W n ws, mem ++ [.rows v e []]⟩) (fun E w a hs => hs.lH v e) h
theorem CT {cs : List V} (k j v e : Nat) (hk : mem[k]? = some (.box cs)) (hj : cs[j]? = some (.sc (.slice none 0 0))) (h : X k_ m P ρ n0 c ⟨W n ws, mem.set k (.box (cs.set j (.ms mem.length v 0 0))) ++ [.rows v e []]⟩ Q) : X k_ m P ρ n0 c ⟨W n ws, mem⟩ Q :=
 sR (st' := ⟨W n ws, mem.set k (.box (cs.set j (.ms mem.length v 0 0))) ++ [.rows v e []]⟩) (fun E w a hs => (hs.On hk hj mem.length v).lH v e) h
theorem pS {k : Nat} {cs vs' : List V} (hk : mem[k]? = some (.box cs)) (hp : cD mem cs = some vs') (h : X k_ m P ρ n0 c ⟨W n ws, (bY mem (cs.flatMap cr)).set k (.box vs')⟩ Q) : X k_ m P ρ n0 c ⟨W n ws, mem⟩ Q :=
 SL (fun _ _ _ hs => bd.Ha hs hk hp) h
theorem CU {k : Nat} {br : List (Value × Nat × V)} {cl : Nat} {vs' : List V} (hk : mem[k]? = some (.map br cl)) (hp : cD mem (br.map fun e => e.2.2) = some vs')
  (h : X k_ m P ρ n0 c ⟨W n ws, (bY mem ((br.map fun e => e.2.2).flatMap cr)).set k (.map (sW br vs') cl)⟩ Q) : X k_ m P ρ n0 c ⟨W n ws, mem⟩ Q := SL (fun _ _ _ hs => hs.OL hk hp) h
theorem yL {t : Nat} {v : V} (h : lk t ws = v) : (W n ws).set t v = W n ws := by
 apply List.ext_getElem?
 intro i
 rw [List.getElem?_set, nf, jN]
 by_cases e : t = i
 ·subst e
  rw [if_pos rfl]
  by_cases h2 : t < n
  ·rw [if_pos h2, if_pos h2, h]
  ·rw [if_neg h2, if_neg h2]
 ·rw [if_neg e]
theorem Hc {f : Nat → Nat} (i : Nat) : ∀ ws : List (Nat × V), lk i (ws.map fun p => (p.1, bw f p.2)) = bw f (lk i ws)
 | [] => rfl
 | p :: r => by
  simp only [List.map_cons,lk]
  split
  ·rfl
  ·exact Hc i r
theorem Wk {f : Nat → Nat} : cg f (W n ws) = W n (ws.map fun p => (p.1, bw f p.2)) := by
 rw [cU]
 unfold W
 rw [List.map_map]
 exact List.map_congr_left fun i _ => (Hc i ws).symm
theorem Hd {v' : V} (t : Nat) (h0 : lk t ws = v') (h : X k_ m P ρ n0 c ⟨W n ((t, v') :: ws), mem⟩ Q) : X k_ m P ρ n0 c ⟨W n ws, mem⟩ Q := by
 rw [← CN, yL h0] at h
 exact h
theorem SM (A B : Nat) (G8 : n0 ≤ A) (uL : n0 ≤ B) (hA : A < mem.length) (hB : B < mem.length) (hf : FE mem.length ws = true) (hm : mem.all (aA mem.length) = true)
  (h : X k_ m P ρ n0 c ⟨W n (ws.map fun p => (p.1, bw (swp A B) p.2)), qO A B mem⟩ Q) : X k_ m P ρ n0 c ⟨W n ws, mem⟩ Q := by
 rw [← Wk] at h
 cases m
 ·exact Kp A B G8 uL hA hB (GY hf) hm h
 ·exact yJ A B G8 uL hA hB (GY hf) hm h
end
end Go.Eng
end

section
namespace Go.Proofs.YtnfeacnbgbggfaaGreatDoor
open Go.Eng
attribute [go_sem] dA bH cZ fP St.eval St.put dH fH vN List.all_cons List.all_nil Bool.and_true Bool.true_and Bool.and_self Value.oneCell' if_true if_false bg List.length_cons List.length_nil Nat.lt_irrefl List.nil_append List.cons_append List.append_nil List.set_cons_zero List.set_cons_succ List.getD_cons_zero List.getD_cons_succ po dz iU ll me List.map_nil List.map_cons Nat.zero_mul vE Ju fieldAt kP dy List.drop_zero List.drop_succ_cons List.take_succ_cons List.take_zero List.getElem?_cons_zero List.getElem?_cons_succ List.head?_cons Nat.zero_add Nat.add_zero Nat.zero_le Nat.le_refl true_and and_true and_self dv ln rowsOf cy Bool.false_eq_true ra NK NL NM NN NO NP NQ NR NS NT NU NV FO JK JL JM JN Int.natCast_nonneg ix indexAt rW Ck vJ pj Int.toNat_natCast V.cells xC rT Nl bn Option.map_some Option.map_none Option.bind_some List.size_toArray List.getElem?_toArray beq_self_eq_true decide_true decide_false Bool.not_true Bool.not_false jt ly kn gR cb jG Jy kj rowOf eL ne_eq not_true_eq_false not_false_eq_true gU gI oz V.sc.injEq Value.bool.injEq oK List.flatMap_cons List.flatMap_nil cr eu R1 R2 JX JY JZ Cj Y9 XL Za Zb Vz VB Sd VE VG VH VI VJ VK VL VM VN VO VP VQ Se VR VS Sf Sg Sh Si List.toList_toArray List.append_eq FW FX An Md kW c5 lD uR qz ja cD eA dj bD runM dM wj rh ej oF ri isHole dm ye ay.aC nA Oo nf CN jN lk je aW bo pk zk fa bY sk List.foldl_cons List.foldl_nil sT ai dp aA Ot Ou Ov Ow Ki wB V2 G3 OE zG eG G4 OG OH sD G0 SC SD SE SG SH V3 V4 V5 V6 V7 V8 V9 Wa Wb Wc Wd We Wf Wg G6 Eo G7 Er Ep mK iE lC oC Cr List.replicate List.take_length
attribute [go_sem ↓] A2 En Oy Em Ox Oj Ol Kl CQ
end Go.Proofs.YtnfeacnbgbggfaaGreatDoor
end

section
namespace Go.Eng
variable [aG]
open Go.RowKit (Below)
theorem bd.below {E : Env} {w w' : World} {a : Act} {st : St} (hs : bd E w a st) (hb : Below w.heap.size w w') : bd E w' a st ∧ dt E w E w' := by
 refine ⟨⟨fun ad y hy => ?_, fun k v g e c h => Nat.lt_of_lt_of_le (hs.lt _ _ _ _ _ h) hb.size, fun k B hk => ?_, hs.top, hs.aC, hs.apart, hs.fr⟩,
  ⟨E.le_refl, fun k v g e c h => .inl ⟨k, v, e, c, h⟩, fun _ _ h => .inl h, hb.os, hb.tape, hb.output, hb.size, fun b aB _ => hb.block b aB⟩⟩
 ·rw [hb.cell (World.block_lt_of_cell? w ad (hs.F ad y hy))]; exact hs.F ad y hy
 ·exact (hs.mem k B hk).mono E.le_refl (fun _ h => h) (fun g e c h => hb.block _ (hs.lt _ _ _ _ _ h)) fun _ _ _ _ _ h => h
end Go.Eng
end

section
namespace Go.Eng
variable [aG]
theorem bd.Wl {E : Env} {w w' : World} {a : Act} {st : St} (hs : bd E w a st) {b v e g c : Nat} {rs rs' : List V} {T : TypeId} {ys : Array Value} (hm : st.mem[b]? = some (.rows v e rs)) (hb : E.aK b v = some (g, e, c)) (hF : ∀ o, E.F ⟨g, o, none⟩ = none)
  (Zj : w'.os = w.os) (SN : w'.tape = w.tape) (Wm : w'.output = w.output) (ka : w.heap.size ≤ w'.heap.size) (hh : w'.heap[g]? = some (.cells ys T (0, 0))) (r7 : ∀ k, k < w.heap.size → k ≠ g → w'.heap[k]? = w.heap[k]?)
  (OM : ys.size = c * e) (ON : rs'.length ≤ c) (Zk : fE E.pure e rs' (fun o => ys[o]?)) : bd E w' a { st with mem := st.mem.set b (.rows v e rs') } ∧ dt E w E w' := by
 have aB := (List.getElem?_eq_some_iff.1 hm).1
 have Zl : ∀ ad x, E.F ad = some x → ad.block ≠ g := fun ad x h e => by
  have hc := hs.F ad x h
  obtain ⟨aK, off, spot⟩ := ad
  obtain rfl : aK = g := e
  have tW : spot = none := by
   unfold World.cell? at hc
   split at hc
   ·dsimp only at hc
    cases spot with
    | none => rfl
    | some s => simp at hc
   ·cases hc
  subst tW
  rw [hF] at h; cases h
 refine ⟨⟨fun ad x h => ?_, fun k v g e c h => Nat.lt_of_lt_of_le (hs.lt _ _ _ _ _ h) ka, fun k B hk => ?_, fun k hk => hs.top k (by simpa using hk), fun k B hk v hv => ?_, hs.apart, hs.fr⟩,
  ⟨E.le_refl, fun k v g e c h => .inl ⟨k, v, e, c, h⟩, fun _ _ h => .inl h, Zj, SN, Wm, ka, fun k hk bO => r7 k hk fun e => by subst e; exact bO _ _ _ _ hb⟩⟩
 ·have h1 := hs.F ad x h
  have h2 := World.block_lt_of_cell? w ad h1
  rw [← h1]
  unfold World.cell?
  rw [r7 _ h2 (Zl ad x h)]
 ·rw [List.getElem?_set] at hk
  split at hk
  ·rename_i he; subst he
   cases hk
   exact .inr ⟨g, T, ys, c, hb, hh, OM, ON, Zk, hF⟩
  ·rename_i bO
   refine (hs.mem k B hk).mono E.le_refl (fun _ h => h) (fun g' e' c' h => r7 g' (hs.lt _ _ _ _ _ h) fun e => ?_) fun _ _ _ _ _ h => h
   subst e
   exact bO (hs.apart _ _ _ _ _ _ _ _ _ hb h)
 ·rw [List.getElem?_set] at hk
  split at hk
  ·rename_i he; subst he
   cases hk
   exact hs.aC b _ hm v hv
  ·exact hs.aC k B hk v hv
theorem aP.Eu {P : Program} {f : FuncId} {args : List V} {m : List ay} {b v : Nat} (h : aP P f (.slice [] :: args) (.bT [])) (hp : ∀ E xs, aQ E args xs → aQ E.pure args xs) : aU P f (.ms b v 0 0 :: args) m (.sc (.tuple #[])) m := by
 refine ⟨h.1, fun E w xs hs hx => ?_⟩
 obtain ⟨x, ys, nt, hr, u6⟩ := hx.of_cons
 have tX : aX E.pure (.slice []) x := by
  cases hr with
  | ms _ _ _ _ _ g e c a cap hb hl h0 hc => exact .slice _ [] a cap 0 ⟨0, 0, none⟩ (fun _ _ => undef) (fun h => absurd rfl h) (Nat.zero_le _) (fun i row h => by simp at h) (fun i row j c h => by simp at h) (fun i row j c h => by simp at h) (fun i row j c h => by simp at h)
  | df => exact .slice _ [] none 0 0 ⟨0, 0, none⟩ (fun _ _ => undef) (fun h => absurd rfl h) (Nat.le_refl _) (fun i row h => by simp at h) (fun i row j c h => by simp at h) (fun i row j c h => by simp at h) (fun i row j c h => by simp at h)
 have Fv : aQ E.pure (.slice [] :: args) xs.toList := by rw [nt]; exact aQ.cons tX (hp E _ u6)
 refine (h.2 E.F E.gl w xs hs.F Fv).mono ?_
 rintro e w' ⟨F', y, rfl, -, -, -, ⟨JD, hy⟩, yM⟩
 have hy : y = .tuple #[] := by
  cases hy with
  | bT _ _ zs hl hh => exact congrArg Value.tuple (Array.eq_empty_of_size_eq_zero (xs := zs) (by simpa using hl.symm))
 obtain ⟨h1, h2⟩ := hs.below yM
 exact ⟨E, y, rfl, h2, h1, by rw [hy]; exact .sc _ _⟩
end Go.Eng
end
