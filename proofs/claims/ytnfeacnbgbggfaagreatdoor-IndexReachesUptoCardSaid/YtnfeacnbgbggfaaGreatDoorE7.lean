/-
  THE ENGINE, TM: the walk without a settled outcome: calls of which only a relation is told, and append behind a block's beginning.
  THE ENGINE, VA: one operation, for both forms of walk (m = true: Tri, m = false: Ex); what is stuck keeps what follows out of sight.
  THE ENGINE, FZ: a slot whose rows nobody will write any more.
  THE ENGINE, VC: sparse frames; code carried out as far as the data settle it; both forms of walk (m = true: Tri, m = false: Ex).
  THE ENGINE, VD: what stands between the stretches of VC: loops, ways that meet, regions that draw, functions' beginnings and ends.
  THE ENGINE, RN: a contract at a small store holds at every store that has the small one's blocks under other keys.
  THE ENGINE, SW: two blocks of a call's own change keys; the values of a map are frozen.
  THE ENGINE, FC: the rows that a struct's cells name are frozen.
  THE ENGINE, VF: what may be made of a state without a step: rows frozen, nil slices taken for empty rows, keys changed.
  THE ENGINE, GS: the facts for carrying code out, in the library's own simp set.
  THE ENGINE, AD: a block that a call has made is taken into the store.
  THE ENGINE, RP: live rows whose cells a call of the library's has turned.
-/
import Derived.Test.YtnfeacnbgbggfaaGreatDoorE6
set_option linter.all false
section
namespace Go.Eng
variable [aE]
section
variable {P : Program} {tt : Table} {ρ : Option Nat} {n0 : Nat} {st : St} {Q : Exit → St → Prop}
def JP (P : Program) (f : FuncId) (vs : List V) (st : St) (dst : Option Tmp) (Q : St → Prop) : Prop :=
 ∃ R, gA P f vs st.mem R ∧ ∀ v m', R v m' → Q ({ st with mem := m' }.put dst v)
def NN (P : Program) (f : FuncId) (vs : List V) (st : St) (dst : Option Tmp) (Q : St → Prop) : Prop := Ma P f vs st dst Q ∨ JP P f vs st dst Q
def NO (P : Program) (tt : Table) (key : Nat) (o : Oper) (st : St) (Q : St → Prop) : Prop :=
 match o.op with
 | .call c => match c.callee with
  | .value f => match bf (st.eval f) (c.args.toList.map st.eval) with
   | some (g, vs) => NN P g vs st o.dst Q
   | none => False
  | .builtin .append => match c.args.toList.map st.eval with
   | [s, x] => match dr tt st.mem c.argTypes.toList s x with
    | some (size, nR, rows) => Q ({ st with mem := (cu st.mem key size rows nR).1 }.put o.dst (cu st.mem key size rows nR).2)
    | none => qj tt st c.argTypes.toList s x o.dst Q
   | _ => False
  | _ => Gi P tt key o st Q
 | _ => Gi P tt key o st Q
def Gm (P : Program) (tt : Table) (gl : List (Nat × Nat)) (all : Array Oper) : List Oper → St → (St → Prop) → Prop
 | [], st, Q => Q st
 | o :: r, st, Q => match vX gl all st.fr o with
  | some true => NO P tt st.mem.length o st fun st' => Gm P tt gl all r st' Q
  | some false => Gm P tt gl all r (st.put o.dst (.sc undef)) Q
  | none => False
theorem Ax {ts : List TypeId} {s x : V} {dst : Option Tmp} {A B : St → Prop} (h : qj tt st ts s x dst A) (oZ : ∀ s, A s → B s) : qj tt st ts s x dst B := by
 unfold qj at h ⊢
 split at h
 ·exact fun o rs' h1 h2 => oZ _ (h o rs' h1 h2)
 ·exact h
attribute [irreducible] Gm

end
end Go.Eng
end

section
namespace Go.Eng
variable [aE]
inductive Tk where
 | a
 | b
def tk : Tk := .b
theorem R0 {α : Type} {a b : α} (h : a = b) : a = b := h
theorem fj {a b : Prop} (h : a = b) : a = b := h
def bq {α : Type} (_ : Tk) (o : Option α) (K : α → Prop) : Prop := match o with
 | some v => K v
 | none => False
theorem NP {α : Type} {k : Tk} {o : Option α} {K : α → Prop} : bq k o K = match o with | some v => K v | none => False := fj rfl
theorem fF {α : Type} {k : Tk} {o : Option α} {K : α → Prop} : bq k o K ↔ ∃ v, o = some v ∧ K v := by
 cases o with
 | none => exact ⟨fun h => h.elim, fun ⟨_, h, _⟩ => by cases h⟩
 | some v => exact ⟨fun h => ⟨v, rfl, h⟩, fun ⟨_, e, h⟩ => by cases e; exact h⟩
def nq {α : Type} (_ : Tk) (o : Option α) (A : α → Prop) (B : Prop) : Prop := match o with
 | some v => A v
 | none => B
theorem NQ {α : Type} {k : Tk} {o : Option α} {A : α → Prop} {B : Prop} : nq k o A B = match o with | some v => A v | none => B := fj rfl
theorem oD {α : Type} {k : Tk} {v : α} {A : α → Prop} {B : Prop} : nq k (some v) A B = A v := rfl
theorem oE {α : Type} {k : Tk} {A : α → Prop} {B : Prop} : nq k none A B = B := rfl
section
variable {m : Bool} {P : Program} {tt : Table} {st : St} {Q : St → Prop}
def oF (_ : Tk) (m : Bool) (P : Program) (f : FuncId) (vs : List V) (o : Option (List V)) (keys : List (Nat × Nat)) (st : St) (dst : Option Tmp) (Q : St → Prop) : Prop :=
 (∃ vs' r, o = some vs' ∧ aQ P f vs' r ∧ Q ({ st with mem := cK st.mem keys r }.put dst r)) ∨
 (∃ r aD, aT P f vs st.mem r aD ∧ Q ({ st with mem := aD }.put dst r)) ∨
 (m = true ∧ ∃ R, gA P f vs st.mem R ∧ ∀ r aD, R r aD → Q ({ st with mem := aD }.put dst r)) ∨
 (∃ r, r6 P f vs r ∧ Q (st.put dst r))
def R1 (_ : Tk) (m : Bool) (P : Program) (k : Nat) (vs : List V) (st : St) (dst : Option Tmp) (Q : St → Prop) : Prop :=
 (∃ b aD, Qb P k vs st.mem b aD ∧ Q ({ st with mem := aD }.put dst (.sc (.bool b)))) ∨
 (m = true ∧ ∃ R, Dx P k vs st.mem R ∧ ∀ b aD, R b aD → Q ({ st with mem := aD }.put dst (.sc (.bool b))))
def R2 (_ : Tk) (m : Bool) (r : Option (Nat × Nat × Nat × Nat × List V × List V)) (st : St) (dst : Option Tmp) (Q : St → Prop) : Prop := m = true ∧ match r with
 | some (size, b, v, l, rs, xs) => ∀ (o : Nat) (rs' : List V), rs'.drop o = rs ++ xs → o + (l + xs.length) = rs'.length → Q ({ st with mem := st.mem.set b (.rows (v + 1) size rs') }.put dst (.ms b (v + 1) o (l + xs.length)))
 | none => False
theorem Vq {k : Tk} {st : St} {size b v l : Nat} {rs xs : List V} {dst : Option Tmp} {Q : St → Prop} (h : ∀ (o : Nat) (rs' : List V), rs'.drop o = rs ++ xs → o + (l + xs.length) = rs'.length → Q ({ st with mem := st.mem.set b (.rows (v + 1) size rs') }.put dst (.ms b (v + 1) o (l + xs.length)))) : R2 k true (some (size, b, v, l, rs, xs)) st dst Q := ⟨rfl, h⟩
def Xh (_ : Tk) (m : Bool) (st : St) (dst : Option Tmp) (it : V) (str : Bool) (Q : St → Prop) : Prop := m = true ∧ og st dst it str Q
def Vr (_ : Tk) (m : Bool) (n : Nat) (op : BinOp) (st : St) (dst : Option Tmp) (Q : St → Prop) : Prop :=
 m = true ∧ ∀ b : Bool, (n ≠ 0 → b = false) → Q (st.put dst (.sc (.bool (jW op b))))
def JQ (tt : Table) (T : TypeId) (len : Nat) (parts : List (Nat × Operand)) (st : St) (key : Nat) : Option (List aw) :=
 match o6 tt T len parts st.eval with
 | some (size, rs) => some (bc st.mem key (.rows 0 size rs))
 | none => match nd tt T len parts st with
  | some (size, rs) => some (bc (bT st.mem (fa st.eval parts)) key (.rows 0 size rs))
  | none => none
def v7 (tt : Table) (mem : List aw) (T : TypeId) (p x : V) : Option (List aw) :=
 match gF tt mem T p x with
 | some m => some m
 | none => vH tt mem T p x
def iz (m : Bool) (P : Program) (tt : Table) (key : Nat) (o : Oper) (st : St) (Q : St → Prop) : Prop :=
 match o.op with
 | .alloc T => bq tk (tt T) fun i => Q ({ st with mem := bc st.mem key (.box (i.zero.map V.sc)) }.put o.dst (.ptr key 0))
 | .box _ x => bq tk (fy (st.eval x)) fun cs => Q ({ st with mem := bc st.mem key (.box cs) }.put o.dst (.ptr key 0))
 | .build T parts => bq tk (gG P tt T parts.toList st.eval) fun v => Q (st.put o.dst v)
 | .buildSlice T len parts => bq tk (JQ tt T len parts.toList st key) fun mem => Q ({ st with mem := mem }.put o.dst (.ms key 0 0 len))
 | .store T p x => bq tk (v7 tt st.mem T (st.eval p) (st.eval x)) fun mem => Q ({ st with mem := mem }.put o.dst (.sc undef))
 | .call { callee := .builtin .append, args := xs, argTypes := ts } => match xs.toList.map st.eval with
  | [s, x] => nq tk (dr tt st.mem ts.toList s x) (fun p => Q ({ st with mem := (cu st.mem key p.1 p.2.2 p.2.1).1 }.put o.dst (cu st.mem key p.1 p.2.2 p.2.1).2)) (R2 tk m (iP tt st.mem ts.toList s x) st o.dst Q)
  | _ => False
 | .call { callee := .value f, args := xs, .. } => match st.eval f with
  | .gY k => R1 tk m P k (xs.toList.map st.eval) st o.dst Q
  | fv => bq tk (bf fv (xs.toList.map st.eval)) fun p => oF tk m P p.1 p.2 (cy st.mem p.2) (p.2.flatMap cp) st o.dst Q
 | .makeSlice T l c => bq tk (mO tt T (st.eval l) (st.eval c)) fun p => Q ({ st with mem := bc st.mem key (.rows 0 p.1 p.2.1) }.put o.dst (.ms key 0 0 p.2.1.length))
 | .makeMap _ none => Q ({ st with mem := bc st.mem key (.map [] 0) }.put o.dst (.mp key))
 | .mapUpdate T d k x => bq tk (cn P st.mem T (st.eval d) (st.eval k) (st.eval x)) fun mem => Q ({ st with mem := mem }.put o.dst (.sc undef))
 | .insert T d k x => bq tk (cn P st.mem T (st.eval d) (st.eval k) (st.eval x)) fun mem => Q ({ st with mem := mem }.put o.dst (.sc undef))
 | .mapEntry T d k => bq tk (o7 P st.mem T (st.eval d) (st.eval k)) fun p => Q ({ st with mem := p.1 }.put o.dst p.2)
 | .entryStore _ d s x => bq tk (o8 st.mem (st.eval d) (st.eval s) (st.eval x)) fun mem => Q ({ st with mem := mem }.put o.dst (.sc undef))
 | .call { callee := .builtin .delete, args := xs, argTypes := ts } => bq tk (l0 P st.mem ts (xs.toList.map st.eval)) fun mem => Q ({ st with mem := mem }.put o.dst (.sc (.tuple #[])))
 | .range T x => bq tk (js P st.mem T (st.eval x)) fun B => Q ({ st with mem := bc st.mem key B }.put o.dst (.ptr key 0))
 | .next it str => Xh tk m st o.dst (st.eval it) str Q
 | .binOp op T x y _ => nq tk (je tt op T (st.eval x) (st.eval y)) (fun n => Vr tk m n op st o.dst Q) (bq tk (fJ P tt st o) fun v => Q (st.put o.dst v))
 | _ => bq tk (fJ P tt st o) fun v => Q (st.put o.dst v)
theorem mb {α : Type} {k : Tk} {o : Option α} {A B : α → Prop} (h : bq k o A) (oZ : ∀ v, A v → B v) : bq k o B := by
 cases o with
 | none => exact h
 | some v => exact oZ v h
theorem Ay {dst : Option Tmp} {it : V} {str : Bool} {A B : St → Prop} (h : og st dst it str A) (oZ : ∀ s, A s → B s) : og st dst it str B := by
 unfold og at h ⊢
 split at h
 ·split at h
  ·split at h
   ·exact ⟨h.1, h.2.1, fun e => oZ _ (h.2.2.1 e), fun e he => oZ _ (h.2.2.2 e he)⟩
   ·exact h
  ·refine ⟨h.1, ?_⟩
   have := h.2
   split at this
   ·rename_i hp; rw [if_pos hp]; exact oZ _ this
   ·rename_i hp; rw [if_neg hp]; exact oZ _ this
  ·exact ⟨h.1, oZ _ h.2⟩
  ·exact h
 ·exact h
theorem Az {key : Nat} {o : Oper} {A B : St → Prop} (h : iz m P tt key o st A) (oZ : ∀ s, A s → B s) : iz m P tt key o st B := by
 have app : ∀ {ts : List TypeId} {s x : V}, nq tk (dr tt st.mem ts s x) (fun p => A ({ st with mem := (cu st.mem key p.1 p.2.2 p.2.1).1 }.put o.dst (cu st.mem key p.1 p.2.2 p.2.1).2)) (R2 tk m (iP tt st.mem ts s x) st o.dst A) →
   nq tk (dr tt st.mem ts s x) (fun p => B ({ st with mem := (cu st.mem key p.1 p.2.2 p.2.1).1 }.put o.dst (cu st.mem key p.1 p.2.2 p.2.1).2)) (R2 tk m (iP tt st.mem ts s x) st o.dst B) := fun {ts s x} h => by
  cases ha : dr tt st.mem ts s x with
  | some p => rw [ha, oD] at h; exact oZ _ h
  | none => rw [ha, oE] at h; exact ⟨h.1, Ax (show qj tt st ts s x o.dst A from h.2) oZ⟩
 have cv : ∀ {f : FuncId} {vs : List V} {p : Option (List V)} {keys : List (Nat × Nat)}, oF tk m P f vs p keys st o.dst A → oF tk m P f vs p keys st o.dst B := fun h => by
  rcases h with ⟨vs', r, h1, h2, h3⟩ | ⟨r, m', h1, h2⟩ | ⟨hm, R, h1, h2⟩ | ⟨r, h1, h2⟩
  ·exact .inl ⟨vs', r, h1, h2, oZ _ h3⟩
  ·exact .inr (.inl ⟨r, m', h1, oZ _ h2⟩)
  ·exact .inr (.inr (.inl ⟨hm, R, h1, fun r m' h => oZ _ (h2 r m' h)⟩))
  ·exact .inr (.inr (.inr ⟨r, h1, oZ _ h2⟩))
 obtain ⟨dst, op, type, pos, after, guard⟩ := o
 cases op
 case call c =>
  obtain ⟨callee, args, Z6⟩ := c
  cases callee
  case value f =>
   simp only [iz] at h ⊢
   split at h
   ·rcases h with ⟨b, m', h1, h2⟩ | ⟨hm, R, h1, h2⟩
    ·exact .inl ⟨b, m', h1, oZ _ h2⟩
    ·exact .inr ⟨hm, R, h1, fun b m' h => oZ _ (h2 b m' h)⟩
   ·exact mb h fun v hv => cv hv
  case builtin b =>
   cases b
   case append =>
    simp only [iz] at h ⊢
    split at h
    ·exact app h
    ·exact h
   all_goals (simp only [iz] at h ⊢; exact mb h fun v hv => oZ _ hv)
  all_goals (simp only [iz] at h ⊢; exact mb h fun v hv => oZ _ hv)
 case makeMap T l =>
  cases l with
  | none => exact oZ _ h
  | some l => simp only [iz] at h ⊢; exact mb h fun v hv => oZ _ hv
 case next it str => exact ⟨h.1, Ay h.2 oZ⟩
 case binOp op T x y yt =>
  simp only [iz] at h ⊢
  cases hn : je tt op T (st.eval x) (st.eval y) with
  | some n =>
   rw [hn, oD] at h
   exact ⟨h.1, fun b hb => oZ _ (h.2 b hb)⟩
  | none => rw [hn, oE] at h; exact mb h fun v hv => oZ _ hv
 all_goals (simp only [iz] at h ⊢; exact mb h fun v hv => oZ _ hv)
def Mb (m : Bool) (P : Program) (tt : Table) (key : Nat) (o : Oper) (st : St) (Q : St → Prop) : Prop := match m with
 | true => bD P tt key o st Q
 | false => ∃ s, Q s ∧ ∀ K : St → Prop, K s → bD P tt key o st K
theorem eL {key : Nat} {o : Oper} (s : St) (h : Q s) (hk : ∀ K : St → Prop, K s → bD P tt key o st K) : Mb m P tt key o st Q := by
 cases m
 ·exact ⟨s, h, hk⟩
 ·exact hk Q h
theorem Gn {f : FuncId} {vs : List V} {dst : Option Tmp} {k : Tk} (h : oF k m P f vs (cy st.mem vs) (vs.flatMap cp) st dst Q) : (m = true ∧ uq P f vs st dst Q) ∨ ∃ s, Q s ∧ ∀ K : St → Prop, K s → uq P f vs st dst K := by
 rcases h with ⟨vs', r, h1, h2, h3⟩ | ⟨r, m', h1, h2⟩ | ⟨hm, R, h1, h2⟩ | ⟨r, h1, h2⟩
 ·exact .inr ⟨_, h3, fun K hK => .inl ⟨vs', r, h1, h2, hK⟩⟩
 ·exact .inr ⟨_, h2, fun K hK => .inr (.inl ⟨r, m', h1, hK⟩)⟩
 ·exact .inl ⟨hm, .inr (.inr (.inl ⟨R, h1, h2⟩))⟩
 ·exact .inr ⟨_, h2, fun K hK => .inr (.inr (.inr ⟨r, h1, hK⟩))⟩
theorem Gp {key : Nat} {o : Oper} (h : iz m P tt key o st Q) : Mb m P tt key o st Q := by
 unfold iz at h
 split at h
 all_goals try (rename_i jN; simp only [fF] at h; obtain ⟨v, h1, h2⟩ := h; refine eL _ h2 fun K hK => ?_; unfold bD; rw [jN]; dsimp only; rw [h1]; exact hK)
 ·rename_i jN
  simp only [fF] at h
  obtain ⟨mem, h1, h2⟩ := h
  refine eL _ h2 fun K hK => ?_
  unfold bD; rw [jN]; dsimp only
  unfold JQ at h1
  split at h1
  ·rename_i hl; cases h1; rw [hl]; exact hK
  ·rename_i hl
   rw [hl]
   split at h1
   ·rename_i hl; cases h1; dsimp only; rw [hl]; exact hK
   ·cases h1
 ·rename_i jN
  simp only [fF] at h
  obtain ⟨mem, h1, h2⟩ := h
  refine eL _ h2 fun K hK => ?_
  unfold bD; rw [jN]; dsimp only
  unfold v7 at h1
  split at h1
  ·rename_i hl; cases h1; rw [hl]; exact hK
  ·rename_i hl; rw [hl]; dsimp only; rw [h1]; exact hK
 ·rename_i jN
  split at h
  ·rename_i s x Jf
   cases ha : dr tt st.mem _ s x with
   | some p =>
    rw [ha, oD] at h
    refine eL _ h fun K hK => ?_
    unfold bD; rw [jN]; dsimp only; rw [Jf]; dsimp only; rw [ha]; exact hK
   | none =>
    rw [ha, oE] at h
    obtain ⟨rfl, h⟩ := h
    show bD P tt key o st Q
    unfold bD; rw [jN]; dsimp only; rw [Jf]; dsimp only; rw [ha]; exact h
  ·exact h.elim
 ·rename_i jN
  split at h
  ·rename_i k hk
   rcases h with ⟨b, m', h1, h2⟩ | ⟨rfl, R, h1, h2⟩
   ·refine eL _ h2 fun K hK => ?_
    unfold bD; rw [jN]; dsimp only; rw [hk]; exact .inl ⟨b, m', h1, hK⟩
   ·show bD P tt key o st Q
    unfold bD; rw [jN]; dsimp only; rw [hk]; exact .inr ⟨R, h1, h2⟩
  ·rename_i hk
   simp only [fF] at h
   obtain ⟨⟨g, vs⟩, h1, h2⟩ := h
   have R3 : ∀ K : St → Prop, uq P g vs st o.dst K → bD P tt key o st K := fun K hK => by
    unfold bD; rw [jN]; dsimp only
    split
    ·rename_i k hy; exact (hk k hy).elim
    ·rw [h1]; exact hK
   rcases Gn h2 with ⟨rfl, h3⟩ | ⟨s, h3, h4⟩
   ·exact R3 Q h3
   ·exact eL s h3 fun K hK => R3 K (h4 K hK)
 ·rename_i jN
  exact eL _ h fun K hK => by unfold bD; rw [jN]; exact hK
 ·rename_i jN
  obtain ⟨rfl, h⟩ := h
  show bD P tt key o st Q
  unfold bD; rw [jN]; exact h
 ·rename_i op T x y yt jN
  cases hn : je tt op T (st.eval x) (st.eval y) with
  | some n =>
   rw [hn, oD] at h
   obtain ⟨rfl, h⟩ := h
   show bD P tt key o st Q
   unfold bD; rw [jN]; dsimp only; rw [hn]; exact h
  | none =>
   rw [hn, oE, fF] at h
   obtain ⟨v, h1, h2⟩ := h
   exact eL _ h2 fun K hK => by unfold bD; rw [jN]; dsimp only; rw [hn]; dsimp only; rw [h1]; exact hK
 ·rw [fF] at h
  obtain ⟨v, h1, h2⟩ := h
  refine eL _ h2 fun K hK => ?_
  unfold bD
  split
  all_goals first
   | (rw [h1]; exact hK)
   | (exfalso; solve_by_elim)
end
end Go.Eng
end

section
namespace Go.Eng
variable [aE]
section
variable {P : Program} {ρ : Option Nat} {n0 : Nat} {c : Code} {st : St} {Q : Exit → St → Prop}
theorem Cl {v v' : V} (t : Nat) (h0 : st.fr[t]? = some v) (hp : fi st.mem v = some v') (h : gx P ρ n0 c { fr := st.fr.set t v', mem := bT st.mem (cp v) } Q) : gx P ρ n0 c st Q := fun E0 w0 IL E w a he hs fK => by
 obtain ⟨E', h1, h2, h3⟩ := hs.freeze (vs := [v]) (vs' := [v']) (by simp only [cy,hp])
 obtain ⟨x, hx, hr⟩ := hs.fr.get h0
 have tF := (h3 [x] (aP.cons hr (.nil _))).2 0 v' x rfl rfl
 have e1 : [v].flatMap cp = cp v := by simp
 rw [e1] at h1
 have e2 : a.tmps.toList.set t x = a.tmps.toList := by
  apply List.ext_getElem?
  intro i
  rw [List.getElem?_set]
  split
  ·rename_i hi; subst hi
   rw [if_pos (List.getElem?_eq_some_iff.1 hx).1, hx]
  ·rfl
 have h4 : aP E' (st.fr.set t v') a.tmps.toList := by
  have := (aP.set (n := t) h1.fr tF)
  rwa [e2] at this
 exact h E0 w0 IL E' w a (he.trans h2) ⟨h1.F, h1.lt, h1.mem, h1.top, h1.aA, h1.apart, h4⟩ (fK.E5 h2)
theorem NR {v v' : V} (t : Nat) (h0 : st.fr[t]? = some v) (hp : fi st.mem v = some v') (h : Ex P ρ n0 c { fr := st.fr.set t v', mem := bT st.mem (cp v) } Q) : Ex P ρ n0 c st Q := by
 obtain ⟨e, s2, hq, h2⟩ := h
 exact ⟨e, s2, hq, fun Q' h' => Cl t h0 hp (h2 Q' h')⟩
theorem eS {α : Type} {l : List α} {t : Nat} {x : α} (h : l[t]? = some x) : l.set t x = l := by
 apply List.ext_getElem?
 intro i
 rw [List.getElem?_set]
 split
 ·rename_i hi; subst hi
  rw [if_pos (List.getElem?_eq_some_iff.1 h).1, h]
 ·rfl
theorem aZ.NS {E : Env} {w : World} {a : Act} (hs : aZ E w a st) {k j : Nat} {cs : List V} (hk : st.mem[k]? = some (.box cs)) (hj : cs[j]? = some (.sc (.slice none 0 0))) (b v : Nat) : aZ E w a { st with mem := st.mem.set k (.box (cs.set j (.ms b v 0 0))) } := by
 have az := (List.getElem?_eq_some_iff.1 hk).1
 refine ⟨hs.F, hs.lt, fun k' B hB => ?_, fun k' eP => hs.top k' (by simpa using eP), fun k' B hB v hv => ?_, hs.apart, hs.fr⟩
 ·rw [List.getElem?_set] at hB
  split at hB
  ·rename_i he; subst he
   cases hB
   obtain ⟨g, T, xs, hb, hh, hr, hf⟩ := hs.mem k _ hk
   refine ⟨g, T, xs, hb, hh, ?_, hf⟩
   obtain ⟨x, hx, YJ⟩ := hr.get hj
   have YK := bZ YJ
   subst YK
   have := aP.set (n := j) hr (aW.dc E b v 0)
   rwa [eS hx] at this
  ·exact hs.mem k' B hB
 ·rw [List.getElem?_set] at hB
  split at hB
  ·rename_i he; subst he
   cases hB
   exact hs.aA k _ hk v hv
  ·exact hs.aA k' B hB v hv
end
end Go.Eng
end

section
namespace Go.Eng
variable [aE]
def lk (t : Nat) : List (Nat × V) → V
 | [] => .undef
 | p :: ws => if p.1 = t then p.2 else lk t ws
def W (n : Nat) (ws : List (Nat × V)) : List V := (List.range n).map fun i => lk i ws
theorem mQ (n : Nat) (ws : List (Nat × V)) (t : Nat) : (W n ws)[t]? = if t < n then some (lk t ws) else none := by
 unfold W
 rw [List.getElem?_map]
 by_cases h : t < n
 ·rw [if_pos h, List.getElem?_range h]; rfl
 ·rw [if_neg h, List.getElem?_eq_none (by simp; omega)]; rfl
theorem NT (n : Nat) (ws : List (Nat × V)) (t : Nat) : (W n ws).getD t .undef = if t < n then lk t ws else .undef := by
 rw [List.getD_eq_getElem?_getD, mQ]; split <;> rfl
theorem jy (n : Nat) (ws : List (Nat × V)) : (W n ws).length = n := by simp [W]
theorem Cm (n : Nat) (ws : List (Nat × V)) (d : Nat) (v : V) : (W n ws).set d v = W n ((d, v) :: ws) := by
 apply List.ext_getElem?
 intro i
 rw [List.getElem?_set, mQ, mQ, jy]
 simp only [lk]
 by_cases h : d = i
 ·subst h; simp
 ·simp [h]
def my (jz : List (Nat × V)) : List (Nat × V) → Prop
 | [] => True
 | p :: r => lk p.1 jz = p.2 ∧ my jz r
theorem Cn {jz : List (Nat × V)} : ∀ {ws : List (Nat × V)}, my jz ws → ∀ i, lk i ws = .undef ∨ lk i ws = lk i jz
 | [], _, i => .inl rfl
 | p :: r, h, i => by
  simp only [lk]
  by_cases e : p.1 = i
  ·subst e; rw [if_pos rfl]; exact .inr h.1.symm
  ·rw [if_neg e]; exact Cn h.2 i
theorem JR {E : Env} {n : Nat} {jz ws : List (Nat × V)} (h : my jz ws) {xs : List Value} (hr : aP E (W n jz) xs) : aP E (W n ws) xs := by
 refine ⟨by rw [← hr.1, jy, jy], fun i v x hv hx => ?_⟩
 rw [mQ] at hv
 split at hv
 ·rename_i hi
  cases hv
  rcases Cn h i with e | e
  ·rw [e]; exact .undef _ _
  ·rw [e]; exact hr.2 i _ x (by rw [mQ, if_pos hi]) hx
 ·cases hv
def E7 (k : Nat) (ws : List (Nat × V)) : Bool := ws.all fun p => ai k p.2
theorem Gq {k n : Nat} {ws : List (Nat × V)} (h : E7 k ws = true) : (W n ws).all (ai k) = true := by
 rw [List.all_eq_true]
 intro v hv
 unfold W at hv
 obtain ⟨i, -, rfl⟩ := List.mem_map.1 hv
 clear hv
 induction ws with
 | nil => rfl
 | cons p r ih =>
  unfold E7 at h ih
  rw [List.all_cons, Bool.and_eq_true] at h
  simp only [lk]
  split
  ·exact h.1
  ·exact ih h.2

def X (_ : Tk) (m : Bool) (P : Program) (ρ : Option Nat) (n0 : Nat) (c : Code) (st : St) (Q : Exit → St → Prop) : Prop := match m with
 | true => gx P ρ n0 c st Q
 | false => Ex P ρ n0 c st Q
section
variable {k_ : Tk} {m : Bool} {P : Program} {tt : Table} {sp : List Nat} {ρ : Option Nat} {n0 : Nat} {st : St} {Q : Exit → St → Prop} {n : Nat} {ws jz : List (Nat × V)} {mem fN : List aw}
theorem X.mono {c : Code} {Q2 : Exit → St → Prop} (h : X k_ m P ρ n0 c st Q) (hq : ∀ e s, Q e s → Q2 e s) : X k_ m P ρ n0 c st Q2 := by
 cases m
 ·exact Ex.mono h hq
 ·exact gx.mono h hq
theorem uH {x y : Code} (h : X k_ m P ρ n0 x st (dU (fun st' => X k_ m P ρ n0 y st' Q) Q)) : X k_ m P ρ n0 (.seq x y) st Q := by
 cases m
 ·exact Gg h
 ·exact jY h
theorem JS {id : Nat} {c : Code} (h : X k_ m P ρ n0 c st (eB id Q)) : X k_ m P ρ n0 (.block id c) st Q := by
 cases m
 ·exact Gh h
 ·exact jt h
theorem sC {c : Code} {st' : St} (hw : ∀ E w a, aZ E w a st → aZ E w a st') (h : X k_ m P ρ n0 c st' Q) : X k_ m P ρ n0 c st Q := by
 cases m
 ·obtain ⟨e, s, hq, h⟩ := h
  exact ⟨e, s, hq, fun Q' h' => sd hw (h Q' h')⟩
 ·exact sd hw h
theorem NU {c : Code} (k : Nat) (hn : n0 ≤ k) (hf : st.fr.all (ai k) = true) (hm : (st.mem.take k).all (aB k) = true) (h : X k_ m P ρ n0 c { st with mem := st.mem.take k } Q) : X k_ m P ρ n0 c st Q := by
 cases m
 ·obtain ⟨e, s, hq, h⟩ := h
  exact ⟨e, s, hq, fun Q' h' => xH k [] hn hf hm (h Q' h')⟩
 ·exact xH k [] hn hf hm h
def qS (n0 k n : Nat) (ws : List (Nat × V)) (mem : List aw) (st : St) : Prop :=
 ∃ jz fN, st = ⟨W n jz, fN⟩ ∧ n0 ≤ k ∧ my jz ws ∧ E7 k ws = true ∧ mem.all (aB k) = true ∧ fN.take k = mem
theorem bj {k : Nat} (h0 : n0 ≤ k) (h1 : my jz ws ∧ E7 k ws = true ∧ mem.all (aB k) = true ∧ fN.take k = mem) : qS n0 k n ws mem ⟨W n jz, fN⟩ := ⟨jz, fN, rfl, h0, h1⟩
theorem Gr {c : Code} {k : Nat} (hl : qS n0 k n ws mem st) (h : X k_ m P ρ n0 c ⟨W n ws, mem⟩ Q) : X k_ m P ρ n0 c st Q := by
 obtain ⟨jz, fN, rfl, h0, h1, h2, h3, h4⟩ := hl
 subst h4
 exact sC (st' := ⟨W n ws, fN⟩) (fun E w a hs => ⟨hs.F, hs.lt, hs.mem, hs.top, hs.aA, hs.apart, JR h1 hs.fr⟩) (NU k h0 (Gq h2) h3 h)

def gate (_ : Tk) (b : Bool) (d : Nat) (st : St) (f : Bool → St → Prop) : Prop := ∀ b', b = b' → f b' { st with fr := st.fr.set d (.sc (.bool b')) }
theorem NV {d : Nat} {f : Bool → St → Prop} : gate k_ true d st f = f true { st with fr := st.fr.set d (.sc (.bool true)) } := propext ⟨fun h => h _ rfl, fun h b' e => by subst e; exact h⟩
theorem NW {d : Nat} {f : Bool → St → Prop} : gate k_ false d st f = f false { st with fr := st.fr.set d (.sc (.bool false)) } := propext ⟨fun h => h _ rfl, fun h b' e => by subst e; exact h⟩
theorem aN {b : Bool} {d : Nat} {f : Bool → St → Prop} (h1 : b = true → f true { st with fr := st.fr.set d (.sc (.bool true)) }) (h2 : b = false → f false { st with fr := st.fr.set d (.sc (.bool false)) }) : gate k_ b d st f := by
 intro b' e
 cases b' with
 | true => exact h1 e
 | false => exact h2 e
theorem Co {b : Bool} {d : Nat} {f : Bool → St → Prop} (hd : st.fr[d]? = some (.sc (.bool b)) ∨ st.fr.getD d .undef = .sc (.bool b)) (h : gate k_ b d st f) : f b st := by
 have := h b rfl
 have e : st.fr.set d (.sc (.bool b)) = st.fr := by
  rcases hd with hd | hd
  ·exact eS hd
  ·rw [List.getD_eq_getElem?_getD] at hd
   cases hg : st.fr[d]? with
   | none => rw [hg] at hd; cases hd
   | some v => rw [hg] at hd; cases hd; exact eS hg
 rw [e] at this
 exact this
def v8 (_ : Tk) (v : Option V) (d : Nat) (want : Bool) (st : St) (yes no : St → Prop) : Prop := match v with
 | some (.sc (.bool b)) => gate tk b d st fun b s => match b == want with | true => yes s | false => no s
 | some (.sc _) => no st
 | some _ => False
 | none => no st
def qx : List Oper → Nat → Option Tmp
 | [], _ => none
 | o :: _, 0 => o.dst
 | _ :: r, n + 1 => qx r n
theorem JT {o : Oper} {r : List Oper} : qx (o :: r) 0 = o.dst := rfl
theorem Cp {o : Oper} {r : List Oper} {n : Nat} : qx (o :: r) (n + 1) = qx r n := rfl
theorem yl : ∀ (l : List Oper) (j : Nat), qx l j = (l[j]?).bind (·.dst)
 | [], j => by simp [qx]
 | o :: r, 0 => rfl
 | o :: r, j + 1 => by rw [Cp, yl r j, List.getElem?_cons_succ]
def gd (all : List Oper) (o : Oper) (st : St) (yes no : St → Prop) : Prop := match o.guard with
 | none => yes st
 | some (j, want) => match qx all j with
  | none => no st
  | some d => v8 tk st.fr[d]? d want st yes no
theorem Mc {all : Array Oper} {o : Oper} {yes no : St → Prop} (h : gd all.toList o st yes no) : (cT all st.fr o = some true ∧ yes st) ∨ (cT all st.fr o = some false ∧ no st) := by
 unfold gd at h
 unfold cT
 split at h
 ·rename_i hg; rw [hg]; exact .inl ⟨rfl, h⟩
 ·rename_i j want hg
  rw [hg]
  dsimp only
  rw [yl, Array.getElem?_toList] at h
  cases hd : (all[j]?).bind (·.dst) with
  | none => rw [hd] at h; exact .inr ⟨rfl, h⟩
  | some d =>
   rw [hd] at h
   dsimp only at h ⊢
   unfold v8 at h
   split at h
   ·rename_i b hb
    have h := Co (.inl hb) h
    rw [hb]
    dsimp only
    cases hc : b == want with
    | true => rw [hc] at h; exact .inl ⟨rfl, h⟩
    | false => rw [hc] at h; exact .inr ⟨rfl, h⟩
   ·rename_i x hx hb
    rw [hb]
    cases x with
    | bool b => exact absurd rfl (hx b)
    | _ => exact .inr ⟨rfl, h⟩
   ·exact h.elim
   ·rename_i hb; rw [hb]; exact .inr ⟨rfl, h⟩
def nk (m : Bool) (P : Program) (tt : Table) (all : List Oper) : List Oper → St → (St → Prop) → Prop
 | [], st, Q => Q st
 | o :: r, st, Q => gd all o st (fun s => iz m P tt s.mem.length o s fun s => nk m P tt all r s Q) (fun s => nk m P tt all r (s.put o.dst (.sc undef)) Q)
theorem NY {all : List Oper} {Q : St → Prop} : nk m P tt all [] ⟨W n ws, mem⟩ Q = Q ⟨W n ws, mem⟩ := fj rfl
theorem NZ {all : List Oper} {o : Oper} {r : List Oper} {Q : St → Prop} : nk m P tt all (o :: r) ⟨W n ws, mem⟩ Q = gd all o ⟨W n ws, mem⟩ (fun s => iz m P tt s.mem.length o s fun s => nk m P tt all r s Q) (fun s => nk m P tt all r (s.put o.dst (.sc undef)) Q) := fj rfl
def R4 (m : Bool) (P : Program) (tt : Table) (all : Array Oper) (l : List Oper) (st : St) (Q : St → Prop) : Prop := match m with
 | true => dx P tt all l st Q
 | false => ∃ s, Q s ∧ ∀ K : St → Prop, K s → dx P tt all l st K
theorem wa {all : Array Oper} {Q : St → Prop} : ∀ (l : List Oper) (st : St), nk m P tt all.toList l st Q → R4 m P tt all l st Q
 | [], st, h => by
  cases m with
  | true => show dx P tt all [] st Q; rw [dx]; exact h
  | false => exact ⟨st, h, fun K hK => by rw [dx]; exact hK⟩
 | o :: r, st, h => by
  rw [nk] at h
  rcases Mc h with ⟨hw, h⟩ | ⟨hw, h⟩
  ·have h := Gp (Az (B := fun s => R4 m P tt all r s Q) h fun s hs => wa r s hs)
   cases m with
   | true =>
    show dx P tt all (o :: r) st Q
    rw [dx, hw]
    exact h
   | false =>
    obtain ⟨s1, h1, h2⟩ := h
    obtain ⟨s2, h3, h4⟩ := h1
    exact ⟨s2, h3, fun K hK => by rw [dx, hw]; exact h2 _ (h4 K hK)⟩
  ·have h := wa r _ h
   cases m with
   | true =>
    show dx P tt all (o :: r) st Q
    rw [dx, hw]; exact h
   | false =>
    obtain ⟨s2, h3, h4⟩ := h
    exact ⟨s2, h3, fun K hK => by rw [dx, hw]; exact h4 K hK⟩
theorem oG (ht : TT P tt) {id : Nat} {ops : Array Oper} (h : nk m P tt ops.toList ops.toList st (Q .normal)) : X k_ m P ρ n0 (.region id ops false) st Q := by
 have h := wa _ _ h
 cases m with
 | true => exact jZ ht h
 | false =>
  obtain ⟨s, h1, h2⟩ := h
  exact ⟨.normal, s, h1, fun Q' h' => jZ ht (h2 _ h')⟩
def Cq (c : Operand) (st : St) (f : Bool → St → Prop) : Prop := match st.eval c with
 | .sc (.bool b) => match c with
  | .tmp t => gate tk b t st f
  | _ => f b st
 | _ => False
def Gs (i : Nat) : List Nat → Bool
 | [] => false
 | a :: r => if a = i then true else Gs i r
def ky : Code → Nat
 | .cond (.tmp t) _ _ => 10000 + t
 | .block i _ => 20000 + i
 | .seq _ _ => 30000
 | .region i _ _ => i
 | _ => 40000
def vc (m : Bool) (P : Program) (tt : Table) (sp : List Nat) (ρ : Option Nat) (n0 : Nat) : Code → St → (Exit → St → Prop) → Prop
 | .seq x y, st, Q => match x with
  | .region id ops false => match Gs id sp with
   | false => nk m P tt ops.toList ops.toList st fun s => vc m P tt sp ρ n0 y s Q
   | true => X tk m P ρ n0 (.seq (.region id ops false) y) st Q
  | .skip => vc m P tt sp ρ n0 y st Q
  | _ => match Gs (ky x) sp with
   | false => vc m P tt sp ρ n0 x st (dU (fun s => vc m P tt sp ρ n0 y s Q) Q)
   | true => X tk m P ρ n0 (.seq x y) st Q
 | .region id ops false, st, Q => match Gs id sp with
  | false => nk m P tt ops.toList ops.toList st (Q .normal)
  | true => X tk m P ρ n0 (.region id ops false) st Q
 | .cond c x y, st, Q => Cq c st fun b s => match b with | true => vc m P tt sp ρ n0 x s Q | false => vc m P tt sp ρ n0 y s Q
 | .block id c, st, Q => vc m P tt sp ρ n0 c st (eB id Q)
 | .skip, st, Q => Q .normal st
 | .ret, st, Q => Q .ret st
 | .exit id, st, Q => Q (.exit id) st
 | c, st, Q => X tk m P ρ n0 c st Q
theorem vx (ht : TT P tt) : ∀ {c : Code} {st : St} {Q : Exit → St → Prop}, vc m P tt sp ρ n0 c st Q → X k_ m P ρ n0 c st Q := by
 intro c
 induction c with
 | seq x y TX Qm =>
  intro st Q h
  unfold vc at h
  split at h
  ·split at h
   ·refine uH ((oG (Q := dU (fun s => vc m P tt sp ρ n0 y s Q) Q) ht h).mono fun e s h => ?_)
    cases e with
    | normal => exact Qm h
    | _ => exact h
   ·exact h
  ·have h := Qm h
   cases m
   ·exact Gg (Ck h)
   ·exact jY (lf h)
  ·split at h
   ·refine uH ((TX h).mono fun e s h => ?_)
    cases e with
    | normal => exact Qm h
    | _ => exact h
   ·exact h
 | region id ops mixed =>
  intro st Q h
  cases mixed
  ·unfold vc at h
   split at h
   ·exact oG ht h
   ·exact h
  ·unfold vc at h; exact h
 | cond c x y TX Qm =>
  intro st Q h
  unfold vc at h
  unfold Cq at h
  split at h
  ·rename_i b hb
   have h : X k_ m P ρ n0 (if b = true then x else y) st Q := by
    split at h
    ·rename_i t
     have h := Co (.inr hb) h
     cases b
     ·exact Qm h
     ·exact TX h
    ·cases b
     ·exact Qm h
     ·exact TX h
   cases m
   ·exact JL hb h
   ·exact lg hb h
  ·exact h.elim
 | block id c ih => intro st Q h; unfold vc at h; exact JS (ih h)
 | skip =>
  intro st Q h; unfold vc at h
  cases m
  ·exact Ck h
  ·exact lf h
 | ret =>
  intro st Q h; unfold vc at h
  cases m
  ·exact NI h
  ·exact oj h
 | exit id =>
  intro st Q h; unfold vc at h
  cases m
  ·exact JK h
  ·exact r9 h
 | _ => intro st Q h; unfold vc at h; exact h
section
variable {x y : Code} {id : Nat} {ops : Array Oper} {c : Operand}
theorem AA {v : Option V} {d : Nat} {want : Bool} {yes no : St → Prop} {k : Tk} : v8 k v d want st yes no = match v with
  | some (.sc (.bool b)) => gate tk b d st fun b s => match b == want with | true => yes s | false => no s
  | some (.sc _) => no st
  | some _ => False
  | none => no st := fj rfl
def sV := @iz
theorem DT {key : Nat} {o : Oper} {Q : St → Prop} : iz m P tt key o ⟨W n ws, mem⟩ Q = sV m P tt key o ⟨W n ws, mem⟩ Q := fj rfl
theorem N0 {key : Nat} {o : Oper} {Q : St → Prop} : sV m P tt key o st Q = match o.op with
   | .alloc T => bq tk (tt T) fun i => Q ({ st with mem := bc st.mem key (.box (i.zero.map V.sc)) }.put o.dst (.ptr key 0))
   | .box _ x => bq tk (fy (st.eval x)) fun cs => Q ({ st with mem := bc st.mem key (.box cs) }.put o.dst (.ptr key 0))
   | .build T parts => bq tk (gG P tt T parts.toList st.eval) fun v => Q (st.put o.dst v)
   | .buildSlice T len parts => bq tk (JQ tt T len parts.toList st key) fun mem => Q ({ st with mem := mem }.put o.dst (.ms key 0 0 len))
   | .store T p x => bq tk (v7 tt st.mem T (st.eval p) (st.eval x)) fun mem => Q ({ st with mem := mem }.put o.dst (.sc undef))
   | .call { callee := .builtin .append, args := xs, argTypes := ts } => match xs.toList.map st.eval with
    | [s, x] => nq tk (dr tt st.mem ts.toList s x) (fun p => Q ({ st with mem := (cu st.mem key p.1 p.2.2 p.2.1).1 }.put o.dst (cu st.mem key p.1 p.2.2 p.2.1).2)) (R2 tk m (iP tt st.mem ts.toList s x) st o.dst Q)
    | _ => False
   | .call { callee := .value f, args := xs, .. } => match st.eval f with
    | .gY k => R1 tk m P k (xs.toList.map st.eval) st o.dst Q
    | fv => bq tk (bf fv (xs.toList.map st.eval)) fun p => oF tk m P p.1 p.2 (cy st.mem p.2) (p.2.flatMap cp) st o.dst Q
   | .makeSlice T l c => bq tk (mO tt T (st.eval l) (st.eval c)) fun p => Q ({ st with mem := bc st.mem key (.rows 0 p.1 p.2.1) }.put o.dst (.ms key 0 0 p.2.1.length))
   | .makeMap _ none => Q ({ st with mem := bc st.mem key (.map [] 0) }.put o.dst (.mp key))
   | .mapUpdate T d k x => bq tk (cn P st.mem T (st.eval d) (st.eval k) (st.eval x)) fun mem => Q ({ st with mem := mem }.put o.dst (.sc undef))
   | .insert T d k x => bq tk (cn P st.mem T (st.eval d) (st.eval k) (st.eval x)) fun mem => Q ({ st with mem := mem }.put o.dst (.sc undef))
   | .mapEntry T d k => bq tk (o7 P st.mem T (st.eval d) (st.eval k)) fun p => Q ({ st with mem := p.1 }.put o.dst p.2)
   | .entryStore _ d s x => bq tk (o8 st.mem (st.eval d) (st.eval s) (st.eval x)) fun mem => Q ({ st with mem := mem }.put o.dst (.sc undef))
   | .call { callee := .builtin .delete, args := xs, argTypes := ts } => bq tk (l0 P st.mem ts (xs.toList.map st.eval)) fun mem => Q ({ st with mem := mem }.put o.dst (.sc (.tuple #[])))
   | .range T x => bq tk (js P st.mem T (st.eval x)) fun B => Q ({ st with mem := bc st.mem key B }.put o.dst (.ptr key 0))
   | .next it str => Xh tk m st o.dst (st.eval it) str Q
   | .binOp op T x y _ => nq tk (je tt op T (st.eval x) (st.eval y)) (fun n => Vr tk m n op st o.dst Q) (bq tk (fJ P tt st o) fun v => Q (st.put o.dst v))
   | _ => bq tk (fJ P tt st o) fun v => Q (st.put o.dst v) := fj rfl
theorem N1 {all : List Oper} {o : Oper} {yes no : St → Prop} : gd all o ⟨W n ws, mem⟩ yes no = match o.guard with
  | none => yes ⟨W n ws, mem⟩
  | some (j, want) => match qx all j with
   | none => no ⟨W n ws, mem⟩
   | some d => v8 tk (W n ws)[d]? d want ⟨W n ws, mem⟩ yes no := fj rfl
theorem DU {f : Bool → St → Prop} : Cq c st f = match st.eval c with
  | .sc (.bool b) => match c with
   | .tmp t => gate tk b t st f
   | _ => f b st
  | _ => False := fj rfl
theorem R5 : vc m P tt sp ρ n0 (.seq (.region id ops false) y) ⟨W n ws, mem⟩ Q = match Gs id sp with
  | false => nk m P tt ops.toList ops.toList ⟨W n ws, mem⟩ fun s => vc m P tt sp ρ n0 y s Q
  | true => X tk m P ρ n0 (.seq (.region id ops false) y) ⟨W n ws, mem⟩ Q := fj rfl
theorem R6 : vc m P tt sp ρ n0 (.seq (.region id ops true) y) ⟨W n ws, mem⟩ Q = match Gs id sp with
  | false => vc m P tt sp ρ n0 (.region id ops true) ⟨W n ws, mem⟩ (dU (fun s => vc m P tt sp ρ n0 y s Q) Q)
  | true => X tk m P ρ n0 (.seq (.region id ops true) y) ⟨W n ws, mem⟩ Q := fj rfl
theorem R7 {x1 : Code} : vc m P tt sp ρ n0 (.seq (.seq x x1) y) ⟨W n ws, mem⟩ Q = match Gs 30000 sp with
  | false => vc m P tt sp ρ n0 (.seq x x1) ⟨W n ws, mem⟩ (dU (fun s => vc m P tt sp ρ n0 y s Q) Q)
  | true => X tk m P ρ n0 (.seq (.seq x x1) y) ⟨W n ws, mem⟩ Q := fj rfl
theorem R8 {x1 : Code} {t : Nat} : vc m P tt sp ρ n0 (.seq (.cond (.tmp t) x x1) y) ⟨W n ws, mem⟩ Q = match Gs (10000 + t) sp with
  | false => vc m P tt sp ρ n0 (.cond (.tmp t) x x1) ⟨W n ws, mem⟩ (dU (fun s => vc m P tt sp ρ n0 y s Q) Q)
  | true => X tk m P ρ n0 (.seq (.cond (.tmp t) x x1) y) ⟨W n ws, mem⟩ Q := fj rfl
theorem R9 : vc m P tt sp ρ n0 (.seq (.block id x) y) ⟨W n ws, mem⟩ Q = match Gs (20000 + id) sp with
  | false => vc m P tt sp ρ n0 (.block id x) ⟨W n ws, mem⟩ (dU (fun s => vc m P tt sp ρ n0 y s Q) Q)
  | true => X tk m P ρ n0 (.seq (.block id x) y) ⟨W n ws, mem⟩ Q := fj rfl
theorem Vs : vc m P tt sp ρ n0 (.region id ops false) ⟨W n ws, mem⟩ Q = match Gs id sp with
  | false => nk m P tt ops.toList ops.toList ⟨W n ws, mem⟩ (Q .normal)
  | true => X tk m P ρ n0 (.region id ops false) ⟨W n ws, mem⟩ Q := fj rfl
theorem Vt : vc m P tt sp ρ n0 (.region id ops true) ⟨W n ws, mem⟩ Q = X tk m P ρ n0 (.region id ops true) ⟨W n ws, mem⟩ Q := fj rfl
theorem Vu : vc m P tt sp ρ n0 (.cond c x y) ⟨W n ws, mem⟩ Q = Cq c ⟨W n ws, mem⟩ fun b s => match b with | true => vc m P tt sp ρ n0 x s Q | false => vc m P tt sp ρ n0 y s Q := fj rfl
theorem Vv : vc m P tt sp ρ n0 (.block id x) ⟨W n ws, mem⟩ Q = vc m P tt sp ρ n0 x ⟨W n ws, mem⟩ (eB id Q) := fj rfl
theorem Vw : vc m P tt sp ρ n0 .skip ⟨W n ws, mem⟩ Q = Q .normal ⟨W n ws, mem⟩ := fj rfl
theorem Vx : vc m P tt sp ρ n0 .ret ⟨W n ws, mem⟩ Q = Q .ret ⟨W n ws, mem⟩ := fj rfl
theorem Vy : vc m P tt sp ρ n0 (.exit id) ⟨W n ws, mem⟩ Q = Q (.exit id) ⟨W n ws, mem⟩ := fj rfl
theorem Vz : vc m P tt sp ρ n0 (.loop x) ⟨W n ws, mem⟩ Q = X tk m P ρ n0 (.loop x) ⟨W n ws, mem⟩ Q := fj rfl
theorem VB {f : St → Prop} : dU f Q .normal st = f st := fj rfl
theorem VE {f : St → Prop} : dU f Q .ret st = Q .ret st := fj rfl
theorem VG {f : St → Prop} {j : Nat} : dU f Q (.exit j) st = Q (.exit j) st := fj rfl
theorem VH {j : Nat} : eB j Q .normal st = Q .normal st := fj rfl
theorem VI {j : Nat} : eB j Q .ret st = Q .ret st := fj rfl
theorem VJ {i j : Nat} : eB i Q (.exit j) st = if j = i then Q .normal st else Q (.exit j) st := fj rfl
end
attribute [irreducible] vc
end
end Go.Eng
end

section
namespace Go.Eng
variable [aE]
section
variable {k_ : Tk} {m : Bool} {P : Program} {tt : Table} {ρ : Option Nat} {n0 : Nat} {st : St} {Q : Exit → St → Prop} {n : Nat} {ws jz : List (Nat × V)} {mem fN : List aw}
theorem sD (ht : TT P tt) {sp : List Nat} {y : Code} (e : Exit) (s : St) (h : dU (fun s => vc m P tt sp ρ n0 y s Q) Q e s) : dU (fun s => X k_ m P ρ n0 y s Q) Q e s := by
 cases e with
 | normal => exact vx (k_ := k_) ht h
 | _ => exact h
theorem sq (ht : TT P tt) (sp : List Nat) {x y : Code} (h : vc m P tt sp ρ n0 x st (dU (fun s => vc m P tt sp ρ n0 y s Q) Q)) : X k_ m P ρ n0 (.seq x y) st Q := uH ((vx ht h).mono (sD ht))
theorem TY (ht : TT P tt) (sp : List Nat) {id : Nat} {ops : Array Oper} {y : Code} (h : nk m P tt ops.toList ops.toList st fun s => vc m P tt sp ρ n0 y s Q) : X k_ m P ρ n0 (.seq (.region id ops false) y) st Q :=
 uH ((oG (Q := dU (fun s => vc m P tt sp ρ n0 y s Q) Q) ht h).mono (sD ht))
theorem AB (ht : TT P tt) {id : Nat} {ops : Array Oper} (h : nk m P tt ops.toList ops.toList st (Q .normal)) : X k_ m P ρ n0 (.region id ops false) st Q := oG ht h
theorem kh {c : Code} {k j : Nat} (hl : qS n0 k n ws mem st) (h : kH P ρ n0 c j ⟨W n ws, mem⟩ Q) : kH P ρ n0 c j st Q := by
 cases j with
 | zero => exact h.elim
 | succ j => exact Gr (k_ := .b) (m := true) hl h
theorem N2 {α : Type} (F : α → List (Nat × V)) (M : α → List aw) (μ : α → Nat) (Inv : α → Prop) (a0 : α) (k : Nat) {c : Code} (h0 : qS n0 k n (F a0) (M a0) st) (hi : Inv a0)
  (step : ∀ a, Inv a → X k_ m P ρ n0 c ⟨W n (F a), M a⟩ (dU (fun s => ∃ a', Inv a' ∧ μ a' < μ a ∧ qS n0 k n (F a') (M a') s) Q)) : X k_ m P ρ n0 (.loop c) st Q := by
 cases m with
 | true =>
  have key : ∀ (j : Nat) (a : α), Inv a → μ a = j → kH P ρ n0 c (j + 1) ⟨W n (F a), M a⟩ Q := by
   intro j
   induction j using Nat.strongRecOn with
   | _ j ih =>
    intro a hi hj
    refine gx.mono (step a hi) fun e s h => ?_
    cases e with
    | normal =>
     obtain ⟨a', h1, h2, h3⟩ := h
     exact kh h3 (sg (by omega) (ih _ (by omega) a' h1 rfl))
    | _ => exact h
  exact sb _ (kh h0 (key _ a0 hi rfl))
 | false =>
  have key : ∀ (j : Nat) (a : α), Inv a → μ a = j → ∃ (e : Exit) (s : St), Q e s ∧ ∀ Q' : Exit → St → Prop, Q' e s → ∃ i, kH P ρ n0 c i ⟨W n (F a), M a⟩ Q' := by
   intro j
   induction j using Nat.strongRecOn with
   | _ j ih =>
    intro a hi hj
    obtain ⟨e, s, hq, h⟩ := step a hi
    cases e with
    | normal =>
     obtain ⟨a', h1, h2, h3⟩ := hq
     obtain ⟨e2, s2, EZ, h5⟩ := ih _ (by omega) a' h1 rfl
     refine ⟨e2, s2, EZ, fun Q' h' => ?_⟩
     obtain ⟨i, h6⟩ := h5 Q' h'
     exact ⟨i + 1, h _ (kh h3 h6)⟩
    | _ => exact ⟨_, s, hq, fun Q' h' => ⟨1, h (dU (fun st' => kH P ρ n0 c 0 st' Q') Q') h'⟩⟩
  obtain ⟨e, s, hq, h⟩ := key _ a0 hi rfl
  refine ⟨e, s, hq, fun Q' h' => ?_⟩
  obtain ⟨j, hj⟩ := h Q' h'
  exact sb j (kh h0 hj)
theorem cY (ht : TT P tt) (sp : List Nat) {α : Type} (F : α → List (Nat × V)) (M : α → List aw) (μ : α → Nat) (Inv : α → Prop) (a0 : α) (k : Nat) {c : Code} (h0 : qS n0 k n (F a0) (M a0) st) (hi : Inv a0)
  (step : ∀ a, Inv a → ∀ K : St → Prop, (∀ s, (∃ a', Inv a' ∧ μ a' < μ a ∧ qS n0 k n (F a') (M a') s) → K s) → vc m P tt sp ρ n0 c ⟨W n (F a), M a⟩ (dU K Q)) : X k_ m P ρ n0 (.loop c) st Q := N2 F M μ Inv a0 k h0 hi fun a h => vx ht (step a h _ fun _ h => h)
def pk (ws : List (Nat × V)) : List Nat → List (Nat × V)
 | [] => []
 | k :: r => (k, lk k ws) :: pk ws r
def zk : List Nat → List V → List (Nat × V) → List (Nat × V)
 | t :: ts, v :: vs, r => (t, v) :: zk ts vs r
 | _, _, r => r
theorem N3 {ks : List Nat} : my ws (pk ws ks) := by
 induction ks with
 | nil => trivial
 | cons k r ih => exact ⟨rfl, ih⟩
theorem bz {k : Nat} {p : Nat × V} : E7 k (p :: ws) = (ai k p.2 && E7 k ws) := R0 rfl
theorem bR {k : Nat} : E7 k [] = true := R0 rfl
theorem N4 (ht : TT P tt) (sp : List Nat) (ts : List Nat) (Sa : List V) (k : Nat) (ks : List Nat) (μ : List V → Nat) (Inv : List V → Prop) {c : Code} (hn : n0 ≤ k) (h0 : my jz (zk ts Sa (pk jz ks)) ∧ E7 k (zk ts Sa (pk jz ks)) = true ∧ (fN.take k).all (aB k) = true) (hi : Inv Sa)
  (step : ∀ vs, Inv vs → ∀ K : St → Prop, (∀ s, (∃ vs', Inv vs' ∧ μ vs' < μ vs ∧ qS n0 k n (zk ts vs' (pk jz ks)) (fN.take k) s) → K s) → vc m P tt sp ρ n0 c ⟨W n (zk ts vs (pk jz ks)), fN.take k⟩ (dU K Q)) : X k_ m P ρ n0 (.loop c) ⟨W n jz, fN⟩ Q :=
 cY ht sp (fun vs => zk ts vs (pk jz ks)) (fun _ => fN.take k) μ Inv Sa k (bj hn ⟨h0.1, h0.2.1, h0.2.2, rfl⟩) hi step
def fh (ws : List (Nat × V)) : List Nat → List V
 | [] => []
 | t :: r => lk t ws :: fh ws r
theorem wb : ∀ {ts : List Nat} {r : List (Nat × V)}, my ws r → my ws (zk ts (fh ws ts) r)
 | [], r, h => h
 | t :: ts, r, h => ⟨rfl, wb h⟩
theorem bx (ht : TT P tt) (sp : List Nat) (ts : List Nat) (k : Nat) (ks : List Nat) (μ : List V → Nat) (Inv : List V → Prop) {c : Code} (hn : n0 ≤ k) (h0 : E7 k (zk ts (fh jz ts) (pk jz ks)) = true ∧ (fN.take k).all (aB k) = true) (hi : Inv (fh jz ts))
  (step : ∀ vs, Inv vs → ∀ K : St → Prop, (∀ s, (∃ vs', Inv vs' ∧ μ vs' < μ vs ∧ qS n0 k n (zk ts vs' (pk jz ks)) (fN.take k) s) → K s) → vc m P tt sp ρ n0 c ⟨W n (zk ts vs (pk jz ks)), fN.take k⟩ (dU K Q)) : X k_ m P ρ n0 (.loop c) ⟨W n jz, fN⟩ Q :=
 N4 ht sp ts (fh jz ts) k ks μ Inv hn ⟨wb N3, h0⟩ hi step
theorem cC {ts ks : List Nat} {k j : Nat} {Inv : List V → Prop} {μ : List V → Nat} {IN : List (Nat × V)} {Gt : List aw} (hn : n0 ≤ k) (h : my IN (pk jz ks) ∧ E7 k (zk ts (fh IN ts) (pk jz ks)) = true ∧ (fN.take k).all (aB k) = true ∧ Gt.take k = fN.take k) (hi : Inv (fh IN ts)) (hm : μ (fh IN ts) < j) :
  ∃ vs', Inv vs' ∧ μ vs' < j ∧ qS n0 k n (zk ts vs' (pk jz ks)) (fN.take k) ⟨W n IN, Gt⟩ := ⟨_, hi, hm, bj hn ⟨wb h.1, h.2⟩⟩
theorem Sb {ts ks : List Nat} {k : Nat} {Inv : List V → Prop} {IN : List (Nat × V)} {Gt : List aw} (hn : n0 ≤ k) (h : my IN (pk jz ks) ∧ E7 k (zk ts (fh IN ts) (pk jz ks)) = true ∧ (fN.take k).all (aB k) = true ∧ Gt.take k = fN.take k) (hi : Inv (fh IN ts)) :
  ∃ vs', Inv vs' ∧ qS n0 k n (zk ts vs' (pk jz ks)) (fN.take k) ⟨W n IN, Gt⟩ := ⟨_, hi, bj hn ⟨wb h.1, h.2⟩⟩
theorem Sc (ht : TT P tt) (sp : List Nat) (ts : List Nat) (k : Nat) (ks : List Nat) (Inv : List V → Prop) {x y : Code}
  (h1 : ∀ K : St → Prop, (∀ s, (∃ vs, Inv vs ∧ qS n0 k n (zk ts vs (pk jz ks)) (fN.take k) s) → K s) → vc m P tt sp ρ n0 x ⟨W n jz, fN⟩ (dU K Q))
  (h2 : ∀ vs, Inv vs → vc m P tt sp ρ n0 y ⟨W n (zk ts vs (pk jz ks)), fN.take k⟩ Q) : X k_ m P ρ n0 (.seq x y) ⟨W n jz, fN⟩ Q := by
 refine uH ((vx ht (h1 _ fun _ h => h)).mono fun e s h => ?_)
 cases e with
 | normal =>
  obtain ⟨vs, hv, hl⟩ := h
  exact Gr (k_ := k_) hl (vx ht (h2 vs hv))
 | _ => exact h
theorem sE {c : Code} {v v' : V} (t : Nat) (hn : t < n) (h0 : lk t ws = v) (hp : fi mem v = some v') (h : X k_ m P ρ n0 c ⟨W n ((t, v') :: ws), bT mem (cp v)⟩ Q) : X k_ m P ρ n0 c ⟨W n ws, mem⟩ Q := by
 have hg : (⟨W n ws, mem⟩ : St).fr[t]? = some v := by rw [← h0]; show (W n ws)[t]? = _; rw [mQ, if_pos hn]
 rw [← Cm] at h
 cases m
 ·exact NR t hg hp h
 ·exact Cl t hg hp h
def Md (_ : Tk) (P : Program) (f : FuncId) (o : Option (List V)) (st : St) (dst : Option Tmp) (Q : St → Prop) : Prop := ∃ vs' r, o = some vs' ∧ vO P f vs' r ∧ Q (st.put dst r)
def N5 (_ : Tk) (P : Program) (f : FuncId) (o : Option (List V)) (st : St) (key : Nat) (dst : Option Tmp) (Q : St → Prop) : Prop := ∃ vs' e rs, o = some vs' ∧ si P f vs' e rs ∧ Q (sj st key dst e rs)
def N6 (_ : Tk) (P : Program) (f : FuncId) (o : Option (List V)) (keys : List (Nat × Nat)) (st : St) (dst : Option Tmp) (Q : St → Prop) : Prop := ∃ vs' r, o = some vs' ∧ aQ P f vs' r ∧ Q ({ st with mem := cK st.mem keys r }.put dst r)
def Gu (_ : Tk) (P : Program) (f : FuncId) (vs : List V) (k : Nat) (st : St) (dst : Option Tmp) (Q : St → Prop) : Prop := zZ P f vs k st dst Q
def Gv (P : Program) (tt : Table) (o : Oper) (tS st : St) (Q : St → Prop) : Prop :=
 match o.op with
 | .call { callee := .value f, args := xs, .. } => bq tk (bf (tS.eval f) (xs.toList.map tS.eval)) fun p => Md tk P p.1 (cy [] p.2) st o.dst Q
 | _ => bq tk (qP P tt o tS) fun v => Q (st.put o.dst v)
def N7 (P : Program) (o : Oper) (key : Nat) (st : St) (Q : St → Prop) : Prop :=
 match o.op with
 | .call { callee := .value f, args := xs, .. } => bq tk (bf (st.eval f) (xs.toList.map st.eval)) fun p => N5 tk P p.1 (cy [] p.2) st key o.dst Q
 | _ => False
def zG (P : Program) (o : Oper) (st : St) (Q : St → Prop) : Prop :=
 match o.op with
 | .call { callee := .value f, args := xs, .. } => bq tk (bf (st.eval f) (xs.toList.map st.eval)) fun p => N6 tk P p.1 (cy st.mem p.2) (p.2.flatMap cp) st o.dst Q
 | _ => False
def eG (P : Program) (o : Oper) (k : Nat) (st : St) (Q : St → Prop) : Prop :=
 match o.op with
 | .call { callee := .value f, args := xs, .. } => bq tk (bf (st.eval f) (xs.toList.map st.eval)) fun p => Gu tk P p.1 p.2 k st o.dst Q
 | _ => False
def Gw (P : Program) (tt : Table) (base : Nat) (o : Oper) (p : Pl) (st : St) (Q : St → Prop) : Prop := match p.cls with
 | .n => Gv P tt o { st with mem := [] } st Q
 | .r => Gv P tt o { st with mem := di (p.mask.map (base + ·) ++ p.abs) st.mem } st Q
 | .a => isHole st.mem (base + p.key) = true ∧ nq tk (ef tt o (base + p.key) st) (fun q => Q ({ st with mem := st.mem.set (base + p.key) q.1 }.put o.dst q.2)) (N7 P o (base + p.key) st Q)
 | .w => isHole st.mem (base + p.key) = true ∧ bq tk (oq P tt (base + p.key) o st) fun q => Q ({ st with mem := q.1 }.put o.dst q.2)
 | .s => bq tk (qQ tt (base + p.key) o st) fun mem => Q ({ st with mem := mem }.put o.dst (.sc undef))
 | .b => bq tk (kJ tt o st) fun v => Q (st.put o.dst v)
 | .z => zG P o st Q
 | .e => eG P o p.key st Q
theorem N8 {all : Array Oper} {base : Nat} {o : Oper} {p : Pl} {Q : St → Prop} (hw : cT all st.fr o = some true) (h : Gw P tt base o p st Q) : dI P tt all base o p st Q := by
 have hv : ∀ {tS : St}, Gv P tt o tS st Q → vP P tt o tS st Q := fun {tS} h => by
  unfold Gv at h
  unfold vP
  split at h
  ·rename_i f xs ts jN
   rw [jN]
   dsimp only
   rw [fF] at h
   obtain ⟨⟨g, vs⟩, h1, h2⟩ := h
   rw [h1]
   exact h2
  ·rename_i jN
   split
   ·rename_i f xs ts VK; exact (jN f xs ts VK).elim
   ·rw [fF] at h
    obtain ⟨v, h1, h2⟩ := h
    rw [h1]; exact h2
 unfold Gw at h
 unfold dI
 rw [hw]
 dsimp only
 split at h <;> (rename_i hc; rw [hc]; dsimp only)
 ·exact hv h
 ·exact hv h
 ·refine ⟨h.1, ?_⟩
  have h := h.2
  cases hn : ef tt o (base + p.key) st with
  | some q => rw [hn, oD] at h; exact h
  | none =>
   rw [hn, oE] at h
   dsimp only
   unfold N7 at h
   unfold ng
   split at h
   ·rename_i jN
    rw [jN]
    dsimp only
    rw [fF] at h
    obtain ⟨⟨g, vs⟩, h1, h2⟩ := h
    rw [h1]; exact h2
   ·exact h.elim
 ·refine ⟨h.1, ?_⟩
  have h := h.2
  rw [fF] at h
  obtain ⟨q, h1, h2⟩ := h
  rw [h1]; exact h2
 ·rw [fF] at h
  obtain ⟨q, h1, h2⟩ := h
  rw [h1]; exact h2
 ·rw [fF] at h
  obtain ⟨q, h1, h2⟩ := h
  rw [h1]; exact h2
 ·unfold zG at h
  unfold lh
  split at h
  ·rename_i jN
   rw [jN]
   dsimp only
   rw [fF] at h
   obtain ⟨⟨g, vs⟩, h1, h2⟩ := h
   rw [h1]; exact h2
  ·exact h.elim
 ·unfold eG at h
  unfold uy
  split at h
  ·rename_i jN
   rw [jN]
   dsimp only
   rw [fF] at h
   obtain ⟨⟨g, vs⟩, h1, h2⟩ := h
   rw [h1]; exact h2
  ·exact h.elim
def wc (P : Program) (tt : Table) (all : List Oper) (base : Nat) : List Oper → List Pl → St → (St → Prop) → Prop
 | [], _, st, K => K st
 | o :: r, p :: ps, st, K => gd all o st (fun st => Gw P tt base o p st fun st' => wc P tt all base r ps st' K) (fun st => wc P tt all base r ps (st.put o.dst (.sc undef)) K)
 | _ :: _, [], _, _ => False
theorem N9 {all : List Oper} {base : Nat} {ps : List Pl} {K : St → Prop} : wc P tt all base [] ps ⟨W n ws, mem⟩ K = K ⟨W n ws, mem⟩ := fj rfl
theorem Oa {all : List Oper} {base : Nat} {o : Oper} {r : List Oper} {p : Pl} {ps : List Pl} {K : St → Prop} : wc P tt all base (o :: r) (p :: ps) ⟨W n ws, mem⟩ K = gd all o ⟨W n ws, mem⟩ (fun st => Gw P tt base o p st fun st' => wc P tt all base r ps st' K) (fun st => wc P tt all base r ps (st.put o.dst (.sc undef)) K) := fj rfl
theorem rk {all : Array Oper} {base : Nat} {Q : St → Prop} : ∀ (l : List Oper) (ps : List Pl) (st : St), wc P tt all.toList base l ps st Q → runM P tt all base l ps st Q
 | [], ps, st, h => h
 | o :: r, [], st, h => h.elim
 | o :: r, p :: ps, st, h => by
  rw [runM]
  rcases Mc (show gd all.toList o st _ _ from h) with ⟨hw, h⟩ | ⟨hw, h⟩
  ·have h := N8 hw h
   by_cases hz : p.cls = .z
   ·unfold dI at h ⊢
    rw [hw, hz] at h ⊢
    exact sk h fun s hs => rk r ps s hs
   ·obtain ⟨v, m, h1, h2⟩ := (dX hz).1 h
    exact (dX hz).2 ⟨v, m, h1, rk r ps _ h2⟩
  ·unfold dI
   rw [hw]
   exact rk r ps _ h
theorem bu (ht : TT P tt) (hm : P.follows .mixedOrders = true) (plan : List Pl) (j : Nat) {id : Nat} {ops : Array Oper} (bK : ss ops plan = true) (h : wc P tt ops.toList st.mem.length ops.toList plan { st with mem := st.mem ++ List.replicate j .hole } (Q .normal)) : X k_ m P ρ n0 (.region id ops true) st Q := by
 have h := rk _ _ _ h
 cases m
 ·obtain ⟨s, h1, h2⟩ := rj _ _ _ h
  exact ⟨.normal, s, h1, fun Q' h' => pj ht hm plan j bK (h2 _ h')⟩
 ·exact pj ht hm plan j bK h
theorem VL (ht : TT P tt) (sp : List Nat) (hm : P.follows .mixedOrders = true) (plan : List Pl) (j : Nat) {id : Nat} {ops : Array Oper} {y : Code} (bK : ss ops plan = true)
  (h : wc P tt ops.toList st.mem.length ops.toList plan { st with mem := st.mem ++ List.replicate j .hole } fun s => vc m P tt sp ρ n0 y s Q) : X k_ m P ρ n0 (.seq (.region id ops true) y) st Q :=
 uH ((bu (Q := dU (fun s => vc m P tt sp ρ n0 y s Q) Q) ht hm plan j bK h).mono (sD ht))
section
variable {k : Tk} {f : FuncId} {vs vs' : List V} {o : Option (List V)} {keys : List (Nat × Nat)} {dst : Option Tmp} {Q : St → Prop}
theorem cF {R : V → Prop} (hr : ∃ v, R v ∧ aQ P f vs' v) (h : ∀ v, R v → Q ({ st with mem := cK st.mem keys v }.put dst v)) : oF k m P f vs (some vs') keys st dst Q := by
 obtain ⟨v, h1, h2⟩ := hr
 exact .inl ⟨vs', v, rfl, h2, h v h1⟩
theorem cW {R : V → List aw → Prop} (hr : ∃ v m', R v m' ∧ aT P f vs st.mem v m') (h : ∀ v m', R v m' → Q ({ st with mem := m' }.put dst v)) : oF k m P f vs o keys st dst Q := by
 obtain ⟨v, m', h1, h2⟩ := hr
 exact .inr (.inl ⟨v, m', h2, h v m' h1⟩)
theorem cS {R : V → Prop} (hr : ∃ v, R v ∧ aT P f vs st.mem v st.mem) (h : ∀ v, R v → Q (st.put dst v)) : oF k m P f vs o keys st dst Q := by
 obtain ⟨v, h1, h2⟩ := hr
 exact .inr (.inl ⟨v, _, h2, h v h1⟩)
theorem cR {R : V → List aw → Prop} (hr : gA P f vs st.mem R) (h : ∀ v m', R v m' → Q ({ st with mem := m' }.put dst v)) : oF k true P f vs o keys st dst Q := .inr (.inr (.inl ⟨rfl, R, hr, h⟩))
theorem cG {R : V → Prop} (hr : ∃ v, R v ∧ aQ P f vs' v) (h : ∀ v, R v → Q (st.put dst v)) : Md k P f (some vs') st dst Q := by
 obtain ⟨v, h1, h2⟩ := hr
 exact ⟨vs', v, rfl, .inl h2, h v h1⟩
theorem Xi {R : V → aw → Prop} {j : Nat} {B0 : aw} (hv : st.mem[j]? = some B0) (h0 : B0.aA = 0) (hr : ∃ v B, R v B ∧ B.aA = 0 ∧ ∀ mem : List aw, mem[j]? = some B0 → aT P f vs mem v (mem.set j B)) (h : ∀ v B, R v B → Q ({ st with mem := st.mem.set j B }.put dst v)) : Gu k P f vs j st dst Q := DS hv h0 hr h
end
def sF : Nat → List V → List (Nat × V)
 | i, v :: vs => (i, v) :: sF (i + 1) vs
 | _, [] => []
theorem Cr : ∀ (vs : List V) (i t : Nat), lk t (sF i vs) = if i ≤ t then vs.getD (t - i) .undef else .undef
 | [], i, t => by simp [sF, lk]
 | v :: vs, i, t => by
  simp only [sF,lk]
  rw [Cr vs (i + 1) t]
  by_cases h : i = t
  ·subst h; simp
  ·rw [if_neg h]
   by_cases h2 : i + 1 ≤ t
   ·rw [if_pos h2, if_pos (by omega), show t - i = (t - (i + 1)) + 1 by omega]; simp
   ·rw [if_neg h2, if_neg (by omega)]
theorem we {fn : Func} {args : List V} {c : Code} (hn : fn.ntmps = n) (hl : args.length ≤ n) (h : X k_ m P ρ n0 c ⟨W n (sF 0 args), mem⟩ Q) : X k_ m P ρ n0 c (eo fn args mem) Q := by
 refine sC (st' := ⟨W n (sF 0 args), mem⟩) (fun E w a hs => ⟨hs.F, hs.lt, hs.mem, hs.top, hs.aA, hs.apart, ?_⟩) h
 have hr := hs.fr
 simp only [eo,hn] at hr
 refine ⟨by rw [← hr.1, jy, List.length_append, List.length_replicate]; omega, fun i v x hv hx => ?_⟩
 rw [mQ] at hv
 split at hv
 ·rename_i hi
  cases hv
  rw [Cr, if_pos (Nat.zero_le _), Nat.sub_zero, List.getD_eq_getElem?_getD]
  cases ha : args[i]? with
  | none => exact .undef _ _
  | some v => exact hr.2 i v x (by rw [List.getElem?_append_left (List.getElem?_eq_some_iff.1 ha).1]; exact ha) hx
 ·cases hv
def JU (R : V → Prop) (o : Option V) : Prop := ∃ r, R r ∧ o = some r
theorem DV {R : V → Prop} {v : V} : JU R (some v) = R v := propext ⟨fun ⟨_, h, e⟩ => by cases e; exact h, fun h => ⟨v, h, rfl⟩⟩
theorem Gx {K : V → Prop} {L : List V} {k : Nat} (h : L.length = k) (hk : K (.slice L)) : JU K (if k ≤ L.length then some (.slice (L.take k)) else none) := by
 subst h
 rw [if_pos (Nat.le_refl _), List.take_length]
 exact ⟨_, hk, rfl⟩
def Ob (R : V → Prop) (tt : Table) (rs : Array ResultVar) (e : Exit) (s : St) : Prop := (e = .ret ∨ e = .normal) ∧ JU R (tQ tt rs s)
theorem Gy {R : V → Prop} {rs : Array ResultVar} : Ob R tt rs .ret ⟨W n ws, mem⟩ = JU R (tQ tt rs ⟨W n ws, mem⟩) := propext ⟨fun h => h.2, fun h => ⟨.inl rfl, h⟩⟩
def JV (R : V → List aw → Prop) (k : Nat) (o : Option V) (mem : List aw) : Prop := ∃ r, R r mem ∧ o = some r ∧ ai k r = true ∧ mem.all (aB k) = true
theorem DW {R : V → List aw → Prop} {k : Nat} {v : V} : JV R k (some v) mem = (R v mem ∧ ai k v = true ∧ mem.all (aB k) = true) := propext ⟨fun ⟨_, h, e, h2⟩ => by cases e; exact ⟨h, h2⟩, fun ⟨h, h2⟩ => ⟨v, h, rfl, h2⟩⟩
def JW (R : V → List aw → Prop) (k : Nat) (tt : Table) (rs : Array ResultVar) (e : Exit) (s : St) : Prop := (e = .ret ∨ e = .normal) ∧ JV R k (ix tt rs s) (s.mem.take k)
theorem Gz {R : V → List aw → Prop} {k : Nat} {rs : Array ResultVar} : JW R k tt rs .ret ⟨W n ws, mem⟩ = JV R k (ix tt rs ⟨W n ws, mem⟩) (mem.take k) := propext ⟨fun h => h.2, fun h => ⟨.inl rfl, h⟩⟩
theorem DX {R : V → List aw → Prop} {k : Nat} {rs : Array ResultVar} : JW R k tt rs .normal ⟨W n ws, mem⟩ = JV R k (ix tt rs ⟨W n ws, mem⟩) (mem.take k) := propext ⟨fun h => h.2, fun h => ⟨.inr rfl, h⟩⟩
end
section
variable {P : Program} {tt : Table} {f : FuncId} {fn : Func} {body : Code} {args : List V}
theorem dZ (ht : TT P tt) (sp : List Nat) (n : Nat) (rs : List ResultVar) {R : V → Prop} (hf : P.funcs[f]? = some fn) (hb : fn.body = some body)
  (dy : ∀ (xs : Array Value) (w : World), (callFunc f xs).run P w = .ok (.enter f xs) w) (hn : fn.ntmps = n ∧ fn.results = rs.toArray ∧ args.length ≤ n)
  (h : ∀ K : V → Prop, (∀ v, R v → K v) → vc false P tt sp none 0 body ⟨W n (sF 0 args), []⟩ (Ob K tt rs.toArray)) : ∃ r, R r ∧ aQ P f args r := by
 have h := h R fun _ h => h
 obtain ⟨e, s, ⟨h1, r, hr, h2⟩, h3⟩ := we (m := false) hn.1 hn.2.2 (vx (k_ := .b) ht h)
 exact ⟨r, hr, FH ht hf hb dy (h3 _ ⟨h1, by rw [hn.2.1]; exact h2⟩)⟩
theorem Sd (ht : TT P tt) (sp : List Nat) (n : Nat) (rs : List ResultVar) {r : V} (hf : P.funcs[f]? = some fn) (hb : fn.body = some body)
  (dy : ∀ (xs : Array Value) (w : World), (callFunc f xs).run P w = .ok (.enter f xs) w) (hn : fn.ntmps = n ∧ fn.results = rs.toArray ∧ args.length ≤ n)
  (h : ∀ K : V → Prop, (∀ v, v = r → K v) → vc true P tt sp none 0 body ⟨W n (sF 0 args), []⟩ (Ob K tt rs.toArray)) : aQ P f args r := by
 have h := h (fun v => v = r) fun _ h => h
 exact FH ht hf hb dy (gx.mono (we (m := true) hn.1 hn.2.2 (vx (k_ := .b) ht h)) fun e s ⟨h1, r', hr, h2⟩ => ⟨h1, by rw [hn.2.1, ← hr]; exact h2⟩)
theorem E8 (ht : TT P tt) (sp : List Nat) (n : Nat) (rs : List ResultVar) {R : V → List aw → Prop} {mem : List aw} (k : Nat) (hk : mem.length ≤ k) (hf : P.funcs[f]? = some fn) (hb : fn.body = some body)
  (dy : ∀ (xs : Array Value) (w : World), (callFunc f xs).run P w = .ok (.enter f xs) w) (hn : fn.ntmps = n ∧ fn.results = rs.toArray ∧ args.length ≤ n)
  (h : ∀ K : V → List aw → Prop, (∀ v m', R v m' → K v m') → vc false P tt sp none mem.length body ⟨W n (sF 0 args), mem⟩ (JW K k tt rs.toArray)) : ∃ r m', R r m' ∧ aT P f args mem r m' := by
 have h := h R fun _ _ h => h
 obtain ⟨e, s, ⟨h1, r, hr, h2, h4⟩, h5⟩ := we (m := false) hn.1 hn.2.2 (vx (k_ := .b) ht h)
 exact ⟨r, _, hr, FJ ht k hk hf hb dy (h5 _ ⟨h1, by rw [hn.2.1]; exact h2, h4.1, h4.2, rfl⟩)⟩
theorem E9 (ht : TT P tt) (sp : List Nat) (n : Nat) (rs : List ResultVar) {R : V → Prop} {mem : List aw} (hf : P.funcs[f]? = some fn) (hb : fn.body = some body)
  (dy : ∀ (xs : Array Value) (w : World), (callFunc f xs).run P w = .ok (.enter f xs) w) (hn : fn.ntmps = n ∧ fn.results = rs.toArray ∧ args.length ≤ n)
  (h : ∀ K : V → List aw → Prop, (∀ v m', R v ∧ m' = mem → K v m') → vc false P tt sp none mem.length body ⟨W n (sF 0 args), mem⟩ (JW K mem.length tt rs.toArray)) : ∃ r, R r ∧ aT P f args mem r mem := by
 obtain ⟨r, m', ⟨hr, rfl⟩, h⟩ := E8 ht sp n rs (R := fun r m' => R r ∧ m' = mem) mem.length (Nat.le_refl _) hf hb dy hn h
 exact ⟨r, hr, h⟩
end
end Go.Eng
end

section
namespace Go.Eng
variable [aE]
open Go.RowKit (Below)

mutual
def bo (σ : Nat → Nat) : V → V
 | .undef => .undef
 | .sc v => .sc v
 | .agg cs => .agg (cb σ cs)
 | .slice rows => .slice rows
 | .ms b v s l => .ms (σ b) v s l
 | .ptr b o => .ptr (σ b) o
 | .da b v i o => .da (σ b) v i o
 | .cj cs => .cj cs
 | .fM f first cap => .fM f (cb σ first) (cb σ cap)
 | .bP vs => .bP (cb σ vs)
 | .gY b => .gY (σ b)
 | .mp b => .mp (σ b)
 | .gn => .gn
 | .full rows => .full rows
def cb (σ : Nat → Nat) : List V → List V
 | [] => []
 | c :: r => bo σ c :: cb σ r
end
theorem cN (σ : Nat → Nat) : ∀ l : List V, cb σ l = l.map (bo σ)
 | [] => rfl
 | c :: r => by rw [cb, cN σ r]; rfl
def cq (σ : Nat → Nat) : aw → aw
 | .box cs => .box (cb σ cs)
 | .loop s p fr ps a b => .loop s p (cb σ fr) ps a b
 | .map bm c => .map (bm.map fun e => (e.1, e.2.1, bo σ e.2.2)) c
 | .eh m since seen last => .eh (σ m) since seen last
 | B => B
theorem sG (σ : Nat → Nat) (B : aw) : (cq σ B).aA = B.aA := by cases B <;> rfl
theorem aW.ym {E : Env} {v : V} {x : Value} (h : aW E v x) : ∀ {n : Nat} {σ : Nat → Nat} {E2 : Env}, ai n v = true → (∀ ad y, E.F ad = some y → E2.F ad = some y) → (∀ k v t, k < n → E.aK k v = some t → E2.aK (σ k) v = some t) → aW E2 (bo σ v) x := by
 induction h with
 | undef => intros; exact .undef _ _
 | sc => intros; exact .sc _ _
 | slice E rows a cap mW ad xf ha gQ hz hF h1 hR ih =>
  intro n σ E2 hb ee hk
  exact .slice _ _ _ _ mW ad xf ha gQ hz (fun i row j c hi hj => ee _ _ (hF i row j c hi hj)) h1 fun i row j c hi hj => (hR i row j c hi hj).mono ⟨ee, fun _ _ _ h => by cases h⟩
 | ms E b v s l g e c a cap dS hl h0 ue =>
  intro n σ E2 hb ee hk
  exact .ms _ _ _ _ _ g e c _ _ (hk _ _ _ (by simpa [ai] using hb) dS) hl h0 ue
 | dc => intros; exact .dc _ _ _ _
 | ptr E b o g e c dS =>
  intro n σ E2 hb ee hk
  exact .ptr _ _ _ g e c (hk _ _ _ (by simpa [ai] using hb) dS)
 | gY E b l e c dS =>
  intro n σ E2 hb ee hk
  exact .gY _ _ l e c (hk _ _ _ (by simpa [ai] using hb) dS)
 | mp E b l e c dS =>
  intro n σ E2 hb ee hk
  exact .mp _ _ l e c (hk _ _ _ (by simpa [ai] using hb) dS)
 | da E b v i o g e c dS =>
  intro n σ E2 hb ee hk
  exact .da _ _ _ _ _ g e c (hk _ _ _ (by simpa [ai] using hb) dS)
 | cj E cs ad xf hF hR ih =>
  intro n σ E2 hb ee hk
  exact .cj _ _ _ xf (fun j c hj => ee _ _ (hF j c hj)) fun j c hj => (hR j c hj).mono ⟨ee, fun _ _ _ h => by cases h⟩
 | gn => intros; exact .gn _
 | full E rows a h ih =>
  intro n σ E2 hb ee hk
  exact .full _ _ _ (ih (n := n) (σ := σ) rfl ee hk)
 | agg E cs xs hl hh ih =>
  intro n σ E2 hb ee hk
  rw [ai, cw] at hb
  rw [bo, cN]
  refine .agg _ _ _ (by rw [List.length_map]; exact hl) fun i c x hc hx => ?_
  rw [List.getElem?_map, Option.map_eq_some_iff] at hc
  obtain ⟨c0, An, rfl⟩ := hc
  exact ih i c0 x An hx (List.all_eq_true.1 hb c0 (List.mem_of_getElem? An)) ee hk
 | bP E cs xs hl hh ih =>
  intro n σ E2 hb ee hk
  rw [ai, cw] at hb
  rw [bo, cN]
  refine .bP _ _ _ (by rw [List.length_map]; exact hl) fun i c x hc hx => ?_
  rw [List.getElem?_map, Option.map_eq_some_iff] at hc
  obtain ⟨c0, An, rfl⟩ := hc
  exact ih i c0 x An hx (List.all_eq_true.1 hb c0 (List.mem_of_getElem? An)) ee hk
 | fM E f first cap xs ys hx hy h1 h2 ML MM =>
  intro n σ E2 hb ee hk
  rw [ai, cw, cw, Bool.and_eq_true] at hb
  rw [bo, cN, cN]
  refine .fM _ _ _ _ _ _ (by rw [List.length_map]; exact hx) (by rw [List.length_map]; exact hy) (fun i c x hc hx => ?_) fun i c x hc hx => ?_
  ·rw [List.getElem?_map, Option.map_eq_some_iff] at hc
   obtain ⟨c0, An, rfl⟩ := hc
   exact ML i c0 x An hx (List.all_eq_true.1 hb.1 c0 (List.mem_of_getElem? An)) ee hk
  ·rw [List.getElem?_map, Option.map_eq_some_iff] at hc
   obtain ⟨c0, An, rfl⟩ := hc
   exact MM i c0 x An hx (List.all_eq_true.1 hb.2 c0 (List.mem_of_getElem? An)) ee hk
theorem aW.qy {E : Env} {u : V} {x : Value} (h : aW E u x) : ∀ {v : V} {n : Nat} {σ : Nat → Nat} {E2 : Env}, u = bo σ v → ai n v = true → (∀ ad y, E.F ad = some y → E2.F ad = some y) → (∀ k v t, k < n → E.aK (σ k) v = some t → E2.aK k v = some t) → aW E2 v x := by
 induction h with
 | undef =>
  intro v n σ E2 he hb ee hk
  cases v <;> simp only [bo,reduceCtorEq] at he
  exact .undef _ _
 | sc =>
  intro v n σ E2 he hb ee hk
  cases v <;> simp only [bo,reduceCtorEq,V.sc.injEq] at he
  subst he; exact .sc _ _
 | slice E rows a cap mW ad xf ha gQ hz hF h1 hR ih =>
  intro v n σ E2 he hb ee hk
  cases v <;> simp only [bo,reduceCtorEq,V.slice.injEq] at he
  subst he
  exact .slice _ _ _ _ mW ad xf ha gQ hz (fun i row j c hi hj => ee _ _ (hF i row j c hi hj)) h1 fun i row j c hi hj => (hR i row j c hi hj).mono ⟨ee, fun _ _ _ h => by cases h⟩
 | ms E b v s l g e c a cap dS hl h0 ue =>
  intro v n σ E2 he hb ee hk
  cases v <;> simp only [bo,reduceCtorEq,V.ms.injEq] at he
  obtain ⟨rfl, rfl, rfl, rfl⟩ := he
  exact .ms _ _ _ _ _ g e c _ _ (hk _ _ _ (by simpa [ai] using hb) dS) hl h0 ue
 | dc =>
  intro v n σ E2 he hb ee hk
  cases v <;> simp only [bo,reduceCtorEq,V.ms.injEq] at he
  obtain ⟨rfl, rfl, rfl, rfl⟩ := he
  exact .dc _ _ _ _
 | ptr E b o g e c dS =>
  intro v n σ E2 he hb ee hk
  cases v <;> simp only [bo,reduceCtorEq,V.ptr.injEq] at he
  obtain ⟨rfl, rfl⟩ := he
  exact .ptr _ _ _ g e c (hk _ _ _ (by simpa [ai] using hb) dS)
 | gY E b l e c dS =>
  intro v n σ E2 he hb ee hk
  cases v <;> simp only [bo,reduceCtorEq,V.gY.injEq] at he
  subst he
  exact .gY _ _ l e c (hk _ _ _ (by simpa [ai] using hb) dS)
 | mp E b l e c dS =>
  intro v n σ E2 he hb ee hk
  cases v <;> simp only [bo,reduceCtorEq,V.mp.injEq] at he
  subst he
  exact .mp _ _ l e c (hk _ _ _ (by simpa [ai] using hb) dS)
 | da E b v i o g e c dS =>
  intro v n σ E2 he hb ee hk
  cases v <;> simp only [bo,reduceCtorEq,V.da.injEq] at he
  obtain ⟨rfl, rfl, rfl, rfl⟩ := he
  exact .da _ _ _ _ _ g e c (hk _ _ _ (by simpa [ai] using hb) dS)
 | cj E cs ad xf hF hR ih =>
  intro v n σ E2 he hb ee hk
  cases v <;> simp only [bo,reduceCtorEq,V.cj.injEq] at he
  subst he
  exact .cj _ _ _ xf (fun j c hj => ee _ _ (hF j c hj)) fun j c hj => (hR j c hj).mono ⟨ee, fun _ _ _ h => by cases h⟩
 | full E rows a h ih =>
  intro v n σ E2 he hb ee hk
  cases v <;> simp only [bo,reduceCtorEq,V.full.injEq] at he
  subst he
  exact .full _ _ _ (ih (v := .slice rows) (n := n) (σ := σ) rfl rfl ee hk)
 | gn =>
  intro v n σ E2 he hb ee hk
  cases v <;> simp only [bo,reduceCtorEq] at he
  exact .gn _
 | agg E cs xs hl hh ih =>
  intro v n σ E2 he hb ee hk
  cases v <;> simp only [bo,reduceCtorEq,V.agg.injEq] at he
  subst he
  rw [ai, cw] at hb
  rw [cN, List.length_map] at hl
  refine .agg _ _ _ hl fun i c x hc hx => ?_
  exact ih i (bo σ c) x (by rw [cN, List.getElem?_map, hc]; rfl) hx rfl (List.all_eq_true.1 hb c (List.mem_of_getElem? hc)) ee hk
 | bP E cs xs hl hh ih =>
  intro v n σ E2 he hb ee hk
  cases v <;> simp only [bo,reduceCtorEq,V.bP.injEq] at he
  subst he
  rw [ai, cw] at hb
  rw [cN, List.length_map] at hl
  refine .bP _ _ _ hl fun i c x hc hx => ?_
  exact ih i (bo σ c) x (by rw [cN, List.getElem?_map, hc]; rfl) hx rfl (List.all_eq_true.1 hb c (List.mem_of_getElem? hc)) ee hk
 | fM E f first cap xs ys hx hy h1 h2 ML MM =>
  intro v n σ E2 he hb ee hk
  cases v <;> simp only [bo,reduceCtorEq,V.fM.injEq] at he
  obtain ⟨rfl, rfl, rfl⟩ := he
  rw [ai, cw, cw, Bool.and_eq_true] at hb
  rw [cN, List.length_map] at hx hy
  refine .fM _ _ _ _ _ _ hx hy (fun i c x hc hx => ?_) fun i c x hc hx => ?_
  ·exact ML i (bo σ c) x (by rw [cN, List.getElem?_map, hc]; rfl) hx rfl (List.all_eq_true.1 hb.1 c (List.mem_of_getElem? hc)) ee hk
  ·exact MM i (bo σ c) x (by rw [cN, List.getElem?_map, hc]; rfl) hx rfl (List.all_eq_true.1 hb.2 c (List.mem_of_getElem? hc)) ee hk
theorem aP.ym {E E2 : Env} {vs : List V} {xs : List Value} {n : Nat} {σ : Nat → Nat} (h : aP E vs xs) (hb : vs.all (ai n) = true) (hF : ∀ ad y, E.F ad = some y → E2.F ad = some y) (hk : ∀ k v t, k < n → E.aK k v = some t → E2.aK (σ k) v = some t) : aP E2 (cb σ vs) xs := by
 rw [cN]
 refine ⟨by rw [List.length_map]; exact h.1, fun i v x hv hx => ?_⟩
 rw [List.getElem?_map, Option.map_eq_some_iff] at hv
 obtain ⟨c, hc, rfl⟩ := hv
 exact (h.2 i c x hc hx).ym (List.all_eq_true.1 hb c (List.mem_of_getElem? hc)) hF hk
theorem aP.qy {E E2 : Env} {vs : List V} {xs : List Value} {n : Nat} {σ : Nat → Nat} (h : aP E (cb σ vs) xs) (hb : vs.all (ai n) = true) (hF : ∀ ad y, E.F ad = some y → E2.F ad = some y) (hk : ∀ k v t, k < n → E.aK (σ k) v = some t → E2.aK k v = some t) : aP E2 vs xs := by
 rw [cN] at h
 refine ⟨by have := h.1; rwa [List.length_map] at this, fun i v x hv hx => ?_⟩
 exact (h.2 i (bo σ v) x (by rw [List.getElem?_map, hv]; rfl) hx).qy rfl (List.all_eq_true.1 hb v (List.mem_of_getElem? hv)) hF hk
theorem ij.ym {E E2 : Env} {w w2 : World} {k : Nat} {B : aw} {n : Nat} {σ : Nat → Nat} (h : ij E w k B) (eQ : k < n) (hb : aB n B = true) (hF : E2.F = E.F) (hk : ∀ k v, k < n → E2.aK (σ k) v = E.aK k v) (hw : w2.heap = w.heap) : ij E2 w2 (σ k) (cq σ B) := by
 have zS : ∀ ad y, E.F ad = some y → E2.F ad = some y := fun ad y h => by rw [hF]; exact h
 have fC : ∀ k v t, k < n → E.aK k v = some t → E2.aK (σ k) v = some t := fun k v t hn h => by rw [hk k v hn]; exact h
 have hp : E2.pure = E.pure := Env.Dj hF rfl
 cases B with
 | hole => exact fun v => by rw [hk k v eQ]; exact h v
 | dead => trivial
 | box cs =>
  obtain ⟨g, T, xs, h1, h2, h3, h4⟩ := h
  exact ⟨g, T, xs, fC _ _ _ eQ h1, by rw [hw]; exact h2, h3.ym hb zS fC, fun o => by rw [hF]; exact h4 o⟩
 | rows v e rs =>
  rcases h with ⟨h1, h2⟩ | ⟨g, T, xs, c, h1, h2, h3, h4, h5, h6⟩
  ·exact .inl ⟨h1, by rw [hk k v eQ]; exact h2⟩
  ·exact .inr ⟨g, T, xs, c, fC _ _ _ eQ h1, by rw [hw]; exact h2, h3, h4, by rw [hp]; exact h5, fun o => by rw [hF]; exact h6 o⟩
 | mv v e rs =>
  rcases h with ⟨h1, h2⟩ | ⟨g, c, h1, h2, h3⟩
  ·exact .inl ⟨h1, by rw [hk k v eQ]; exact h2⟩
  ·exact .inr ⟨g, c, fC _ _ _ eQ h1, h2, by rw [hp, hF]; exact h3⟩
 | loop s iY fr params assign body =>
  obtain ⟨l, fn, tmps, db, h1, h2, h3, h4⟩ := h
  exact ⟨l, fn, tmps, db, fC _ _ _ eQ h1, by rw [hw]; exact h2, h3.ym hb zS fC, fun o => by rw [hF]; exact h4 o⟩
 | map bm clock =>
  obtain ⟨g, es, h1, h2, h3, h4⟩ := h
  refine ⟨g, es, fC _ _ _ eQ h1, by rw [hw]; exact h2, ⟨by rw [List.length_map]; exact h3.1, fun i kb e dD he => ?_⟩, fun o => by rw [hF]; exact h4 o⟩
  rw [List.getElem?_map, Option.map_eq_some_iff] at dD
  obtain ⟨q, hq, rfl⟩ := dD
  obtain ⟨p1, p2, p3⟩ := h3.2 i q e hq he
  exact ⟨p1, p2, p3.ym (List.all_eq_true.1 hb q (List.mem_of_getElem? hq)) zS fC⟩
 | eh m since seen last =>
  obtain ⟨g, gm, e, c, h1, h2, h3, h4⟩ := h
  exact ⟨g, gm, e, c, fC _ _ _ eQ h1, fC _ _ _ (by simpa [aB] using hb) h2, by rw [hw]; exact h3, fun o => by rw [hF]; exact h4 o⟩
 | gJ s pos =>
  obtain ⟨g, h1, h2, h3⟩ := h
  exact ⟨g, fC _ _ _ eQ h1, by rw [hw]; exact h2, fun o => by rw [hF]; exact h3 o⟩
 | ig =>
  obtain ⟨g, h1, h2, h3⟩ := h
  exact ⟨g, fC _ _ _ eQ h1, by rw [hw]; exact h2, fun o => by rw [hF]; exact h3 o⟩
theorem ij.qy {E E2 : Env} {w : World} {k : Nat} {B : aw} {n : Nat} {σ : Nat → Nat} (h : ij E w (σ k) (cq σ B)) (eQ : k < n) (hb : aB n B = true) (hF : E2.F = E.F) (hk : ∀ k v, k < n → E2.aK k v = E.aK (σ k) v) : ij E2 w k B := by
 have zS : ∀ ad y, E.F ad = some y → E2.F ad = some y := fun ad y h => by rw [hF]; exact h
 have fC : ∀ k v t, k < n → E.aK (σ k) v = some t → E2.aK k v = some t := fun k v t hn h => by rw [hk k v hn]; exact h
 have hp : E2.pure = E.pure := Env.Dj hF rfl
 cases B with
 | hole => exact fun v => by rw [hk k v eQ]; exact h v
 | dead => trivial
 | box cs =>
  obtain ⟨g, T, xs, h1, h2, h3, h4⟩ := h
  exact ⟨g, T, xs, fC _ _ _ eQ h1, h2, h3.qy hb zS fC, fun o => by rw [hF]; exact h4 o⟩
 | rows v e rs =>
  rcases h with ⟨h1, h2⟩ | ⟨g, T, xs, c, h1, h2, h3, h4, h5, h6⟩
  ·exact .inl ⟨h1, by rw [hk k v eQ]; exact h2⟩
  ·exact .inr ⟨g, T, xs, c, fC _ _ _ eQ h1, h2, h3, h4, by rw [hp]; exact h5, fun o => by rw [hF]; exact h6 o⟩
 | mv v e rs =>
  rcases h with ⟨h1, h2⟩ | ⟨g, c, h1, h2, h3⟩
  ·exact .inl ⟨h1, by rw [hk k v eQ]; exact h2⟩
  ·exact .inr ⟨g, c, fC _ _ _ eQ h1, h2, by rw [hp, hF]; exact h3⟩
 | loop s iY fr params assign body =>
  obtain ⟨l, fn, tmps, db, h1, h2, h3, h4⟩ := h
  exact ⟨l, fn, tmps, db, fC _ _ _ eQ h1, h2, h3.qy hb zS fC, fun o => by rw [hF]; exact h4 o⟩
 | map bm clock =>
  obtain ⟨g, es, h1, h2, h3, h4⟩ := h
  refine ⟨g, es, fC _ _ _ eQ h1, h2, ⟨by have := h3.1; rwa [List.length_map] at this, fun i q e hq he => ?_⟩, fun o => by rw [hF]; exact h4 o⟩
  obtain ⟨p1, p2, p3⟩ := h3.2 i _ e (by rw [List.getElem?_map, hq]; rfl) he
  exact ⟨p1, p2, p3.qy rfl (List.all_eq_true.1 hb q (List.mem_of_getElem? hq)) zS fC⟩
 | eh m since seen last =>
  obtain ⟨g, gm, e, c, h1, h2, h3, h4⟩ := h
  exact ⟨g, gm, e, c, fC _ _ _ eQ h1, fC _ _ _ (by simpa [aB] using hb) h2, h3, fun o => by rw [hF]; exact h4 o⟩
 | gJ s pos =>
  obtain ⟨g, h1, h2, h3⟩ := h
  exact ⟨g, fC _ _ _ eQ h1, h2, fun o => by rw [hF]; exact h3 o⟩
 | ig =>
  obtain ⟨g, h1, h2, h3⟩ := h
  exact ⟨g, fC _ _ _ eQ h1, h2, fun o => by rw [hF]; exact h3 o⟩

def fX (σ : Nat → Nat) : Nat → List aw → List aw → List aw
 | _, [], M => M
 | i, B :: r, M => fX σ (i + 1) r (M.set (σ i) (cq σ B))
def mz (σ : Nat → Nat) (n : Nat) (aD M : List aw) : List aw := fX σ 0 (aD.take n) M ++ (aD.drop n).map (cq σ)
theorem ec (σ : Nat → Nat) : ∀ (l : List aw) (i : Nat) (M : List aw), (fX σ i l M).length = M.length
 | [], _, _ => rfl
 | B :: r, i, M => by rw [fX, ec σ r]; simp
theorem pD (σ : Nat → Nat) : ∀ (l : List aw) (i : Nat) (M : List aw) (k : Nat), (∀ j, i ≤ j → j < i + l.length → σ j ≠ k) → (fX σ i l M)[k]? = M[k]?
 | [], _, _, _, _ => rfl
 | B :: r, i, M, k, h => by
  rw [fX, pD σ r (i + 1) _ k fun j h1 h2 => h j (by omega) (by simp; omega), List.getElem?_set_ne (h i (Nat.le_refl _) (by simp))]
theorem uI (σ : Nat → Nat) : ∀ (l : List aw) (i : Nat) (M : List aw) (j : Nat) (B : aw), (∀ a b, i ≤ a → a < i + l.length → i ≤ b → b < i + l.length → σ a = σ b → a = b) → i ≤ j → l[j - i]? = some B → σ j < M.length → (fX σ i l M)[σ j]? = some (cq σ B)
 | [], _, _, _, _, _, _, h, _ => by simp at h
 | C :: r, i, M, j, B, DY, rP, h, az => by
  rw [fX]
  by_cases hj : j = i
  ·subst hj
   rw [Nat.sub_self] at h; cases h
   rw [pD σ r (j + 1) _ (σ j) fun a h1 h2 e => by have := DY a j (by omega) (by simp; omega) (Nat.le_refl _) (by simp) e; omega]
   rw [List.getElem?_set]; simp [az]
  ·refine uI σ r (i + 1) _ j B (fun a b h1 h2 h3 h4 => DY a b (by omega) (by simp; omega) (by omega) (by simp; omega)) (by omega) ?_ (by simpa using az)
   rw [show j - i = (j - (i + 1)) + 1 by omega] at h
   simpa using h
theorem aT.ym {P : Program} {f : FuncId} {vs : List V} {r : V} {mem aD : List aw} (h : aT P f vs mem r aD) (M : List aw) (σ : Nat → Nat) (n : Nat) (hn : n = mem.length) (hv : vs.all (ai n) = true) (hm : mem.all (aB n) = true) (hr : ai aD.length r = true)
  (F1 : aD.all (aB aD.length) = true) (hlen : n ≤ aD.length) (hσ : ∀ i B, mem[i]? = some B → M[σ i]? = some (cq σ B)) (DY : ∀ i j, i < n → j < n → σ i = σ j → i = j) (im : ∀ j, n ≤ j → σ j = M.length + (j - n)) :
  aT P f (cb σ vs) M (bo σ r) (mz σ n aD M) := by
 subst hn
 have hold : ∀ i, i < mem.length → σ i < M.length := fun i hi => (List.getElem?_eq_some_iff.1 (hσ i _ (List.getElem?_eq_getElem hi))).1
 have hL : (mz σ mem.length aD M).length = M.length + (aD.length - mem.length) := by
  unfold mz
  rw [List.length_append, ec, List.length_map, List.length_drop]
 have Jt : ∀ i B, aD[i]? = some B → (mz σ mem.length aD M)[σ i]? = some (cq σ B) := fun i B hi => by
  unfold mz
  rcases Nat.lt_or_ge i mem.length with az | cH
  ·rw [List.getElem?_append_left (by rw [ec]; exact hold i az)]
   refine uI σ _ 0 M i B (fun a b _ h2 _ h4 he => ?_) (Nat.zero_le _) (by rw [Nat.sub_zero, List.getElem?_take_of_lt az]; exact hi) (hold i az)
   rw [List.length_take] at h2 h4
   exact DY a b (by omega) (by omega) he
  ·rw [im i cH, List.getElem?_append_right (by rw [ec]; omega), ec, Nat.add_sub_cancel_left, List.getElem?_map, List.getElem?_drop, show mem.length + (i - mem.length) = i by omega, hi]; rfl
 have bL : ∀ k, k < M.length → (∀ i, i < mem.length → σ i ≠ k) → (mz σ mem.length aD M)[k]? = M[k]? := fun k hk h => by
  unfold mz
  rw [List.getElem?_append_left (by rw [ec]; exact hk)]
  exact pD σ _ 0 M k fun j _ h2 => h j (by rw [List.length_take] at h2; omega)
 generalize mz σ mem.length aD M = M' at hL Jt bL
 refine ⟨h.1, fun E w xs hs hx => ?_⟩
 have IP : ∀ k v, k < mem.length → (⟨E.F, fun k v => if k < mem.length then E.aK (σ k) v else none, E.gl⟩ : Env).aK k v = E.aK (σ k) v := fun k v hk => if_pos hk
 have Oc : ∀ k v, mem.length ≤ k → (⟨E.F, fun k v => if k < mem.length then E.aK (σ k) v else none, E.gl⟩ : Env).aK k v = none := fun k v hk => if_neg (by omega)
 have AE : (⟨E.F, fun k v => if k < mem.length then E.aK (σ k) v else none, E.gl⟩ : Env).F = E.F := rfl
 generalize (⟨E.F, fun k v => if k < mem.length then E.aK (σ k) v else none, E.gl⟩ : Env) = E0 at IP Oc AE
 have fS : ∀ k v t, E0.aK k v = some t → k < mem.length ∧ E.aK (σ k) v = some t := fun k v t h => by
  rcases Nat.lt_or_ge k mem.length with hk | hk
  ·exact ⟨hk, by rw [← IP k v hk]; exact h⟩
  ·rw [Oc k v hk] at h; cases h
 have E6 : aZ E0 w { tmps := #[], defers := [] } { fr := [], mem := mem } :=
  ⟨fun ad y hy => hs.F ad y (by rw [← AE]; exact hy), fun k v g e c hk => hs.lt _ _ _ _ _ (fS _ _ _ hk).2,
   fun k B hk => (hs.mem _ _ (hσ k B hk)).qy (List.getElem?_eq_some_iff.1 hk).1 (List.all_eq_true.1 hm B (List.mem_of_getElem? hk)) AE IP,
   fun k hk v => Oc k v hk, fun k B hk v hv => by
    rw [IP k v (List.getElem?_eq_some_iff.1 hk).1]
    exact hs.aA _ _ (hσ k B hk) v (by rw [sG]; exact hv),
   fun k k' v v' g e c e' c' h1 h2 => by
    obtain ⟨p1, p2⟩ := fS _ _ _ h1
    obtain ⟨q1, q2⟩ := fS _ _ _ h2
    exact DY k k' p1 q1 (hs.apart _ _ _ _ _ _ _ _ _ p2 q2), .nil _⟩
 have nY : aP E0 vs xs.toList := hx.qy hv (fun ad y hy => by rw [AE]; exact hy) fun k v t hk h => by rw [IP k v hk]; exact h
 refine (h.2 E0 w xs E6 nY).mono ?_
 rintro en w1 ⟨E1, x, rfl, dq, kR, tF⟩
 have GC : ∀ i v, i < mem.length → (⟨E1.F, fun K v => match (List.range mem.length).find? (fun i => σ i == K) with | some i => E1.aK i v | none => if K < M.length then E.aK K v else E1.aK (K - M.length + mem.length) v, E1.gl⟩ : Env).aK (σ i) v = E1.aK i v := fun i v hi => by
  show (match (List.range mem.length).find? (fun j => σ j == σ i) with | some i => E1.aK i v | none => _) = _
  have : (List.range mem.length).find? (fun j => σ j == σ i) = some i := by
   cases hf : (List.range mem.length).find? (fun j => σ j == σ i) with
   | none =>
    have := List.find?_eq_none.1 hf i (List.mem_range.2 hi)
    simp at this
   | some j =>
    have h1 := List.find?_some hf
    have h2 := List.mem_range.1 (List.mem_of_find?_eq_some hf)
    rw [DY j i h2 hi (by simpa using h1)]
  rw [this]
 have dV : ∀ K, (∀ i, i < mem.length → σ i ≠ K) → (List.range mem.length).find? (fun i => σ i == K) = none := fun K h => List.find?_eq_none.2 fun i hi => by
  have := h i (List.mem_range.1 hi)
  simpa using this
 have hB : ∀ K v, K < M.length → (∀ i, i < mem.length → σ i ≠ K) → (⟨E1.F, fun K v => match (List.range mem.length).find? (fun i => σ i == K) with | some i => E1.aK i v | none => if K < M.length then E.aK K v else E1.aK (K - M.length + mem.length) v, E1.gl⟩ : Env).aK K v = E.aK K v := fun K v hK h => by
  show (match (List.range mem.length).find? (fun j => σ j == K) with | some i => E1.aK i v | none => _) = _
  rw [dV K h]
  exact if_pos hK
 have I9 : ∀ i v, mem.length ≤ i → (⟨E1.F, fun K v => match (List.range mem.length).find? (fun i => σ i == K) with | some i => E1.aK i v | none => if K < M.length then E.aK K v else E1.aK (K - M.length + mem.length) v, E1.gl⟩ : Env).aK (σ i) v = E1.aK i v := fun i v hi => by
  show (match (List.range mem.length).find? (fun j => σ j == σ i) with | some i => E1.aK i v | none => _) = _
  have jn := im i hi
  rw [dV (σ i) fun j hj e => by have := hold j hj; omega]
  show (if σ i < M.length then E.aK (σ i) v else E1.aK (σ i - M.length + mem.length) v) = _
  rw [if_neg (by omega), jn, show M.length + (i - mem.length) - M.length + mem.length = i by omega]
 have AF : (⟨E1.F, fun K v => match (List.range mem.length).find? (fun i => σ i == K) with | some i => E1.aK i v | none => if K < M.length then E.aK K v else E1.aK (K - M.length + mem.length) v, E1.gl⟩ : Env).F = E1.F := rfl
 generalize (⟨E1.F, fun K v => match (List.range mem.length).find? (fun i => σ i == K) with | some i => E1.aK i v | none => if K < M.length then E.aK K v else E1.aK (K - M.length + mem.length) v, E1.gl⟩ : Env) = E2 at GC hB I9 AF
 have hA : ∀ i v, E2.aK (σ i) v = E1.aK i v := fun i v => by
  rcases Nat.lt_or_ge i mem.length with hi | hi
  ·exact GC i v hi
  ·exact I9 i v hi
 have cl : ∀ K, (∃ i, K = σ i) ∨ (K < M.length ∧ ∀ i, i < mem.length → σ i ≠ K) := fun K => by
  rcases Nat.lt_or_ge K M.length with hK | hK
  ·by_cases h : ∃ i, i < mem.length ∧ σ i = K
   ·obtain ⟨i, -, hi⟩ := h
    exact .inl ⟨i, hi.symm⟩
   ·exact .inr ⟨hK, fun i hi e => h ⟨i, hi, e⟩⟩
  ·exact .inl ⟨K - M.length + mem.length, by rw [im _ (by omega)]; omega⟩
 have rZ : ∀ K v g e c, (∀ i, i < mem.length → σ i ≠ K) → E.aK K v = some (g, e, c) → ∀ k0 v0 e0 c0, E0.aK k0 v0 ≠ some (g, e0, c0) := fun K v g e c hK hb k0 v0 e0 c0 h => by
  obtain ⟨h1, h2⟩ := fS _ _ _ h
  exact hK k0 h1 (hs.apart _ _ _ _ _ _ _ _ _ h2 hb)
 have hle : E.le E2 := ⟨fun ad y hy => by rw [AF]; exact dq.le.F _ _ (by rw [AE]; exact hy), fun K v t hk => by
  rcases cl K with ⟨i, rfl⟩ | ⟨hK, oH⟩
  ·rw [hA i v]
   rcases Nat.lt_or_ge i mem.length with hi | hi
   ·exact dq.le.aK _ _ _ (by rw [IP i v hi]; exact hk)
   ·rw [hs.top (σ i) (by rw [im i hi]; dsimp only; omega) v] at hk; cases hk
  ·rw [hB K v hK oH]; exact hk⟩
 refine ⟨E2, x, rfl, ⟨hle, fun K v g e c hk => ?_, fun ad y hy => ?_, dq.os, dq.tape, dq.output, dq.size, fun b hb bL => dq.heap b hb fun k v e c h => bL _ _ _ _ (fS _ _ _ h).2⟩,
  ⟨fun ad y hy => kR.F _ _ (by rw [← AF]; exact hy), fun K v g e c hk => ?_, fun K B hk => ?_, fun K hk v => ?_, fun K B hk v hv => ?_, fun K K' v v' g e1 c1 e2 c2 h5 h6 => ?_, .nil _⟩, tF.ym hr (fun ad y hy => by rw [AF]; exact hy) fun k v t _ hk => by rw [hA]; exact hk⟩
 ·rcases cl K with ⟨i, rfl⟩ | ⟨hK, oH⟩
  ·rw [hA i v] at hk
   rcases dq.aK _ _ _ _ _ hk with ⟨k0, v0, e0, c0, h⟩ | h
   ·exact .inl ⟨_, _, _, _, (fS _ _ _ h).2⟩
   ·exact .inr h
  ·rw [hB K v hK oH] at hk; exact .inl ⟨_, _, _, _, hk⟩
 ·rw [AF] at hy
  rcases dq.F _ _ hy with h | h | ⟨k0, v0, e0, c0, h⟩
  ·exact .inl (by rw [← AE]; exact h)
  ·exact .inr (.inl h)
  ·exact .inr (.inr ⟨_, _, _, _, (fS _ _ _ h).2⟩)
 ·rcases cl K with ⟨i, rfl⟩ | ⟨hK, oH⟩
  ·rw [hA i v] at hk; exact kR.lt _ _ _ _ _ hk
  ·rw [hB K v hK oH] at hk; exact Nat.lt_of_lt_of_le (hs.lt _ _ _ _ _ hk) dq.size
 ·rcases cl K with ⟨i, rfl⟩ | ⟨hK, oH⟩
  ·have hi : i < aD.length := by
    have h1 := (List.getElem?_eq_some_iff.1 hk).1
    rcases Nat.lt_or_ge i mem.length with h2 | h2
    ·omega
    ·have h3 := im i h2
     dsimp only at h1; omega
   have eP := Jt i _ (List.getElem?_eq_getElem hi)
   rw [hk] at eP
   cases eP
   exact (kR.mem i _ (List.getElem?_eq_getElem hi)).ym hi (List.all_eq_true.1 F1 _ (List.getElem_mem hi)) AF (fun k v _ => hA k v) rfl
  ·dsimp only at hk
   rw [bL K hK oH] at hk
   refine (hs.mem K B hk).mono hle (fun v hv => by rw [hB K v hK oH]; exact hv) (fun g e c hb => dq.heap g (hs.lt _ _ _ _ _ hb) fun k0 v0 e0 c0 h => rZ _ _ _ _ _ oH hb _ _ _ _ h) fun g e c o hb hn => ?_
   rw [AF]
   cases hy : E1.F ⟨g, o, none⟩ with
   | none => rfl
   | some y =>
    rcases dq.F _ _ hy with h | h | ⟨k0, v0, e0, c0, h⟩
    ·rw [AE, hn] at h; cases h
    ·have := hs.lt _ _ _ _ _ hb; simp at h; omega
    ·exact absurd h (rZ _ _ _ _ _ oH hb _ _ _ _)
 ·rcases cl K with ⟨i, rfl⟩ | ⟨hK, oH⟩
  ·rw [hA i v]
   refine kR.top i ?_ v
   dsimp only at hk ⊢
   rcases Nat.lt_or_ge i mem.length with h2 | h2
   ·have := hold i h2; omega
   ·have h3 := im i h2; omega
  ·dsimp only at hk; omega
 ·rcases cl K with ⟨i, rfl⟩ | ⟨hK, oH⟩
  ·rw [hA i v]
   have hi : i < aD.length := by
    have h1 := (List.getElem?_eq_some_iff.1 hk).1
    rcases Nat.lt_or_ge i mem.length with h2 | h2
    ·omega
    ·have h3 := im i h2
     dsimp only at h1; omega
   have eP := Jt i _ (List.getElem?_eq_getElem hi)
   rw [hk] at eP
   cases eP
   rw [sG] at hv
   exact kR.aA i _ (List.getElem?_eq_getElem hi) v hv
  ·rw [hB K v hK oH]
   dsimp only at hk
   rw [bL K hK oH] at hk
   exact hs.aA K B hk v hv
 ·have mixed : ∀ i K' v v' g e1 c1 e2 c2, (∀ i, i < mem.length → σ i ≠ K') → E1.aK i v = some (g, e1, c1) → E.aK K' v' = some (g, e2, c2) → False := fun i K' v v' g e1 c1 e2 c2 TZ h h' => by
   rcases dq.aK _ _ _ _ _ h with ⟨k0, v0, e0, c0, h0⟩ | h0
   ·exact absurd h0 (rZ _ _ _ _ _ TZ h' _ _ _ _)
   ·have := hs.lt _ _ _ _ _ h'; omega
  rcases cl K with ⟨i, rfl⟩ | ⟨hK, Od⟩ <;> rcases cl K' with ⟨j, rfl⟩ | ⟨TZ, AH⟩
  ·rw [hA] at h5 h6
   rw [kR.apart _ _ _ _ _ _ _ _ _ h5 h6]
  ·rw [hA] at h5; rw [hB K' _ TZ AH] at h6
   exact (mixed _ _ _ _ _ _ _ _ _ AH h5 h6).elim
  ·rw [hB K _ hK Od] at h5; rw [hA] at h6
   exact (mixed _ _ _ _ _ _ _ _ _ Od h6 h5).elim
  ·rw [hB K _ hK Od] at h5; rw [hB K' _ TZ AH] at h6
   exact hs.apart _ _ _ _ _ _ _ _ _ h5 h6
theorem DZ (σ : Nat → Nat) : ∀ {v : V}, ai 0 v = true → bo σ v = v := fun {v} => by
 exact V.rec (motive_1 := fun v => ai 0 v = true → bo σ v = v) (motive_2 := fun l => dk 0 l = true → cb σ l = l)
  (fun _ => rfl) (fun _ _ => rfl) (fun cs ih h => by rw [bo, ih (by simpa [ai] using h)]) (fun _ _ _ => rfl) (fun b v s l h => by simp [ai] at h) (fun b o h => by simp [ai] at h)
  (fun b v i o h => by simp [ai] at h) (fun _ _ _ => rfl) (fun f a c i1 i2 h => by simp only [ai,Bool.and_eq_true] at h; rw [bo, i1 h.1, i2 h.2]) (fun vs ih h => by rw [bo, ih (by simpa [ai] using h)])
  (fun b h => by simp [ai] at h) (fun b h => by simp [ai] at h) (fun _ => rfl) (fun _ _ _ => rfl) (fun _ => rfl) (fun c r i1 i2 h => by simp only [dk,Bool.and_eq_true] at h; rw [cb, i1 h.1, i2 h.2]) v
end Go.Eng
end

section
namespace Go.Eng
variable [aE]
def swp (A B k : Nat) : Nat := if k = A then B else if k = B then A else k
theorem rl (A B k : Nat) : swp A B (swp A B k) = k := by
 unfold swp
 by_cases h1 : k = A
 ·subst h1
  by_cases h2 : B = k
  ·simp [h2]
  ·simp [h2]
 ·by_cases h2 : k = B
  ·subst h2; simp [h1]
  ·simp [h1, h2]
def qz (A B : Nat) (mem : List aw) : List aw := ((mem.set A (mem.getD B .dead)).set B (mem.getD A .dead)).map (cq (swp A B))
section
variable {P : Program} {ρ : Option Nat} {n0 : Nat} {c : Code} {st : St} {Q : Exit → St → Prop}
theorem wg (A B : Nat) (mem : List aw) : (qz A B mem).length = mem.length := by simp [qz]
theorem uJ {A B : Nat} {mem : List aw} (hA : A < mem.length) (hB : B < mem.length) (k : Nat) : (qz A B mem)[k]? = (mem[swp A B k]?).map (cq (swp A B)) := by
 unfold qz
 rw [List.getElem?_map]
 congr 1
 rw [List.getElem?_set, List.getElem?_set, List.length_set]
 unfold swp
 by_cases h1 : B = k
 ·subst h1
  rw [if_pos rfl, if_pos hB]
  by_cases h2 : B = A
  ·subst h2; rw [if_pos rfl, List.getD_eq_getElem?_getD, List.getElem?_eq_getElem hB]; rfl
  ·rw [if_neg h2, if_pos rfl, List.getD_eq_getElem?_getD, List.getElem?_eq_getElem hA]; rfl
 ·rw [if_neg h1]
  by_cases h2 : A = k
  ·subst h2; rw [if_pos rfl, if_pos hA, if_pos rfl, List.getD_eq_getElem?_getD, List.getElem?_eq_getElem hB]; rfl
  ·rw [if_neg h2, if_neg (fun e => h2 e.symm), if_neg (fun e => h1 e.symm)]
theorem yn (A B : Nat) (GC : n0 ≤ A) (uo : n0 ≤ B) (hA : A < st.mem.length) (hB : B < st.mem.length) (hf : st.fr.all (ai st.mem.length) = true) (hm : st.mem.all (aB st.mem.length) = true)
  (h : gx P ρ n0 c { fr := cb (swp A B) st.fr, mem := qz A B st.mem } Q) : gx P ρ n0 c st Q := fun E0 w0 IL E w a he hs fK => by
 obtain ⟨E', hE⟩ : ∃ E' : Env, E' = { F := E.F, aK := fun k v => E.aK (swp A B k) v, gl := E.gl } := ⟨_, rfl⟩
 have eF : E'.F = E.F := by rw [hE]
 have eb : ∀ k v, E'.aK k v = E.aK (swp A B k) v := fun k v => by rw [hE]
 have TE : ∀ k v, E'.aK (swp A B k) v = E.aK k v := fun k v => by rw [eb, rl]
 have az : ∀ k, k < st.mem.length → swp A B k < st.mem.length := fun k hk => by unfold swp; split <;> (try split) <;> assumption
 have cH : ∀ k, st.mem.length ≤ k → swp A B k = k := fun k hk => by unfold swp; rw [if_neg (by omega), if_neg (by omega)]
 have dq : dn E0 w0 E' w := by
  refine ⟨⟨fun ad x hx => by rw [eF]; exact he.le.F _ _ hx, fun k v t hk => ?_⟩, fun k v g e c hk => he.aK _ _ _ _ _ (by rw [← eb]; exact hk), fun ad x hx => he.F _ _ (by rw [← eF]; exact hx), he.os, he.tape, he.output, he.size, he.heap⟩
  rcases Nat.lt_or_ge k n0 with L0 | L0
  ·rw [eb, show swp A B k = k by unfold swp; rw [if_neg (by omega), if_neg (by omega)]]; exact he.le.aK _ _ _ hk
  ·rw [IL k L0] at hk; cases hk
 refine h E0 w0 IL E' w a dq ⟨fun ad x hx => hs.F _ _ (by rw [← eF]; exact hx), fun k v g e c hk => hs.lt _ _ _ _ _ (by rw [← eb]; exact hk), fun k Bk hk => ?_, fun k hk v => ?_, fun k Bk hk v hv => ?_, fun k k' v v' g e c e' c' q1 q2 => ?_, ?_⟩ ?_
 ·dsimp only at hk
  rw [uJ hA hB, Option.map_eq_some_iff] at hk
  obtain ⟨B0, GD, rfl⟩ := hk
  have h1 := (hs.mem _ _ GD).ym (σ := swp A B) (E2 := E') (w2 := w) (n := st.mem.length) (List.getElem?_eq_some_iff.1 GD).1 (List.all_eq_true.1 hm _ (List.mem_of_getElem? GD)) eF (fun k v _ => TE k v) rfl
  rwa [rl] at h1
 ·dsimp only at hk
  rw [wg] at hk
  rw [eb, cH k hk]
  exact hs.top k hk v
 ·dsimp only at hk
  rw [uJ hA hB, Option.map_eq_some_iff] at hk
  obtain ⟨B0, GD, rfl⟩ := hk
  rw [eb]
  rw [sG] at hv
  exact hs.aA _ _ GD v hv
 ·rw [eb] at q1 q2
  have := hs.apart _ _ _ _ _ _ _ _ _ q1 q2
  rw [← rl A B k, this, rl]
 ·exact hs.fr.ym hf (fun ad y hy => by rw [eF]; exact hy) fun k v t _ hk => by rw [TE]; exact hk
 ·obtain ⟨rs, h1, h2, h3⟩ := fK
  exact ⟨rs, h1, h2, fun r hr => ⟨(h3 r hr).1, (h3 r hr).2.1, fun k v e c hk => (h3 r hr).2.2 _ _ _ _ (by rw [← eb]; exact hk)⟩⟩
theorem JX (A B : Nat) (GC : n0 ≤ A) (uo : n0 ≤ B) (hA : A < st.mem.length) (hB : B < st.mem.length) (hf : st.fr.all (ai st.mem.length) = true) (hm : st.mem.all (aB st.mem.length) = true)
  (h : Ex P ρ n0 c { fr := cb (swp A B) st.fr, mem := qz A B st.mem } Q) : Ex P ρ n0 c st Q := by
 obtain ⟨e, s2, hq, h2⟩ := h
 exact ⟨e, s2, hq, fun Q' h' => yn A B GC uo hA hB hf hm (h2 Q' h')⟩
def sH (bm : List (Value × Nat × V)) (vs : List V) : List (Value × Nat × V) := List.zipWith (fun e v => (e.1, e.2.1, v)) bm vs
theorem sI (mem : List aw) (keys : List (Nat × Nat)) (k : Nat) {bm : List (Value × Nat × V)} {cl : Nat} (h : mem[k]? = some (.map bm cl)) : (bT mem keys)[k]? = some (.map bm cl) := by
 unfold bT
 induction keys generalizing mem with
 | nil => exact h
 | cons q r ih =>
  rw [List.foldl_cons]
  refine ih _ ?_
  rw [xC, h]; rfl
theorem aZ.Oe {E : Env} {w : World} {a : Act} (hs : aZ E w a st) {k : Nat} {bm : List (Value × Nat × V)} {cl : Nat} {vs' : List V} (hk : st.mem[k]? = some (.map bm cl)) (hp : cy st.mem (bm.map fun e => e.2.2) = some vs') :
  ∃ E', aZ E' w a { st with mem := (bT st.mem ((bm.map fun e => e.2.2).flatMap cp)).set k (.map (sH bm vs') cl) } ∧ dn E w E' w := by
 obtain ⟨E', h1, h2, h3⟩ := hs.freeze hp
 refine ⟨E', ⟨h1.F, h1.lt, fun k' B hB => ?_, fun k' eP => h1.top k' (by simpa using eP), fun k' B hB v hv => ?_, h1.apart, h1.fr⟩, h2⟩
 ·dsimp only at hB
  rw [List.getElem?_set] at hB
  split at hB
  ·rename_i he; subst he
   split at hB
   ·cases hB
    obtain ⟨g, es, q1, q2, q3, q4⟩ := hs.mem k _ hk
    obtain ⟨g', es', p1, p2, p3, p4⟩ := h1.mem k _ (sI _ _ _ hk)
    rw [h2.le.aK _ _ _ q1] at p1
    cases p1
    rw [q2] at p2
    cases p2
    refine ⟨g, es, h2.le.aK _ _ _ q1, q2, ?_, p4⟩
    have hR : aP E (bm.map fun e => e.2.2) (es.toList.map fun e => e.val) := by
     refine ⟨by simpa using q3.1, fun i v x hv hx => ?_⟩
     rw [List.getElem?_map, Option.map_eq_some_iff] at hv hx
     obtain ⟨e1, YL, rfl⟩ := hv
     obtain ⟨e2, T0, rfl⟩ := hx
     exact (q3.2 i _ _ YL T0).2.2
    have Xj := h3 _ hR
    have hl : vs'.length = bm.length := by have h5 := Xj.1; have h6 := hR.1; simp only [List.length_map] at h5 h6; omega
    refine ⟨by unfold sH; rw [List.length_zipWith, hl, Nat.min_self]; exact q3.1, fun i kb e dD he => ?_⟩
    unfold sH at dD
    rw [List.getElem?_zipWith] at dD
    cases h7 : bm[i]? with
    | none => rw [h7] at dD; simp at dD
    | some e1 =>
     cases h8 : vs'[i]? with
     | none => rw [h7, h8] at dD; simp at dD
     | some v1 =>
      rw [h7, h8] at dD
      simp at dD
      subst dD
      obtain ⟨r1, r2, r3⟩ := q3.2 i _ _ h7 he
      exact ⟨r1, r2, Xj.2 i _ _ h8 (by rw [List.getElem?_map, he]; rfl)⟩
   ·cases hB
  ·exact h1.mem k' B hB
 ·dsimp only at hB
  rw [List.getElem?_set] at hB
  split at hB
  ·rename_i he; subst he
   split at hB
   ·cases hB
    exact h1.aA k _ (sI _ _ _ hk) v hv
   ·cases hB
  ·exact h1.aA k' B hB v hv
end
end Go.Eng
end

section
namespace Go.Eng
variable [aE]
theorem AI (mem : List aw) (keys : List (Nat × Nat)) (k : Nat) {cs : List V} (h : mem[k]? = some (.box cs)) : (bT mem keys)[k]? = some (.box cs) := by
 rw [jV, h]
 have : ∀ (ks : List (Nat × Nat)), iQ ks k (some (.box cs)) = some (.box cs) := fun ks => by
  unfold iQ; rfl
 exact this keys
section
variable {P : Program} {ρ : Option Nat} {n0 : Nat} {Q : Exit → St → Prop} {c : Code} {st : St}
theorem aZ.GF {E : Env} {w : World} {a : Act} (hs : aZ E w a st) {k : Nat} {cs vs' : List V} (hk : st.mem[k]? = some (.box cs)) (hp : cy st.mem cs = some vs') :
  ∃ E', aZ E' w a { st with mem := (bT st.mem (cs.flatMap cp)).set k (.box vs') } ∧ dn E w E' w := by
 obtain ⟨E', h1, h2, h3⟩ := hs.freeze hp
 have hb := AI st.mem (cs.flatMap cp) k hk
 refine ⟨E', ⟨h1.F, h1.lt, fun k' B hB => ?_, fun k' eP => h1.top k' (by simpa using eP), fun k' B hB v hv => ?_, h1.apart, h1.fr⟩, h2⟩
 ·dsimp only at hB
  rw [List.getElem?_set] at hB
  split at hB
  ·rename_i he; subst he
   split at hB
   ·cases hB
    obtain ⟨g, T, xs, q1, q2, q3, q4⟩ := hs.mem k _ hk
    obtain ⟨g', T', nS, p1, p2, p3, p4⟩ := h1.mem k _ hb
    rw [h2.le.aK _ _ _ q1] at p1
    cases p1
    rw [q2] at p2
    cases p2
    exact ⟨g, T, xs, h2.le.aK _ _ _ q1, q2, h3 _ q3, p4⟩
   ·cases hB
  ·exact h1.mem k' B hB
 ·dsimp only at hB
  rw [List.getElem?_set] at hB
  split at hB
  ·rename_i he; subst he
   split at hB
   ·cases hB
    exact h1.aA k _ hb v hv
   ·cases hB
  ·exact h1.aA k' B hB v hv
end
end Go.Eng
end

section
namespace Go.Eng
variable [aE]
section
variable {k_ : Tk} {m : Bool} {P : Program} {ρ : Option Nat} {n0 : Nat} {st : St} {Q : Exit → St → Prop} {n : Nat} {ws : List (Nat × V)} {mem : List aw} {c : Code}
theorem Se {st' : St} (hw : ∀ E w a, aZ E w a st → ∃ E', aZ E' w a st' ∧ dn E w E' w) (h : X k_ m P ρ n0 c st' Q) : X k_ m P ρ n0 c st Q := by
 have key : ∀ Q' : Exit → St → Prop, gx P ρ n0 c st' Q' → gx P ρ n0 c st Q' := fun Q' h E0 w0 IL E w a he hs hm => by
  obtain ⟨E', h3, h4⟩ := hw E w a hs
  exact h E0 w0 IL E' w a (he.trans h4) h3 (hm.E5 h4)
 cases m
 ·obtain ⟨e, s2, hq, h2⟩ := h
  exact ⟨e, s2, hq, fun Q' h' => key Q' (h2 Q' h')⟩
 ·exact key Q h
theorem VM {t : Nat} {v : V} (hn : t < n) (h : lk t ws = v) : (W n ws)[t]? = some v := by rw [mQ, if_pos hn, h]
theorem D0 (t v e : Nat) (hn : t < n) (h0 : lk t ws = .sc (.slice none 0 0)) (h : X k_ m P ρ n0 c ⟨W n ((t, .ms mem.length v 0 0) :: ws), mem ++ [.rows v e []]⟩ Q) : X k_ m P ρ n0 c ⟨W n ws, mem⟩ Q := by
 rw [← Cm] at h
 exact sC (st' := ⟨(W n ws).set t (.ms mem.length v 0 0), mem ++ [.rows v e []]⟩) (fun E w a hs => (hs.xW (i := t) mem.length v (VM hn h0)).lq v e) h
theorem GG (v e : Nat) (h : X k_ m P ρ n0 c ⟨W n ws, mem ++ [.rows v e []]⟩ Q) : X k_ m P ρ n0 c ⟨W n ws, mem⟩ Q :=
 sC (st' := ⟨W n ws, mem ++ [.rows v e []]⟩) (fun E w a hs => hs.lq v e) h
theorem Cs {cs : List V} (k j v e : Nat) (hk : mem[k]? = some (.box cs)) (hj : cs[j]? = some (.sc (.slice none 0 0))) (h : X k_ m P ρ n0 c ⟨W n ws, mem.set k (.box (cs.set j (.ms mem.length v 0 0))) ++ [.rows v e []]⟩ Q) : X k_ m P ρ n0 c ⟨W n ws, mem⟩ Q :=
 sC (st' := ⟨W n ws, mem.set k (.box (cs.set j (.ms mem.length v 0 0))) ++ [.rows v e []]⟩) (fun E w a hs => (hs.NS hk hj mem.length v).lq v e) h
theorem pE {k : Nat} {cs vs' : List V} (hk : mem[k]? = some (.box cs)) (hp : cy mem cs = some vs') (h : X k_ m P ρ n0 c ⟨W n ws, (bT mem (cs.flatMap cp)).set k (.box vs')⟩ Q) : X k_ m P ρ n0 c ⟨W n ws, mem⟩ Q :=
 Se (fun _ _ _ hs => aZ.GF hs hk hp) h
theorem Ct {k : Nat} {bm : List (Value × Nat × V)} {cl : Nat} {vs' : List V} (hk : mem[k]? = some (.map bm cl)) (hp : cy mem (bm.map fun e => e.2.2) = some vs')
  (h : X k_ m P ρ n0 c ⟨W n ws, (bT mem ((bm.map fun e => e.2.2).flatMap cp)).set k (.map (sH bm vs') cl)⟩ Q) : X k_ m P ρ n0 c ⟨W n ws, mem⟩ Q := Se (fun _ _ _ hs => hs.Oe hk hp) h
theorem yp {t : Nat} {v : V} (h : lk t ws = v) : (W n ws).set t v = W n ws := by
 apply List.ext_getElem?
 intro i
 rw [List.getElem?_set, mQ, jy]
 by_cases e : t = i
 ·subst e
  rw [if_pos rfl]
  by_cases h2 : t < n
  ·rw [if_pos h2, if_pos h2, h]
  ·rw [if_neg h2, if_neg h2]
 ·rw [if_neg e]
theorem GH {f : Nat → Nat} (i : Nat) : ∀ ws : List (Nat × V), lk i (ws.map fun p => (p.1, bo f p.2)) = bo f (lk i ws)
 | [] => rfl
 | p :: r => by
  simp only [List.map_cons,lk]
  split
  ·rfl
  ·exact GH i r
theorem VN {f : Nat → Nat} : cb f (W n ws) = W n (ws.map fun p => (p.1, bo f p.2)) := by
 rw [cN]
 unfold W
 rw [List.map_map]
 exact List.map_congr_left fun i _ => (GH i ws).symm
theorem Me {v' : V} (t : Nat) (h0 : lk t ws = v') (h : X k_ m P ρ n0 c ⟨W n ((t, v') :: ws), mem⟩ Q) : X k_ m P ρ n0 c ⟨W n ws, mem⟩ Q := by
 rw [← Cm, yp h0] at h
 exact h
theorem Sf (A B : Nat) (GC : n0 ≤ A) (uo : n0 ≤ B) (hA : A < mem.length) (hB : B < mem.length) (hf : E7 mem.length ws = true) (hm : mem.all (aB mem.length) = true)
  (h : X k_ m P ρ n0 c ⟨W n (ws.map fun p => (p.1, bo (swp A B) p.2)), qz A B mem⟩ Q) : X k_ m P ρ n0 c ⟨W n ws, mem⟩ Q := by
 rw [← VN] at h
 cases m
 ·exact JX A B GC uo hA hB (Gq hf) hm h
 ·exact yn A B GC uo hA hB (Gq hf) hm h
end
end Go.Eng
end

section
namespace Go.Proofs.YtnfeacnbgbggfaaGreatDoor
open Go.Eng
attribute [go_sem] dx bD cT fJ St.eval St.put dF fy vp List.all_cons List.all_nil Bool.and_true Bool.true_and Bool.and_self Value.oneCell' if_true if_false bc List.length_cons List.length_nil Nat.lt_irrefl List.nil_append List.cons_append List.append_nil List.set_cons_zero List.set_cons_succ List.getD_cons_zero List.getD_cons_succ o6 dw iJ kX lZ List.map_nil List.map_cons Nat.zero_mul vg I2 fieldAt kC dv List.drop_zero List.drop_succ_cons List.take_succ_cons List.take_zero List.getElem?_cons_zero List.getElem?_cons_succ List.head?_cons Nat.zero_add Nat.add_zero Nat.zero_le Nat.le_refl true_and and_true and_self dr kY rowsOf cu Bool.false_eq_true qL Nd Nf Ng Nh Ni Nj Nk Nl Nn Np Nq Nr Fj Ji Jj Jk Jl Int.natCast_nonneg ik indexAt rH BO vl o4 Int.toNat_natCast V.cells xd rE MO bf Option.map_some Option.map_none Option.bind_some List.size_toArray List.getElem?_toArray beq_self_eq_true decide_true decide_false Bool.not_true Bool.not_false je la jW gF b8 jr I6 jT rowOf eJ ne_eq not_true_eq_false not_false_eq_true gG gC oh V.sc.injEq Value.bool.injEq ox List.flatMap_cons List.flatMap_nil cp ek Rr Rs Jv Jw Jx BN YC Xe YD YE U2 U3 RD U4 U5 U6 U7 U8 U9 Va Vb Vc Vd Ve Vf RF Vg Vh RG RH RJ RL List.toList_toArray List.append_eq Fs Ft zR LI kJ cU lh uy qj iP cy fi dg bU runM dI vP qP ef oq qQ isHole di xM aw.aA ng NT mQ Cm jy lk my bz bR pk zk fh bT rX List.foldl_cons List.foldl_nil sF ai dk aB NV NW NY NZ JQ v7 Vr Gv N7 zG eG Gw N9 Oa sj Gs R5 R6 R7 R8 R9 Vs Vt Vu Vv Vw Vx Vy Vz VB VE VG VH VI VJ Gy DV Gz DX DW tQ ix se xI LQ List.replicate List.take_length
attribute [go_sem ↓] AA DU N1 DT N0 NP NQ JT Cp
end Go.Proofs.YtnfeacnbgbggfaaGreatDoor
end

section
namespace Go.Eng
variable [aE]
open Go.RowKit (Below)
theorem aZ.below {E : Env} {w w' : World} {a : Act} {st : St} (hs : aZ E w a st) (hb : Below w.heap.size w w') : aZ E w' a st ∧ dn E w E w' := by
 refine ⟨⟨fun ad y hy => ?_, fun k v g e c h => Nat.lt_of_lt_of_le (hs.lt _ _ _ _ _ h) hb.size, fun k B hk => ?_, hs.top, hs.aA, hs.apart, hs.fr⟩,
  ⟨E.le_refl, fun k v g e c h => .inl ⟨k, v, e, c, h⟩, fun _ _ h => .inl h, hb.os, hb.tape, hb.output, hb.size, fun b az _ => hb.block b az⟩⟩
 ·rw [hb.cell (World.block_lt_of_cell? w ad (hs.F ad y hy))]; exact hs.F ad y hy
 ·exact (hs.mem k B hk).mono E.le_refl (fun _ h => h) (fun g e c h => hb.block _ (hs.lt _ _ _ _ _ h)) fun _ _ _ _ _ h => h
end Go.Eng
end

section
namespace Go.Eng
variable [aE]
theorem aZ.VO {E : Env} {w w' : World} {a : Act} {st : St} (hs : aZ E w a st) {b v e g c : Nat} {rs rs' : List V} {T : TypeId} {ys : Array Value} (hm : st.mem[b]? = some (.rows v e rs)) (hb : E.aK b v = some (g, e, c)) (hF : ∀ o, E.F ⟨g, o, none⟩ = none)
  (YM : w'.os = w.os) (Sg : w'.tape = w.tape) (VP : w'.output = w.output) (jL : w.heap.size ≤ w'.heap.size) (hh : w'.heap[g]? = some (.cells ys T (0, 0))) (rM : ∀ k, k < w.heap.size → k ≠ g → w'.heap[k]? = w.heap[k]?)
  (Of : ys.size = c * e) (Og : rs'.length ≤ c) (YN : fu E.pure e rs' (fun o => ys[o]?)) : aZ E w' a { st with mem := st.mem.set b (.rows v e rs') } ∧ dn E w E w' := by
 have az := (List.getElem?_eq_some_iff.1 hm).1
 have YO : ∀ ad x, E.F ad = some x → ad.block ≠ g := fun ad x h e => by
  have hc := hs.F ad x h
  obtain ⟨aK, off, spot⟩ := ad
  obtain rfl : aK = g := e
  have tE : spot = none := by
   unfold World.cell? at hc
   split at hc
   ·dsimp only at hc
    cases spot with
    | none => rfl
    | some s => simp at hc
   ·cases hc
  subst tE
  rw [hF] at h; cases h
 refine ⟨⟨fun ad x h => ?_, fun k v g e c h => Nat.lt_of_lt_of_le (hs.lt _ _ _ _ _ h) jL, fun k B hk => ?_, fun k hk => hs.top k (by simpa using hk), fun k B hk v hv => ?_, hs.apart, hs.fr⟩,
  ⟨E.le_refl, fun k v g e c h => .inl ⟨k, v, e, c, h⟩, fun _ _ h => .inl h, YM, Sg, VP, jL, fun k hk bL => rM k hk fun e => by subst e; exact bL _ _ _ _ hb⟩⟩
 ·have h1 := hs.F ad x h
  have h2 := World.block_lt_of_cell? w ad h1
  rw [← h1]
  unfold World.cell?
  rw [rM _ h2 (YO ad x h)]
 ·rw [List.getElem?_set] at hk
  split at hk
  ·rename_i he; subst he
   cases hk
   exact .inr ⟨g, T, ys, c, hb, hh, Of, Og, YN, hF⟩
  ·rename_i bL
   refine (hs.mem k B hk).mono E.le_refl (fun _ h => h) (fun g' e' c' h => rM g' (hs.lt _ _ _ _ _ h) fun e => ?_) fun _ _ _ _ _ h => h
   subst e
   exact bL (hs.apart _ _ _ _ _ _ _ _ _ hb h)
 ·rw [List.getElem?_set] at hk
  split at hk
  ·rename_i he; subst he
   cases hk
   exact hs.aA b _ hm v hv
  ·exact hs.aA k B hk v hv
theorem aQ.D1 {P : Program} {f : FuncId} {args : List V} {m : List aw} {b v : Nat} (h : aQ P f (.slice [] :: args) (.bP [])) (hp : ∀ E xs, aP E args xs → aP E.pure args xs) : aT P f (.ms b v 0 0 :: args) m (.sc (.tuple #[])) m := by
 refine ⟨h.1, fun E w xs hs hx => ?_⟩
 obtain ⟨x, ys, mZ, hr, uK⟩ := hx.of_cons
 have tF : aW E.pure (.slice []) x := by
  cases hr with
  | ms _ _ _ _ _ g e c a cap hb hl h0 hc => exact .slice _ [] a cap 0 ⟨0, 0, none⟩ (fun _ _ => undef) (fun h => absurd rfl h) (Nat.zero_le _) (fun i row h => by simp at h) (fun i row j c h => by simp at h) (fun i row j c h => by simp at h) (fun i row j c h => by simp at h)
  | dc => exact .slice _ [] none 0 0 ⟨0, 0, none⟩ (fun _ _ => undef) (fun h => absurd rfl h) (Nat.le_refl _) (fun i row h => by simp at h) (fun i row j c h => by simp at h) (fun i row j c h => by simp at h) (fun i row j c h => by simp at h)
 have EV : aP E.pure (.slice [] :: args) xs.toList := by rw [mZ]; exact aP.cons tF (hp E _ uK)
 refine (h.2 E.F E.gl w xs hs.F EV).mono ?_
 rintro e w' ⟨F', y, rfl, -, -, -, ⟨Jb, hy⟩, yq⟩
 have hy : y = .tuple #[] := by
  cases hy with
  | bP _ _ zs hl hh => exact congrArg Value.tuple (Array.eq_empty_of_size_eq_zero (xs := zs) (by simpa using hl.symm))
 obtain ⟨h1, h2⟩ := hs.below yq
 exact ⟨E, y, rfl, h2, h1, by rw [hy]; exact .sc _ _⟩
end Go.Eng
end
