/-
  THE ENGINE, TM: the walk without a settled outcome: calls of which only a relation is told, and append behind a block's beginning.
  THE ENGINE, VA: one operation, for both forms of walk (m = true: Tri, m = false: Ex); what is stuck keeps what follows out of sight.
  THE ENGINE, FZ: a slot whose rows nobody will write any more.
  THE ENGINE, VC: sparse frames; code carried out as far as the data settle it; both forms of walk (m = true: Tri, m = false: Ex).
  THE ENGINE, VD: what stands between the stretches of VC: loops, ways that meet, regions that draw, functions' beginnings and ends.
  THE ENGINE, RN: a contract at a small store holds at every store that has the small one's blocks under other keys.
  THE ENGINE, SW: two blocks of a call's own change keys; the values of a map are frozen.
  THE ENGINE, FC: the rows that a struct's cells name are frozen.
  THE ENGINE, VF: what may be made of a state without a step: rows frozen, nil slices taken for empty rows, keys changed.
  THE ENGINE, GS: the facts for carrying code out, in the library's own simp set.
  THE ENGINE, AD: a block that a call has made is taken into the store.
  THE ENGINE, OR: contracts that are proved already, as a table for the evaluator.
  THE ENGINE, CL: the rest of live rows is cleared.
-/
import Derived.Test.YtefbaladomfccaaGreatDoorE6
set_option linter.all false
section
namespace Go.Eng
variable [Glob]
section
variable {P : Program} {tt : Table} {ρ : Option Nat} {n0 : Nat} {st : St} {Q : Exit → St → Prop}
def callRel (P : Program) (f : FuncId) (vs : List V) (st : St) (dst : Option Tmp) (Q : St → Prop) : Prop :=
 ∃ R, FnOkR P f vs st.mem R ∧ ∀ v m', R v m' → Q ({ st with mem := m' }.put dst v)
def callTm (P : Program) (f : FuncId) (vs : List V) (st : St) (dst : Option Tmp) (Q : St → Prop) : Prop := callT P f vs st dst Q ∨ callRel P f vs st dst Q
def stepTm (P : Program) (tt : Table) (key : Nat) (o : Oper) (st : St) (Q : St → Prop) : Prop :=
 match o.op with
 | .call c => match c.callee with
  | .value f => match calleeOf (st.eval f) (c.args.toList.map st.eval) with
   | some (g, vs) => callTm P g vs st o.dst Q
   | none => False
  | .builtin .append => match c.args.toList.map st.eval with
   | [s, x] => match appendV tt st.mem c.argTypes.toList s x with
    | some (size, old, rows) => Q ({ st with mem := (appOut st.mem key size rows old).1 }.put o.dst (appOut st.mem key size rows old).2)
    | none => appSQ tt st c.argTypes.toList s x o.dst Q
   | _ => False
  | _ => stepD P tt key o st Q
 | _ => stepD P tt key o st Q
def runTm (P : Program) (tt : Table) (gl : List (Nat × Nat)) (all : Array Oper) : List Oper → St → (St → Prop) → Prop
 | [], st, Q => Q st
 | o :: r, st, Q => match wantedW gl all st.fr o with
  | some true => stepTm P tt st.mem.length o st fun st' => runTm P tt gl all r st' Q
  | some false => runTm P tt gl all r (st.put o.dst (.sc undef)) Q
  | none => False
theorem appSQ_mono {ts : List TypeId} {s x : V} {dst : Option Tmp} {A B : St → Prop} (h : appSQ tt st ts s x dst A) (hab : ∀ s, A s → B s) : appSQ tt st ts s x dst B := by
 unfold appSQ at h ⊢
 split at h
 ·exact fun o rs' h1 h2 => hab _ (h o rs' h1 h2)
 ·exact h
attribute [irreducible] runTm

end
end Go.Eng
end

section
namespace Go.Eng
variable [Glob]
inductive Tk where
 | a
 | b
def tk : Tk := .b
theorem nrfl {α : Type} {a b : α} (h : a = b) : a = b := h
theorem nprp {a b : Prop} (h : a = b) : a = b := h
def bq {α : Type} (_ : Tk) (o : Option α) (K : α → Prop) : Prop := match o with
 | some v => K v
 | none => False
theorem bq_def {α : Type} {k : Tk} {o : Option α} {K : α → Prop} : bq k o K = match o with | some v => K v | none => False := nprp rfl
theorem bq_iff {α : Type} {k : Tk} {o : Option α} {K : α → Prop} : bq k o K ↔ ∃ v, o = some v ∧ K v := by
 cases o with
 | none => exact ⟨fun h => h.elim, fun ⟨_, h, _⟩ => by cases h⟩
 | some v => exact ⟨fun h => ⟨v, rfl, h⟩, fun ⟨_, e, h⟩ => by cases e; exact h⟩
def nq {α : Type} (_ : Tk) (o : Option α) (A : α → Prop) (B : Prop) : Prop := match o with
 | some v => A v
 | none => B
theorem nq_def {α : Type} {k : Tk} {o : Option α} {A : α → Prop} {B : Prop} : nq k o A B = match o with | some v => A v | none => B := nprp rfl
theorem nq_some {α : Type} {k : Tk} {v : α} {A : α → Prop} {B : Prop} : nq k (some v) A B = A v := rfl
theorem nq_none {α : Type} {k : Tk} {A : α → Prop} {B : Prop} : nq k none A B = B := rfl
section
variable {m : Bool} {P : Program} {tt : Table} {st : St} {Q : St → Prop}
def callV (_ : Tk) (m : Bool) (P : Program) (f : FuncId) (vs : List V) (o : Option (List V)) (keys : List (Nat × Nat)) (st : St) (dst : Option Tmp) (Q : St → Prop) : Prop :=
 (∃ vs' r, o = some vs' ∧ FnOk P f vs' r ∧ Q ({ st with mem := memAfter st.mem keys r }.put dst r)) ∨
 (∃ r mem', FnOkS P f vs st.mem r mem' ∧ Q ({ st with mem := mem' }.put dst r)) ∨
 (m = true ∧ ∃ R, FnOkR P f vs st.mem R ∧ ∀ r mem', R r mem' → Q ({ st with mem := mem' }.put dst r)) ∨
 (∃ r, NatOk P f vs r ∧ Q (st.put dst r))
def yldV (_ : Tk) (m : Bool) (P : Program) (k : Nat) (vs : List V) (st : St) (dst : Option Tmp) (Q : St → Prop) : Prop :=
 (∃ b mem', YOk P k vs st.mem b mem' ∧ Q ({ st with mem := mem' }.put dst (.sc (.bool b)))) ∨
 (m = true ∧ ∃ R, YOkR P k vs st.mem R ∧ ∀ b mem', R b mem' → Q ({ st with mem := mem' }.put dst (.sc (.bool b))))
def apV (_ : Tk) (m : Bool) (r : Option (Nat × Nat × Nat × Nat × List V × List V)) (st : St) (dst : Option Tmp) (Q : St → Prop) : Prop := m = true ∧ match r with
 | some (size, b, v, l, rs, xs) => ∀ (o : Nat) (rs' : List V), rs'.drop o = rs ++ xs → o + (l + xs.length) = rs'.length → Q ({ st with mem := st.mem.set b (.rows (v + 1) size rs') }.put dst (.ms b (v + 1) o (l + xs.length)))
 | none => False
def nxV (_ : Tk) (m : Bool) (st : St) (dst : Option Tmp) (it : V) (str : Bool) (Q : St → Prop) : Prop := m = true ∧ nextQ st dst it str Q
def niV (_ : Tk) (m : Bool) (n : Nat) (op : BinOp) (st : St) (dst : Option Tmp) (Q : St → Prop) : Prop :=
 m = true ∧ ∀ b : Bool, (n ≠ 0 → b = false) → Q (st.put dst (.sc (.bool (nilAns op b))))
def litX (tt : Table) (T : TypeId) (len : Nat) (parts : List (Nat × Operand)) (st : St) (key : Nat) : Option (List Blk) :=
 match litV tt T len parts st.eval with
 | some (size, rs) => some (setMem st.mem key (.rows 0 size rs))
 | none => match litP tt T len parts st with
  | some (size, rs) => some (setMem (frzAll st.mem (keysOf st.eval parts)) key (.rows 0 size rs))
  | none => none
def storeX (tt : Table) (mem : List Blk) (T : TypeId) (p x : V) : Option (List Blk) :=
 match storeV tt mem T p x with
 | some m => some m
 | none => storeP tt mem T p x
def stepV (m : Bool) (P : Program) (tt : Table) (key : Nat) (o : Oper) (st : St) (Q : St → Prop) : Prop :=
 match o.op with
 | .alloc T => bq tk (tt T) fun i => Q ({ st with mem := setMem st.mem key (.box (i.zero.map V.sc)) }.put o.dst (.ptr key 0))
 | .box _ x => bq tk (cellsV (st.eval x)) fun cs => Q ({ st with mem := setMem st.mem key (.box cs) }.put o.dst (.ptr key 0))
 | .build T parts => bq tk (buildV P tt T parts.toList st.eval) fun v => Q (st.put o.dst v)
 | .buildSlice T len parts => bq tk (litX tt T len parts.toList st key) fun mem => Q ({ st with mem := mem }.put o.dst (.ms key 0 0 len))
 | .store T p x => bq tk (storeX tt st.mem T (st.eval p) (st.eval x)) fun mem => Q ({ st with mem := mem }.put o.dst (.sc undef))
 | .call { callee := .builtin .append, args := xs, argTypes := ts } => match xs.toList.map st.eval with
  | [s, x] => nq tk (appendV tt st.mem ts.toList s x) (fun p => Q ({ st with mem := (appOut st.mem key p.1 p.2.2 p.2.1).1 }.put o.dst (appOut st.mem key p.1 p.2.2 p.2.1).2)) (apV tk m (appendS tt st.mem ts.toList s x) st o.dst Q)
  | _ => False
 | .call { callee := .value f, args := xs, .. } => match st.eval f with
  | .yld k => yldV tk m P k (xs.toList.map st.eval) st o.dst Q
  | fv => bq tk (calleeOf fv (xs.toList.map st.eval)) fun p => callV tk m P p.1 p.2 (purL st.mem p.2) (p.2.flatMap ref1) st o.dst Q
 | .makeSlice T l c => bq tk (makeV tt T (st.eval l) (st.eval c)) fun p => Q ({ st with mem := setMem st.mem key (.rows 0 p.1 p.2.1) }.put o.dst (.ms key 0 0 p.2.1.length))
 | .makeMap _ none => Q ({ st with mem := setMem st.mem key (.map [] 0) }.put o.dst (.mp key))
 | .mapUpdate T d k x => bq tk (insertV P st.mem T (st.eval d) (st.eval k) (st.eval x)) fun mem => Q ({ st with mem := mem }.put o.dst (.sc undef))
 | .insert T d k x => bq tk (insertV P st.mem T (st.eval d) (st.eval k) (st.eval x)) fun mem => Q ({ st with mem := mem }.put o.dst (.sc undef))
 | .mapEntry T d k => bq tk (entryV P st.mem T (st.eval d) (st.eval k)) fun p => Q ({ st with mem := p.1 }.put o.dst p.2)
 | .entryStore _ d s x => bq tk (stampV st.mem (st.eval d) (st.eval s) (st.eval x)) fun mem => Q ({ st with mem := mem }.put o.dst (.sc undef))
 | .call { callee := .builtin .delete, args := xs, argTypes := ts } => bq tk (deleteV P st.mem ts (xs.toList.map st.eval)) fun mem => Q ({ st with mem := mem }.put o.dst (.sc (.tuple #[])))
 | .range T x => bq tk (rangeBlk P st.mem T (st.eval x)) fun B => Q ({ st with mem := setMem st.mem key B }.put o.dst (.ptr key 0))
 | .next it str => nxV tk m st o.dst (st.eval it) str Q
 | .binOp op T x y _ => nq tk (nilLen tt op T (st.eval x) (st.eval y)) (fun n => niV tk m n op st o.dst Q) (bq tk (opV P tt st o) fun v => Q (st.put o.dst v))
 | _ => bq tk (opV P tt st o) fun v => Q (st.put o.dst v)
theorem bq_mono {α : Type} {k : Tk} {o : Option α} {A B : α → Prop} (h : bq k o A) (hab : ∀ v, A v → B v) : bq k o B := by
 cases o with
 | none => exact h
 | some v => exact hab v h
theorem nextQ_mono {dst : Option Tmp} {it : V} {str : Bool} {A B : St → Prop} (h : nextQ st dst it str A) (hab : ∀ s, A s → B s) : nextQ st dst it str B := by
 unfold nextQ at h ⊢
 split at h
 ·split at h
  ·split at h
   ·exact ⟨h.1, h.2.1, fun e => hab _ (h.2.2.1 e), fun e he => hab _ (h.2.2.2 e he)⟩
   ·exact h
  ·refine ⟨h.1, ?_⟩
   have := h.2
   split at this
   ·rename_i hp; rw [if_pos hp]; exact hab _ this
   ·rename_i hp; rw [if_neg hp]; exact hab _ this
  ·exact ⟨h.1, hab _ h.2⟩
  ·exact h
 ·exact h
theorem stepV_mono {key : Nat} {o : Oper} {A B : St → Prop} (h : stepV m P tt key o st A) (hab : ∀ s, A s → B s) : stepV m P tt key o st B := by
 have app : ∀ {ts : List TypeId} {s x : V}, nq tk (appendV tt st.mem ts s x) (fun p => A ({ st with mem := (appOut st.mem key p.1 p.2.2 p.2.1).1 }.put o.dst (appOut st.mem key p.1 p.2.2 p.2.1).2)) (apV tk m (appendS tt st.mem ts s x) st o.dst A) →
   nq tk (appendV tt st.mem ts s x) (fun p => B ({ st with mem := (appOut st.mem key p.1 p.2.2 p.2.1).1 }.put o.dst (appOut st.mem key p.1 p.2.2 p.2.1).2)) (apV tk m (appendS tt st.mem ts s x) st o.dst B) := fun {ts s x} h => by
  cases ha : appendV tt st.mem ts s x with
  | some p => rw [ha, nq_some] at h; exact hab _ h
  | none => rw [ha, nq_none] at h; exact ⟨h.1, appSQ_mono (show appSQ tt st ts s x o.dst A from h.2) hab⟩
 have cv : ∀ {f : FuncId} {vs : List V} {p : Option (List V)} {keys : List (Nat × Nat)}, callV tk m P f vs p keys st o.dst A → callV tk m P f vs p keys st o.dst B := fun h => by
  rcases h with ⟨vs', r, h1, h2, h3⟩ | ⟨r, m', h1, h2⟩ | ⟨hm, R, h1, h2⟩ | ⟨r, h1, h2⟩
  ·exact .inl ⟨vs', r, h1, h2, hab _ h3⟩
  ·exact .inr (.inl ⟨r, m', h1, hab _ h2⟩)
  ·exact .inr (.inr (.inl ⟨hm, R, h1, fun r m' h => hab _ (h2 r m' h)⟩))
  ·exact .inr (.inr (.inr ⟨r, h1, hab _ h2⟩))
 obtain ⟨dst, op, type, pos, after, guard⟩ := o
 cases op
 case call c =>
  obtain ⟨callee, args, ats⟩ := c
  cases callee
  case value f =>
   simp only [stepV] at h ⊢
   split at h
   ·rcases h with ⟨b, m', h1, h2⟩ | ⟨hm, R, h1, h2⟩
    ·exact .inl ⟨b, m', h1, hab _ h2⟩
    ·exact .inr ⟨hm, R, h1, fun b m' h => hab _ (h2 b m' h)⟩
   ·exact bq_mono h fun v hv => cv hv
  case builtin b =>
   cases b
   case append =>
    simp only [stepV] at h ⊢
    split at h
    ·exact app h
    ·exact h
   all_goals (simp only [stepV] at h ⊢; exact bq_mono h fun v hv => hab _ hv)
  all_goals (simp only [stepV] at h ⊢; exact bq_mono h fun v hv => hab _ hv)
 case makeMap T l =>
  cases l with
  | none => exact hab _ h
  | some l => simp only [stepV] at h ⊢; exact bq_mono h fun v hv => hab _ hv
 case next it str => exact ⟨h.1, nextQ_mono h.2 hab⟩
 case binOp op T x y yt =>
  simp only [stepV] at h ⊢
  cases hn : nilLen tt op T (st.eval x) (st.eval y) with
  | some n =>
   rw [hn, nq_some] at h
   exact ⟨h.1, fun b hb => hab _ (h.2 b hb)⟩
  | none => rw [hn, nq_none] at h; exact bq_mono h fun v hv => hab _ hv
 all_goals (simp only [stepV] at h ⊢; exact bq_mono h fun v hv => hab _ hv)
def StepS (m : Bool) (P : Program) (tt : Table) (key : Nat) (o : Oper) (st : St) (Q : St → Prop) : Prop := match m with
 | true => stepOp P tt key o st Q
 | false => ∃ s, Q s ∧ ∀ K : St → Prop, K s → stepOp P tt key o st K
theorem stepS_det {key : Nat} {o : Oper} (s : St) (h : Q s) (hk : ∀ K : St → Prop, K s → stepOp P tt key o st K) : StepS m P tt key o st Q := by
 cases m
 ·exact ⟨s, h, hk⟩
 ·exact hk Q h
theorem callP_of {f : FuncId} {vs : List V} {dst : Option Tmp} {k : Tk} (h : callV k m P f vs (purL st.mem vs) (vs.flatMap ref1) st dst Q) : (m = true ∧ callP P f vs st dst Q) ∨ ∃ s, Q s ∧ ∀ K : St → Prop, K s → callP P f vs st dst K := by
 rcases h with ⟨vs', r, h1, h2, h3⟩ | ⟨r, m', h1, h2⟩ | ⟨hm, R, h1, h2⟩ | ⟨r, h1, h2⟩
 ·exact .inr ⟨_, h3, fun K hK => .inl ⟨vs', r, h1, h2, hK⟩⟩
 ·exact .inr ⟨_, h2, fun K hK => .inr (.inl ⟨r, m', h1, hK⟩)⟩
 ·exact .inl ⟨hm, .inr (.inr (.inl ⟨R, h1, h2⟩))⟩
 ·exact .inr ⟨_, h2, fun K hK => .inr (.inr (.inr ⟨r, h1, hK⟩))⟩
theorem stepV_op {key : Nat} {o : Oper} (h : stepV m P tt key o st Q) : StepS m P tt key o st Q := by
 unfold stepV at h
 split at h
 all_goals try (rename_i hop; simp only [bq_iff] at h; obtain ⟨v, h1, h2⟩ := h; refine stepS_det _ h2 fun K hK => ?_; unfold stepOp; rw [hop]; dsimp only; rw [h1]; exact hK)
 ·rename_i hop
  simp only [bq_iff] at h
  obtain ⟨mem, h1, h2⟩ := h
  refine stepS_det _ h2 fun K hK => ?_
  unfold stepOp; rw [hop]; dsimp only
  unfold litX at h1
  split at h1
  ·rename_i hl; cases h1; rw [hl]; exact hK
  ·rename_i hl
   rw [hl]
   split at h1
   ·rename_i hl; cases h1; dsimp only; rw [hl]; exact hK
   ·cases h1
 ·rename_i hop
  simp only [bq_iff] at h
  obtain ⟨mem, h1, h2⟩ := h
  refine stepS_det _ h2 fun K hK => ?_
  unfold stepOp; rw [hop]; dsimp only
  unfold storeX at h1
  split at h1
  ·rename_i hl; cases h1; rw [hl]; exact hK
  ·rename_i hl; rw [hl]; dsimp only; rw [h1]; exact hK
 ·rename_i hop
  split at h
  ·rename_i s x hsx
   cases ha : appendV tt st.mem _ s x with
   | some p =>
    rw [ha, nq_some] at h
    refine stepS_det _ h fun K hK => ?_
    unfold stepOp; rw [hop]; dsimp only; rw [hsx]; dsimp only; rw [ha]; exact hK
   | none =>
    rw [ha, nq_none] at h
    obtain ⟨rfl, h⟩ := h
    show stepOp P tt key o st Q
    unfold stepOp; rw [hop]; dsimp only; rw [hsx]; dsimp only; rw [ha]; exact h
  ·exact h.elim
 ·rename_i hop
  split at h
  ·rename_i k hk
   rcases h with ⟨b, m', h1, h2⟩ | ⟨rfl, R, h1, h2⟩
   ·refine stepS_det _ h2 fun K hK => ?_
    unfold stepOp; rw [hop]; dsimp only; rw [hk]; exact .inl ⟨b, m', h1, hK⟩
   ·show stepOp P tt key o st Q
    unfold stepOp; rw [hop]; dsimp only; rw [hk]; exact .inr ⟨R, h1, h2⟩
  ·rename_i hk
   simp only [bq_iff] at h
   obtain ⟨⟨g, vs⟩, h1, h2⟩ := h
   have key2 : ∀ K : St → Prop, callP P g vs st o.dst K → stepOp P tt key o st K := fun K hK => by
    unfold stepOp; rw [hop]; dsimp only
    split
    ·rename_i k hy; exact (hk k hy).elim
    ·rw [h1]; exact hK
   rcases callP_of h2 with ⟨rfl, h3⟩ | ⟨s, h3, h4⟩
   ·exact key2 Q h3
   ·exact stepS_det s h3 fun K hK => key2 K (h4 K hK)
 ·rename_i hop
  exact stepS_det _ h fun K hK => by unfold stepOp; rw [hop]; exact hK
 ·rename_i hop
  obtain ⟨rfl, h⟩ := h
  show stepOp P tt key o st Q
  unfold stepOp; rw [hop]; exact h
 ·rename_i op T x y yt hop
  cases hn : nilLen tt op T (st.eval x) (st.eval y) with
  | some n =>
   rw [hn, nq_some] at h
   obtain ⟨rfl, h⟩ := h
   show stepOp P tt key o st Q
   unfold stepOp; rw [hop]; dsimp only; rw [hn]; exact h
  | none =>
   rw [hn, nq_none, bq_iff] at h
   obtain ⟨v, h1, h2⟩ := h
   exact stepS_det _ h2 fun K hK => by unfold stepOp; rw [hop]; dsimp only; rw [hn]; dsimp only; rw [h1]; exact hK
 ·rw [bq_iff] at h
  obtain ⟨v, h1, h2⟩ := h
  refine stepS_det _ h2 fun K hK => ?_
  unfold stepOp
  split
  all_goals first
   | (rw [h1]; exact hK)
   | (exfalso; solve_by_elim)
end
end Go.Eng
end

section
namespace Go.Eng
variable [Glob]
section
variable {P : Program} {ρ : Option Nat} {n0 : Nat} {c : Code} {st : St} {Q : Exit → St → Prop}
theorem tri_frz {v v' : V} (t : Nat) (h0 : st.fr[t]? = some v) (hp : pur1 st.mem v = some v') (h : Tri P ρ n0 c { fr := st.fr.set t v', mem := frzAll st.mem (ref1 v) } Q) : Tri P ρ n0 c st Q := fun E0 w0 he0 E w a he hs hmk => by
 obtain ⟨E', h1, h2, h3⟩ := hs.freeze (vs := [v]) (vs' := [v']) (by simp only [purL,hp])
 obtain ⟨x, hx, hr⟩ := hs.fr.get h0
 have hr' := (h3 [x] (RepL.cons hr (.nil _))).2 0 v' x rfl rfl
 have e1 : [v].flatMap ref1 = ref1 v := by simp
 rw [e1] at h1
 have e2 : a.tmps.toList.set t x = a.tmps.toList := by
  apply List.ext_getElem?
  intro i
  rw [List.getElem?_set]
  split
  ·rename_i hi; subst hi
   rw [if_pos (List.getElem?_eq_some_iff.1 hx).1, hx]
  ·rfl
 have h4 : RepL E' (st.fr.set t v') a.tmps.toList := by
  have := (RepL.set (n := t) h1.fr hr')
  rwa [e2] at this
 exact h E0 w0 he0 E' w a (he.trans h2) ⟨h1.F, h1.lt, h1.mem, h1.top, h1.ver, h1.apart, h4⟩ (hmk.evo h2)
theorem ex_frz {v v' : V} (t : Nat) (h0 : st.fr[t]? = some v) (hp : pur1 st.mem v = some v') (h : Ex P ρ n0 c { fr := st.fr.set t v', mem := frzAll st.mem (ref1 v) } Q) : Ex P ρ n0 c st Q := by
 obtain ⟨e, s2, hq, h2⟩ := h
 exact ⟨e, s2, hq, fun Q' h' => tri_frz t h0 hp (h2 Q' h')⟩
theorem set_same {α : Type} {l : List α} {t : Nat} {x : α} (h : l[t]? = some x) : l.set t x = l := by
 apply List.ext_getElem?
 intro i
 rw [List.getElem?_set]
 split
 ·rename_i hi; subst hi
  rw [if_pos (List.getElem?_eq_some_iff.1 h).1, h]
 ·rfl
theorem Sim.boxNil {E : Env} {w : World} {a : Act} (hs : Sim E w a st) {k j : Nat} {cs : List V} (hk : st.mem[k]? = some (.box cs)) (hj : cs[j]? = some (.sc (.slice none 0 0))) (b v : Nat) : Sim E w a { st with mem := st.mem.set k (.box (cs.set j (.ms b v 0 0))) } := by
 have hlt := (List.getElem?_eq_some_iff.1 hk).1
 refine ⟨hs.F, hs.lt, fun k' B hB => ?_, fun k' hk' => hs.top k' (by simpa using hk'), fun k' B hB v hv => ?_, hs.apart, hs.fr⟩
 ·rw [List.getElem?_set] at hB
  split at hB
  ·rename_i he; subst he
   cases hB
   obtain ⟨g, T, xs, hb, hh, hr, hf⟩ := hs.mem k _ hk
   refine ⟨g, T, xs, hb, hh, ?_, hf⟩
   obtain ⟨x, hx, hrx⟩ := hr.get hj
   have hxv := rep_sc hrx
   subst hxv
   have := RepL.set (n := j) hr (Rep.msnil E b v 0)
   rwa [set_same hx] at this
  ·exact hs.mem k' B hB
 ·rw [List.getElem?_set] at hB
  split at hB
  ·rename_i he; subst he
   cases hB
   exact hs.ver k _ hk v hv
  ·exact hs.ver k' B hB v hv
theorem tri_nilBox {cs : List V} (k j v e : Nat) (hk : st.mem[k]? = some (.box cs)) (hj : cs[j]? = some (.sc (.slice none 0 0))) (h : Tri P ρ n0 c { fr := st.fr, mem := st.mem.set k (.box (cs.set j (.ms st.mem.length v 0 0))) ++ [.rows v e []] } Q) : Tri P ρ n0 c st Q :=
 tri_weak (fun E w a hs => (hs.boxNil hk hj st.mem.length v).nilRowsV v e) h
end
end Go.Eng
end

section
namespace Go.Eng
variable [Glob]
def lk (t : Nat) : List (Nat × V) → V
 | [] => .undef
 | p :: ws => if p.1 = t then p.2 else lk t ws
def W (n : Nat) (ws : List (Nat × V)) : List V := (List.range n).map fun i => lk i ws
theorem W_get (n : Nat) (ws : List (Nat × V)) (t : Nat) : (W n ws)[t]? = if t < n then some (lk t ws) else none := by
 unfold W
 rw [List.getElem?_map]
 by_cases h : t < n
 ·rw [if_pos h, List.getElem?_range h]; rfl
 ·rw [if_neg h, List.getElem?_eq_none (by simp; omega)]; rfl
theorem W_getD (n : Nat) (ws : List (Nat × V)) (t : Nat) : (W n ws).getD t .undef = if t < n then lk t ws else .undef := by
 rw [List.getD_eq_getElem?_getD, W_get]; split <;> rfl
theorem W_length (n : Nat) (ws : List (Nat × V)) : (W n ws).length = n := by simp [W]
theorem W_set (n : Nat) (ws : List (Nat × V)) (d : Nat) (v : V) : (W n ws).set d v = W n ((d, v) :: ws) := by
 apply List.ext_getElem?
 intro i
 rw [List.getElem?_set, W_get, W_get, W_length]
 simp only [lk]
 by_cases h : d = i
 ·subst h; simp
 ·simp [h]
def agr (ws0 : List (Nat × V)) : List (Nat × V) → Prop
 | [] => True
 | p :: r => lk p.1 ws0 = p.2 ∧ agr ws0 r
theorem agr_get {ws0 : List (Nat × V)} : ∀ {ws : List (Nat × V)}, agr ws0 ws → ∀ i, lk i ws = .undef ∨ lk i ws = lk i ws0
 | [], _, i => .inl rfl
 | p :: r, h, i => by
  simp only [lk]
  by_cases e : p.1 = i
  ·subst e; rw [if_pos rfl]; exact .inr h.1.symm
  ·rw [if_neg e]; exact agr_get h.2 i
theorem agr_rep {E : Env} {n : Nat} {ws0 ws : List (Nat × V)} (h : agr ws0 ws) {xs : List Value} (hr : RepL E (W n ws0) xs) : RepL E (W n ws) xs := by
 refine ⟨by rw [← hr.1, W_length, W_length], fun i v x hv hx => ?_⟩
 rw [W_get] at hv
 split at hv
 ·rename_i hi
  cases hv
  rcases agr_get h i with e | e
  ·rw [e]; exact .undef _ _
  ·rw [e]; exact hr.2 i _ x (by rw [W_get, if_pos hi]) hx
 ·cases hv
def bel (k : Nat) (ws : List (Nat × V)) : Bool := ws.all fun p => belowV k p.2
theorem bel_W {k n : Nat} {ws : List (Nat × V)} (h : bel k ws = true) : (W n ws).all (belowV k) = true := by
 rw [List.all_eq_true]
 intro v hv
 unfold W at hv
 obtain ⟨i, -, rfl⟩ := List.mem_map.1 hv
 clear hv
 induction ws with
 | nil => rfl
 | cons p r ih =>
  unfold bel at h ih
  rw [List.all_cons, Bool.and_eq_true] at h
  simp only [lk]
  split
  ·exact h.1
  ·exact ih h.2

def X (_ : Tk) (m : Bool) (P : Program) (ρ : Option Nat) (n0 : Nat) (c : Code) (st : St) (Q : Exit → St → Prop) : Prop := match m with
 | true => Tri P ρ n0 c st Q
 | false => Ex P ρ n0 c st Q
section
variable {k_ : Tk} {m : Bool} {P : Program} {tt : Table} {sp : List Nat} {ρ : Option Nat} {n0 : Nat} {st : St} {Q : Exit → St → Prop} {n : Nat} {ws ws0 : List (Nat × V)} {mem mem0 : List Blk}
theorem X.mono {c : Code} {Q2 : Exit → St → Prop} (h : X k_ m P ρ n0 c st Q) (hq : ∀ e s, Q e s → Q2 e s) : X k_ m P ρ n0 c st Q2 := by
 cases m
 ·exact Ex.mono h hq
 ·exact Tri.mono h hq
theorem x_seq {x y : Code} (h : X k_ m P ρ n0 x st (thenQ (fun st' => X k_ m P ρ n0 y st' Q) Q)) : X k_ m P ρ n0 (.seq x y) st Q := by
 cases m
 ·exact ex_seq h
 ·exact tri_seq h
theorem x_block {id : Nat} {c : Code} (h : X k_ m P ρ n0 c st (blockQ id Q)) : X k_ m P ρ n0 (.block id c) st Q := by
 cases m
 ·exact ex_block h
 ·exact tri_block h
theorem x_weak {c : Code} {st' : St} (hw : ∀ E w a, Sim E w a st → Sim E w a st') (h : X k_ m P ρ n0 c st' Q) : X k_ m P ρ n0 c st Q := by
 cases m
 ·obtain ⟨e, s, hq, h⟩ := h
  exact ⟨e, s, hq, fun Q' h' => tri_weak hw (h Q' h')⟩
 ·exact tri_weak hw h
theorem x_trim {c : Code} (k : Nat) (hn : n0 ≤ k) (hf : st.fr.all (belowV k) = true) (hm : (st.mem.take k).all (belowB k) = true) (h : X k_ m P ρ n0 c { st with mem := st.mem.take k } Q) : X k_ m P ρ n0 c st Q := by
 cases m
 ·obtain ⟨e, s, hq, h⟩ := h
  exact ⟨e, s, hq, fun Q' h' => tri_trim k [] hn hf hm (h Q' h')⟩
 ·exact tri_trim k [] hn hf hm h
def Lies (n0 k n : Nat) (ws : List (Nat × V)) (mem : List Blk) (st : St) : Prop :=
 ∃ ws0 mem0, st = ⟨W n ws0, mem0⟩ ∧ n0 ≤ k ∧ agr ws0 ws ∧ bel k ws = true ∧ mem.all (belowB k) = true ∧ mem0.take k = mem
theorem lies {k : Nat} (h0 : n0 ≤ k) (h1 : agr ws0 ws ∧ bel k ws = true ∧ mem.all (belowB k) = true ∧ mem0.take k = mem) : Lies n0 k n ws mem ⟨W n ws0, mem0⟩ := ⟨ws0, mem0, rfl, h0, h1⟩
theorem x_lies {c : Code} {k : Nat} (hl : Lies n0 k n ws mem st) (h : X k_ m P ρ n0 c ⟨W n ws, mem⟩ Q) : X k_ m P ρ n0 c st Q := by
 obtain ⟨ws0, mem0, rfl, h0, h1, h2, h3, h4⟩ := hl
 subst h4
 exact x_weak (st' := ⟨W n ws, mem0⟩) (fun E w a hs => ⟨hs.F, hs.lt, hs.mem, hs.top, hs.ver, hs.apart, agr_rep h1 hs.fr⟩) (x_trim k h0 (bel_W h2) h3 h)

def gate (_ : Tk) (b : Bool) (d : Nat) (st : St) (f : Bool → St → Prop) : Prop := ∀ b', b = b' → f b' { st with fr := st.fr.set d (.sc (.bool b')) }
theorem gate_t {d : Nat} {f : Bool → St → Prop} : gate k_ true d st f = f true { st with fr := st.fr.set d (.sc (.bool true)) } := propext ⟨fun h => h _ rfl, fun h b' e => by subst e; exact h⟩
theorem gate_f {d : Nat} {f : Bool → St → Prop} : gate k_ false d st f = f false { st with fr := st.fr.set d (.sc (.bool false)) } := propext ⟨fun h => h _ rfl, fun h b' e => by subst e; exact h⟩
theorem gif {b : Bool} {d : Nat} {f : Bool → St → Prop} (h1 : b = true → f true { st with fr := st.fr.set d (.sc (.bool true)) }) (h2 : b = false → f false { st with fr := st.fr.set d (.sc (.bool false)) }) : gate k_ b d st f := by
 intro b' e
 cases b' with
 | true => exact h1 e
 | false => exact h2 e
theorem gate_of {b : Bool} {d : Nat} {f : Bool → St → Prop} (hd : st.fr[d]? = some (.sc (.bool b)) ∨ st.fr.getD d .undef = .sc (.bool b)) (h : gate k_ b d st f) : f b st := by
 have := h b rfl
 have e : st.fr.set d (.sc (.bool b)) = st.fr := by
  rcases hd with hd | hd
  ·exact set_same hd
  ·rw [List.getD_eq_getElem?_getD] at hd
   cases hg : st.fr[d]? with
   | none => rw [hg] at hd; cases hd
   | some v => rw [hg] at hd; cases hd; exact set_same hg
 rw [e] at this
 exact this
def guardQ (_ : Tk) (v : Option V) (d : Nat) (want : Bool) (st : St) (yes no : St → Prop) : Prop := match v with
 | some (.sc (.bool b)) => gate tk b d st fun b s => match b == want with | true => yes s | false => no s
 | some (.sc _) => no st
 | some _ => False
 | none => no st
def dstAt : List Oper → Nat → Option Tmp
 | [], _ => none
 | o :: _, 0 => o.dst
 | _ :: r, n + 1 => dstAt r n
theorem dstAt_z {o : Oper} {r : List Oper} : dstAt (o :: r) 0 = o.dst := rfl
theorem dstAt_s {o : Oper} {r : List Oper} {n : Nat} : dstAt (o :: r) (n + 1) = dstAt r n := rfl
theorem dstAt_eq : ∀ (l : List Oper) (j : Nat), dstAt l j = (l[j]?).bind (·.dst)
 | [], j => by simp [dstAt]
 | o :: r, 0 => rfl
 | o :: r, j + 1 => by rw [dstAt_s, dstAt_eq r j, List.getElem?_cons_succ]
def gd (all : List Oper) (o : Oper) (st : St) (yes no : St → Prop) : Prop := match o.guard with
 | none => yes st
 | some (j, want) => match dstAt all j with
  | none => no st
  | some d => guardQ tk st.fr[d]? d want st yes no
theorem gd_of {all : Array Oper} {o : Oper} {yes no : St → Prop} (h : gd all.toList o st yes no) : (wantedV all st.fr o = some true ∧ yes st) ∨ (wantedV all st.fr o = some false ∧ no st) := by
 unfold gd at h
 unfold wantedV
 split at h
 ·rename_i hg; rw [hg]; exact .inl ⟨rfl, h⟩
 ·rename_i j want hg
  rw [hg]
  dsimp only
  rw [dstAt_eq, Array.getElem?_toList] at h
  cases hd : (all[j]?).bind (·.dst) with
  | none => rw [hd] at h; exact .inr ⟨rfl, h⟩
  | some d =>
   rw [hd] at h
   dsimp only at h ⊢
   unfold guardQ at h
   split at h
   ·rename_i b hb
    have h := gate_of (.inl hb) h
    rw [hb]
    dsimp only
    cases hc : b == want with
    | true => rw [hc] at h; exact .inl ⟨rfl, h⟩
    | false => rw [hc] at h; exact .inr ⟨rfl, h⟩
   ·rename_i x hx hb
    rw [hb]
    cases x with
    | bool b => exact absurd rfl (hx b)
    | _ => exact .inr ⟨rfl, h⟩
   ·exact h.elim
   ·rename_i hb; rw [hb]; exact .inr ⟨rfl, h⟩
def runV (m : Bool) (P : Program) (tt : Table) (all : List Oper) : List Oper → St → (St → Prop) → Prop
 | [], st, Q => Q st
 | o :: r, st, Q => gd all o st (fun s => stepV m P tt s.mem.length o s fun s => runV m P tt all r s Q) (fun s => runV m P tt all r (s.put o.dst (.sc undef)) Q)
theorem runV_n {all : List Oper} {Q : St → Prop} : runV m P tt all [] ⟨W n ws, mem⟩ Q = Q ⟨W n ws, mem⟩ := nprp rfl
theorem runV_c {all : List Oper} {o : Oper} {r : List Oper} {Q : St → Prop} : runV m P tt all (o :: r) ⟨W n ws, mem⟩ Q = gd all o ⟨W n ws, mem⟩ (fun s => stepV m P tt s.mem.length o s fun s => runV m P tt all r s Q) (fun s => runV m P tt all r (s.put o.dst (.sc undef)) Q) := nprp rfl
def runS (m : Bool) (P : Program) (tt : Table) (all : Array Oper) (l : List Oper) (st : St) (Q : St → Prop) : Prop := match m with
 | true => runOps P tt all l st Q
 | false => ∃ s, Q s ∧ ∀ K : St → Prop, K s → runOps P tt all l st K
theorem runV_op {all : Array Oper} {Q : St → Prop} : ∀ (l : List Oper) (st : St), runV m P tt all.toList l st Q → runS m P tt all l st Q
 | [], st, h => by
  cases m with
  | true => show runOps P tt all [] st Q; rw [runOps]; exact h
  | false => exact ⟨st, h, fun K hK => by rw [runOps]; exact hK⟩
 | o :: r, st, h => by
  rw [runV] at h
  rcases gd_of h with ⟨hw, h⟩ | ⟨hw, h⟩
  ·have h := stepV_op (stepV_mono (B := fun s => runS m P tt all r s Q) h fun s hs => runV_op r s hs)
   cases m with
   | true =>
    show runOps P tt all (o :: r) st Q
    rw [runOps, hw]
    exact h
   | false =>
    obtain ⟨s1, h1, h2⟩ := h
    obtain ⟨s2, h3, h4⟩ := h1
    exact ⟨s2, h3, fun K hK => by rw [runOps, hw]; exact h2 _ (h4 K hK)⟩
  ·have h := runV_op r _ h
   cases m with
   | true =>
    show runOps P tt all (o :: r) st Q
    rw [runOps, hw]; exact h
   | false =>
    obtain ⟨s2, h3, h4⟩ := h
    exact ⟨s2, h3, fun K hK => by rw [runOps, hw]; exact h4 K hK⟩
theorem x_region (ht : TT P tt) {id : Nat} {ops : Array Oper} (h : runV m P tt ops.toList ops.toList st (Q .normal)) : X k_ m P ρ n0 (.region id ops false) st Q := by
 have h := runV_op _ _ h
 cases m with
 | true => exact tri_region ht h
 | false =>
  obtain ⟨s, h1, h2⟩ := h
  exact ⟨.normal, s, h1, fun Q' h' => tri_region ht (h2 _ h')⟩
def condQ (c : Operand) (st : St) (f : Bool → St → Prop) : Prop := match st.eval c with
 | .sc (.bool b) => match c with
  | .tmp t => gate tk b t st f
  | _ => f b st
 | _ => False
def inL (i : Nat) : List Nat → Bool
 | [] => false
 | a :: r => if a = i then true else inL i r
def ky : Code → Nat
 | .cond (.tmp t) _ _ => 10000 + t
 | .block i _ => 20000 + i
 | .seq _ _ => 30000
 | .region i _ _ => i
 | _ => 40000
def vc (m : Bool) (P : Program) (tt : Table) (sp : List Nat) (ρ : Option Nat) (n0 : Nat) : Code → St → (Exit → St → Prop) → Prop
 | .seq x y, st, Q => match x with
  | .region id ops false => match inL id sp with
   | false => runV m P tt ops.toList ops.toList st fun s => vc m P tt sp ρ n0 y s Q
   | true => X tk m P ρ n0 (.seq (.region id ops false) y) st Q
  | .skip => vc m P tt sp ρ n0 y st Q
  | _ => match inL (ky x) sp with
   | false => vc m P tt sp ρ n0 x st (thenQ (fun s => vc m P tt sp ρ n0 y s Q) Q)
   | true => X tk m P ρ n0 (.seq x y) st Q
 | .region id ops false, st, Q => match inL id sp with
  | false => runV m P tt ops.toList ops.toList st (Q .normal)
  | true => X tk m P ρ n0 (.region id ops false) st Q
 | .cond c x y, st, Q => condQ c st fun b s => match b with | true => vc m P tt sp ρ n0 x s Q | false => vc m P tt sp ρ n0 y s Q
 | .block id c, st, Q => vc m P tt sp ρ n0 c st (blockQ id Q)
 | .skip, st, Q => Q .normal st
 | .ret, st, Q => Q .ret st
 | .exit id, st, Q => Q (.exit id) st
 | c, st, Q => X tk m P ρ n0 c st Q
theorem vx (ht : TT P tt) : ∀ {c : Code} {st : St} {Q : Exit → St → Prop}, vc m P tt sp ρ n0 c st Q → X k_ m P ρ n0 c st Q := by
 intro c
 induction c with
 | seq x y ihx ihy =>
  intro st Q h
  unfold vc at h
  split at h
  ·split at h
   ·refine x_seq ((x_region (Q := thenQ (fun s => vc m P tt sp ρ n0 y s Q) Q) ht h).mono fun e s h => ?_)
    cases e with
    | normal => exact ihy h
    | _ => exact h
   ·exact h
  ·have h := ihy h
   cases m
   ·exact ex_seq (ex_skip h)
   ·exact tri_seq (tri_skip h)
  ·split at h
   ·refine x_seq ((ihx h).mono fun e s h => ?_)
    cases e with
    | normal => exact ihy h
    | _ => exact h
   ·exact h
 | region id ops mixed =>
  intro st Q h
  cases mixed
  ·unfold vc at h
   split at h
   ·exact x_region ht h
   ·exact h
  ·unfold vc at h; exact h
 | cond c x y ihx ihy =>
  intro st Q h
  unfold vc at h
  unfold condQ at h
  split at h
  ·rename_i b hb
   have h : X k_ m P ρ n0 (if b = true then x else y) st Q := by
    split at h
    ·rename_i t
     have h := gate_of (.inr hb) h
     cases b
     ·exact ihy h
     ·exact ihx h
    ·cases b
     ·exact ihy h
     ·exact ihx h
   cases m
   ·exact ex_cond hb h
   ·exact tri_cond hb h
  ·exact h.elim
 | block id c ih => intro st Q h; unfold vc at h; exact x_block (ih h)
 | skip =>
  intro st Q h; unfold vc at h
  cases m
  ·exact ex_skip h
  ·exact tri_skip h
 | ret =>
  intro st Q h; unfold vc at h
  cases m
  ·exact ex_ret h
  ·exact tri_ret h
 | exit id =>
  intro st Q h; unfold vc at h
  cases m
  ·exact ex_exit h
  ·exact tri_exit h
 | _ => intro st Q h; unfold vc at h; exact h
section
variable {x y : Code} {id : Nat} {ops : Array Oper} {c : Operand}
theorem guardQ_def {v : Option V} {d : Nat} {want : Bool} {yes no : St → Prop} {k : Tk} : guardQ k v d want st yes no = match v with
  | some (.sc (.bool b)) => gate tk b d st fun b s => match b == want with | true => yes s | false => no s
  | some (.sc _) => no st
  | some _ => False
  | none => no st := nprp rfl
def sV := @stepV
theorem stepV_def {key : Nat} {o : Oper} {Q : St → Prop} : stepV m P tt key o ⟨W n ws, mem⟩ Q = sV m P tt key o ⟨W n ws, mem⟩ Q := nprp rfl
theorem sV_def {key : Nat} {o : Oper} {Q : St → Prop} : sV m P tt key o st Q = match o.op with
   | .alloc T => bq tk (tt T) fun i => Q ({ st with mem := setMem st.mem key (.box (i.zero.map V.sc)) }.put o.dst (.ptr key 0))
   | .box _ x => bq tk (cellsV (st.eval x)) fun cs => Q ({ st with mem := setMem st.mem key (.box cs) }.put o.dst (.ptr key 0))
   | .build T parts => bq tk (buildV P tt T parts.toList st.eval) fun v => Q (st.put o.dst v)
   | .buildSlice T len parts => bq tk (litX tt T len parts.toList st key) fun mem => Q ({ st with mem := mem }.put o.dst (.ms key 0 0 len))
   | .store T p x => bq tk (storeX tt st.mem T (st.eval p) (st.eval x)) fun mem => Q ({ st with mem := mem }.put o.dst (.sc undef))
   | .call { callee := .builtin .append, args := xs, argTypes := ts } => match xs.toList.map st.eval with
    | [s, x] => nq tk (appendV tt st.mem ts.toList s x) (fun p => Q ({ st with mem := (appOut st.mem key p.1 p.2.2 p.2.1).1 }.put o.dst (appOut st.mem key p.1 p.2.2 p.2.1).2)) (apV tk m (appendS tt st.mem ts.toList s x) st o.dst Q)
    | _ => False
   | .call { callee := .value f, args := xs, .. } => match st.eval f with
    | .yld k => yldV tk m P k (xs.toList.map st.eval) st o.dst Q
    | fv => bq tk (calleeOf fv (xs.toList.map st.eval)) fun p => callV tk m P p.1 p.2 (purL st.mem p.2) (p.2.flatMap ref1) st o.dst Q
   | .makeSlice T l c => bq tk (makeV tt T (st.eval l) (st.eval c)) fun p => Q ({ st with mem := setMem st.mem key (.rows 0 p.1 p.2.1) }.put o.dst (.ms key 0 0 p.2.1.length))
   | .makeMap _ none => Q ({ st with mem := setMem st.mem key (.map [] 0) }.put o.dst (.mp key))
   | .mapUpdate T d k x => bq tk (insertV P st.mem T (st.eval d) (st.eval k) (st.eval x)) fun mem => Q ({ st with mem := mem }.put o.dst (.sc undef))
   | .insert T d k x => bq tk (insertV P st.mem T (st.eval d) (st.eval k) (st.eval x)) fun mem => Q ({ st with mem := mem }.put o.dst (.sc undef))
   | .mapEntry T d k => bq tk (entryV P st.mem T (st.eval d) (st.eval k)) fun p => Q ({ st with mem := p.1 }.put o.dst p.2)
   | .entryStore _ d s x => bq tk (stampV st.mem (st.eval d) (st.eval s) (st.eval x)) fun mem => Q ({ st with mem := mem }.put o.dst (.sc undef))
   | .call { callee := .builtin .delete, args := xs, argTypes := ts } => bq tk (deleteV P st.mem ts (xs.toList.map st.eval)) fun mem => Q ({ st with mem := mem }.put o.dst (.sc (.tuple #[])))
   | .range T x => bq tk (rangeBlk P st.mem T (st.eval x)) fun B => Q ({ st with mem := setMem st.mem key B }.put o.dst (.ptr key 0))
   | .next it str => nxV tk m st o.dst (st.eval it) str Q
   | .binOp op T x y _ => nq tk (nilLen tt op T (st.eval x) (st.eval y)) (fun n => niV tk m n op st o.dst Q) (bq tk (opV P tt st o) fun v => Q (st.put o.dst v))
   | _ => bq tk (opV P tt st o) fun v => Q (st.put o.dst v) := nprp rfl
theorem gd_def {all : List Oper} {o : Oper} {yes no : St → Prop} : gd all o ⟨W n ws, mem⟩ yes no = match o.guard with
  | none => yes ⟨W n ws, mem⟩
  | some (j, want) => match dstAt all j with
   | none => no ⟨W n ws, mem⟩
   | some d => guardQ tk (W n ws)[d]? d want ⟨W n ws, mem⟩ yes no := nprp rfl
theorem condQ_def {f : Bool → St → Prop} : condQ c st f = match st.eval c with
  | .sc (.bool b) => match c with
   | .tmp t => gate tk b t st f
   | _ => f b st
  | _ => False := nprp rfl
theorem vc_sr : vc m P tt sp ρ n0 (.seq (.region id ops false) y) ⟨W n ws, mem⟩ Q = match inL id sp with
  | false => runV m P tt ops.toList ops.toList ⟨W n ws, mem⟩ fun s => vc m P tt sp ρ n0 y s Q
  | true => X tk m P ρ n0 (.seq (.region id ops false) y) ⟨W n ws, mem⟩ Q := nprp rfl
theorem vc_sm : vc m P tt sp ρ n0 (.seq (.region id ops true) y) ⟨W n ws, mem⟩ Q = match inL id sp with
  | false => vc m P tt sp ρ n0 (.region id ops true) ⟨W n ws, mem⟩ (thenQ (fun s => vc m P tt sp ρ n0 y s Q) Q)
  | true => X tk m P ρ n0 (.seq (.region id ops true) y) ⟨W n ws, mem⟩ Q := nprp rfl
theorem vc_sq {x1 : Code} : vc m P tt sp ρ n0 (.seq (.seq x x1) y) ⟨W n ws, mem⟩ Q = match inL 30000 sp with
  | false => vc m P tt sp ρ n0 (.seq x x1) ⟨W n ws, mem⟩ (thenQ (fun s => vc m P tt sp ρ n0 y s Q) Q)
  | true => X tk m P ρ n0 (.seq (.seq x x1) y) ⟨W n ws, mem⟩ Q := nprp rfl
theorem vc_sc {x1 : Code} {t : Nat} : vc m P tt sp ρ n0 (.seq (.cond (.tmp t) x x1) y) ⟨W n ws, mem⟩ Q = match inL (10000 + t) sp with
  | false => vc m P tt sp ρ n0 (.cond (.tmp t) x x1) ⟨W n ws, mem⟩ (thenQ (fun s => vc m P tt sp ρ n0 y s Q) Q)
  | true => X tk m P ρ n0 (.seq (.cond (.tmp t) x x1) y) ⟨W n ws, mem⟩ Q := nprp rfl
theorem vc_sb : vc m P tt sp ρ n0 (.seq (.block id x) y) ⟨W n ws, mem⟩ Q = match inL (20000 + id) sp with
  | false => vc m P tt sp ρ n0 (.block id x) ⟨W n ws, mem⟩ (thenQ (fun s => vc m P tt sp ρ n0 y s Q) Q)
  | true => X tk m P ρ n0 (.seq (.block id x) y) ⟨W n ws, mem⟩ Q := nprp rfl
theorem vc_r : vc m P tt sp ρ n0 (.region id ops false) ⟨W n ws, mem⟩ Q = match inL id sp with
  | false => runV m P tt ops.toList ops.toList ⟨W n ws, mem⟩ (Q .normal)
  | true => X tk m P ρ n0 (.region id ops false) ⟨W n ws, mem⟩ Q := nprp rfl
theorem vc_m : vc m P tt sp ρ n0 (.region id ops true) ⟨W n ws, mem⟩ Q = X tk m P ρ n0 (.region id ops true) ⟨W n ws, mem⟩ Q := nprp rfl
theorem vc_c : vc m P tt sp ρ n0 (.cond c x y) ⟨W n ws, mem⟩ Q = condQ c ⟨W n ws, mem⟩ fun b s => match b with | true => vc m P tt sp ρ n0 x s Q | false => vc m P tt sp ρ n0 y s Q := nprp rfl
theorem vc_b : vc m P tt sp ρ n0 (.block id x) ⟨W n ws, mem⟩ Q = vc m P tt sp ρ n0 x ⟨W n ws, mem⟩ (blockQ id Q) := nprp rfl
theorem vc_k : vc m P tt sp ρ n0 .skip ⟨W n ws, mem⟩ Q = Q .normal ⟨W n ws, mem⟩ := nprp rfl
theorem vc_t : vc m P tt sp ρ n0 .ret ⟨W n ws, mem⟩ Q = Q .ret ⟨W n ws, mem⟩ := nprp rfl
theorem vc_x : vc m P tt sp ρ n0 (.exit id) ⟨W n ws, mem⟩ Q = Q (.exit id) ⟨W n ws, mem⟩ := nprp rfl
theorem vc_l : vc m P tt sp ρ n0 (.loop x) ⟨W n ws, mem⟩ Q = X tk m P ρ n0 (.loop x) ⟨W n ws, mem⟩ Q := nprp rfl
theorem tq_n {f : St → Prop} : thenQ f Q .normal st = f st := nprp rfl
theorem tq_r {f : St → Prop} : thenQ f Q .ret st = Q .ret st := nprp rfl
theorem tq_x {f : St → Prop} {j : Nat} : thenQ f Q (.exit j) st = Q (.exit j) st := nprp rfl
theorem bq_n {j : Nat} : blockQ j Q .normal st = Q .normal st := nprp rfl
theorem bq_r {j : Nat} : blockQ j Q .ret st = Q .ret st := nprp rfl
theorem bq_x {i j : Nat} : blockQ i Q (.exit j) st = if j = i then Q .normal st else Q (.exit j) st := nprp rfl
end
attribute [irreducible] vc
end
end Go.Eng
end

section
namespace Go.Eng
variable [Glob]
section
variable {k_ : Tk} {m : Bool} {P : Program} {tt : Table} {ρ : Option Nat} {n0 : Nat} {st : St} {Q : Exit → St → Prop} {n : Nat} {ws ws0 : List (Nat × V)} {mem mem0 : List Blk}
theorem thenQ_vx (ht : TT P tt) {sp : List Nat} {y : Code} (e : Exit) (s : St) (h : thenQ (fun s => vc m P tt sp ρ n0 y s Q) Q e s) : thenQ (fun s => X k_ m P ρ n0 y s Q) Q e s := by
 cases e with
 | normal => exact vx (k_ := k_) ht h
 | _ => exact h
theorem xgo (ht : TT P tt) (sp : List Nat) {id : Nat} {ops : Array Oper} {y : Code} (h : runV m P tt ops.toList ops.toList st fun s => vc m P tt sp ρ n0 y s Q) : X k_ m P ρ n0 (.seq (.region id ops false) y) st Q :=
 x_seq ((x_region (Q := thenQ (fun s => vc m P tt sp ρ n0 y s Q) Q) ht h).mono (thenQ_vx ht))
theorem xgoL (ht : TT P tt) {id : Nat} {ops : Array Oper} (h : runV m P tt ops.toList ops.toList st (Q .normal)) : X k_ m P ρ n0 (.region id ops false) st Q := x_region ht h
theorem loopN_lies {c : Code} {k j : Nat} (hl : Lies n0 k n ws mem st) (h : LoopN P ρ n0 c j ⟨W n ws, mem⟩ Q) : LoopN P ρ n0 c j st Q := by
 cases j with
 | zero => exact h.elim
 | succ j => exact x_lies (k_ := .b) (m := true) hl h
theorem xloop0 {α : Type} (F : α → List (Nat × V)) (M : α → List Blk) (μ : α → Nat) (Inv : α → Prop) (a0 : α) (k : Nat) {c : Code} (h0 : Lies n0 k n (F a0) (M a0) st) (hi : Inv a0)
  (step : ∀ a, Inv a → X k_ m P ρ n0 c ⟨W n (F a), M a⟩ (thenQ (fun s => ∃ a', Inv a' ∧ μ a' < μ a ∧ Lies n0 k n (F a') (M a') s) Q)) : X k_ m P ρ n0 (.loop c) st Q := by
 cases m with
 | true =>
  have key : ∀ (j : Nat) (a : α), Inv a → μ a = j → LoopN P ρ n0 c (j + 1) ⟨W n (F a), M a⟩ Q := by
   intro j
   induction j using Nat.strongRecOn with
   | _ j ih =>
    intro a hi hj
    refine Tri.mono (step a hi) fun e s h => ?_
    cases e with
    | normal =>
     obtain ⟨a', h1, h2, h3⟩ := h
     exact loopN_lies h3 (loopN_mono (by omega) (ih _ (by omega) a' h1 rfl))
    | _ => exact h
  exact tri_loop _ (loopN_lies h0 (key _ a0 hi rfl))
 | false =>
  have key : ∀ (j : Nat) (a : α), Inv a → μ a = j → ∃ (e : Exit) (s : St), Q e s ∧ ∀ Q' : Exit → St → Prop, Q' e s → ∃ i, LoopN P ρ n0 c i ⟨W n (F a), M a⟩ Q' := by
   intro j
   induction j using Nat.strongRecOn with
   | _ j ih =>
    intro a hi hj
    obtain ⟨e, s, hq, h⟩ := step a hi
    cases e with
    | normal =>
     obtain ⟨a', h1, h2, h3⟩ := hq
     obtain ⟨e2, s2, hq2, h5⟩ := ih _ (by omega) a' h1 rfl
     refine ⟨e2, s2, hq2, fun Q' h' => ?_⟩
     obtain ⟨i, h6⟩ := h5 Q' h'
     exact ⟨i + 1, h _ (loopN_lies h3 h6)⟩
    | _ => exact ⟨_, s, hq, fun Q' h' => ⟨1, h (thenQ (fun st' => LoopN P ρ n0 c 0 st' Q') Q') h'⟩⟩
  obtain ⟨e, s, hq, h⟩ := key _ a0 hi rfl
  refine ⟨e, s, hq, fun Q' h' => ?_⟩
  obtain ⟨j, hj⟩ := h Q' h'
  exact tri_loop j (loopN_lies h0 hj)
theorem xloop (ht : TT P tt) (sp : List Nat) {α : Type} (F : α → List (Nat × V)) (M : α → List Blk) (μ : α → Nat) (Inv : α → Prop) (a0 : α) (k : Nat) {c : Code} (h0 : Lies n0 k n (F a0) (M a0) st) (hi : Inv a0)
  (step : ∀ a, Inv a → ∀ K : St → Prop, (∀ s, (∃ a', Inv a' ∧ μ a' < μ a ∧ Lies n0 k n (F a') (M a') s) → K s) → vc m P tt sp ρ n0 c ⟨W n (F a), M a⟩ (thenQ K Q)) : X k_ m P ρ n0 (.loop c) st Q := xloop0 F M μ Inv a0 k h0 hi fun a h => vx ht (step a h _ fun _ h => h)
def pk (ws : List (Nat × V)) : List Nat → List (Nat × V)
 | [] => []
 | k :: r => (k, lk k ws) :: pk ws r
def zk : List Nat → List V → List (Nat × V) → List (Nat × V)
 | t :: ts, v :: vs, r => (t, v) :: zk ts vs r
 | _, _, r => r
theorem agr_pk {ks : List Nat} : agr ws (pk ws ks) := by
 induction ks with
 | nil => trivial
 | cons k r ih => exact ⟨rfl, ih⟩
theorem bel_cons {k : Nat} {p : Nat × V} : bel k (p :: ws) = (belowV k p.2 && bel k ws) := nrfl rfl
theorem bel_nil {k : Nat} : bel k [] = true := nrfl rfl
theorem xloopK (ht : TT P tt) (sp : List Nat) (ts : List Nat) (vs0 : List V) (k : Nat) (ks : List Nat) (μ : List V → Nat) (Inv : List V → Prop) {c : Code} (hn : n0 ≤ k) (h0 : agr ws0 (zk ts vs0 (pk ws0 ks)) ∧ bel k (zk ts vs0 (pk ws0 ks)) = true ∧ (mem0.take k).all (belowB k) = true) (hi : Inv vs0)
  (step : ∀ vs, Inv vs → ∀ K : St → Prop, (∀ s, (∃ vs', Inv vs' ∧ μ vs' < μ vs ∧ Lies n0 k n (zk ts vs' (pk ws0 ks)) (mem0.take k) s) → K s) → vc m P tt sp ρ n0 c ⟨W n (zk ts vs (pk ws0 ks)), mem0.take k⟩ (thenQ K Q)) : X k_ m P ρ n0 (.loop c) ⟨W n ws0, mem0⟩ Q :=
 xloop ht sp (fun vs => zk ts vs (pk ws0 ks)) (fun _ => mem0.take k) μ Inv vs0 k (lies hn ⟨h0.1, h0.2.1, h0.2.2, rfl⟩) hi step
def lks (ws : List (Nat × V)) : List Nat → List V
 | [] => []
 | t :: r => lk t ws :: lks ws r
theorem agr_zk : ∀ {ts : List Nat} {r : List (Nat × V)}, agr ws r → agr ws (zk ts (lks ws ts) r)
 | [], r, h => h
 | t :: ts, r, h => ⟨rfl, agr_zk h⟩
theorem xloopL (ht : TT P tt) (sp : List Nat) (ts : List Nat) (k : Nat) (ks : List Nat) (μ : List V → Nat) (Inv : List V → Prop) {c : Code} (hn : n0 ≤ k) (h0 : bel k (zk ts (lks ws0 ts) (pk ws0 ks)) = true ∧ (mem0.take k).all (belowB k) = true) (hi : Inv (lks ws0 ts))
  (step : ∀ vs, Inv vs → ∀ K : St → Prop, (∀ s, (∃ vs', Inv vs' ∧ μ vs' < μ vs ∧ Lies n0 k n (zk ts vs' (pk ws0 ks)) (mem0.take k) s) → K s) → vc m P tt sp ρ n0 c ⟨W n (zk ts vs (pk ws0 ks)), mem0.take k⟩ (thenQ K Q)) : X k_ m P ρ n0 (.loop c) ⟨W n ws0, mem0⟩ Q :=
 xloopK ht sp ts (lks ws0 ts) k ks μ Inv hn ⟨agr_zk agr_pk, h0⟩ hi step
theorem endK {ts ks : List Nat} {k j : Nat} {Inv : List V → Prop} {μ : List V → Nat} {ws1 : List (Nat × V)} {mem1 : List Blk} (hn : n0 ≤ k) (h : agr ws1 (pk ws0 ks) ∧ bel k (zk ts (lks ws1 ts) (pk ws0 ks)) = true ∧ (mem0.take k).all (belowB k) = true ∧ mem1.take k = mem0.take k) (hi : Inv (lks ws1 ts)) (hm : μ (lks ws1 ts) < j) :
  ∃ vs', Inv vs' ∧ μ vs' < j ∧ Lies n0 k n (zk ts vs' (pk ws0 ks)) (mem0.take k) ⟨W n ws1, mem1⟩ := ⟨_, hi, hm, lies hn ⟨agr_zk h.1, h.2⟩⟩
theorem xfrz {c : Code} {v v' : V} (t : Nat) (hn : t < n) (h0 : lk t ws = v) (hp : pur1 mem v = some v') (h : X k_ m P ρ n0 c ⟨W n ((t, v') :: ws), frzAll mem (ref1 v)⟩ Q) : X k_ m P ρ n0 c ⟨W n ws, mem⟩ Q := by
 have hg : (⟨W n ws, mem⟩ : St).fr[t]? = some v := by rw [← h0]; show (W n ws)[t]? = _; rw [W_get, if_pos hn]
 rw [← W_set] at h
 cases m
 ·exact ex_frz t hg hp h
 ·exact tri_frz t hg hp h
def callG (_ : Tk) (P : Program) (f : FuncId) (o : Option (List V)) (st : St) (dst : Option Tmp) (Q : St → Prop) : Prop := ∃ vs' r, o = some vs' ∧ PureOk1 P f vs' r ∧ Q (st.put dst r)
def callGH (_ : Tk) (P : Program) (f : FuncId) (o : Option (List V)) (st : St) (key : Nat) (dst : Option Tmp) (Q : St → Prop) : Prop := ∃ vs' e rs, o = some vs' ∧ FnOkL P f vs' e rs ∧ Q (holeSt st key dst e rs)
def callGZ (_ : Tk) (P : Program) (f : FuncId) (o : Option (List V)) (keys : List (Nat × Nat)) (st : St) (dst : Option Tmp) (Q : St → Prop) : Prop := ∃ vs' r, o = some vs' ∧ FnOk P f vs' r ∧ Q ({ st with mem := memAfter st.mem keys r }.put dst r)
def callGE (_ : Tk) (P : Program) (f : FuncId) (vs : List V) (k : Nat) (st : St) (dst : Option Tmp) (Q : St → Prop) : Prop := callEE P f vs k st dst Q
def valG (P : Program) (tt : Table) (o : Oper) (stv st : St) (Q : St → Prop) : Prop :=
 match o.op with
 | .call { callee := .value f, args := xs, .. } => bq tk (calleeOf (stv.eval f) (xs.toList.map stv.eval)) fun p => callG tk P p.1 (purL [] p.2) st o.dst Q
 | _ => bq tk (val1 P tt o stv) fun v => Q (st.put o.dst v)
def newG (P : Program) (o : Oper) (key : Nat) (st : St) (Q : St → Prop) : Prop :=
 match o.op with
 | .call { callee := .value f, args := xs, .. } => bq tk (calleeOf (st.eval f) (xs.toList.map st.eval)) fun p => callGH tk P p.1 (purL [] p.2) st key o.dst Q
 | _ => False
def zG (P : Program) (o : Oper) (st : St) (Q : St → Prop) : Prop :=
 match o.op with
 | .call { callee := .value f, args := xs, .. } => bq tk (calleeOf (st.eval f) (xs.toList.map st.eval)) fun p => callGZ tk P p.1 (purL st.mem p.2) (p.2.flatMap ref1) st o.dst Q
 | _ => False
def eG (P : Program) (o : Oper) (k : Nat) (st : St) (Q : St → Prop) : Prop :=
 match o.op with
 | .call { callee := .value f, args := xs, .. } => bq tk (calleeOf (st.eval f) (xs.toList.map st.eval)) fun p => callGE tk P p.1 p.2 k st o.dst Q
 | _ => False
def stpG (P : Program) (tt : Table) (base : Nat) (o : Oper) (p : Pl) (st : St) (Q : St → Prop) : Prop := match p.cls with
 | .n => valG P tt o { st with mem := [] } st Q
 | .r => valG P tt o { st with mem := maskB (p.mask.map (base + ·) ++ p.abs) st.mem } st Q
 | .a => isHole st.mem (base + p.key) = true ∧ nq tk (newBlk tt o (base + p.key) st) (fun q => Q ({ st with mem := st.mem.set (base + p.key) q.1 }.put o.dst q.2)) (newG P o (base + p.key) st Q)
 | .w => isHole st.mem (base + p.key) = true ∧ bq tk (wOut P tt (base + p.key) o st) fun q => Q ({ st with mem := q.1 }.put o.dst q.2)
 | .s => bq tk (sOut tt (base + p.key) o st) fun mem => Q ({ st with mem := mem }.put o.dst (.sc undef))
 | .b => bq tk (loadB tt o st) fun v => Q (st.put o.dst v)
 | .z => zG P o st Q
 | .e => eG P o p.key st Q
theorem stpG_M {all : Array Oper} {base : Nat} {o : Oper} {p : Pl} {Q : St → Prop} (hw : wantedV all st.fr o = some true) (h : stpG P tt base o p st Q) : stepM P tt all base o p st Q := by
 have hv : ∀ {stv : St}, valG P tt o stv st Q → valD P tt o stv st Q := fun {stv} h => by
  unfold valG at h
  unfold valD
  split at h
  ·rename_i f xs ts hop
   rw [hop]
   dsimp only
   rw [bq_iff] at h
   obtain ⟨⟨g, vs⟩, h1, h2⟩ := h
   rw [h1]
   exact h2
  ·rename_i hop
   split
   ·rename_i f xs ts hop2; exact (hop f xs ts hop2).elim
   ·rw [bq_iff] at h
    obtain ⟨v, h1, h2⟩ := h
    rw [h1]; exact h2
 unfold stpG at h
 unfold stepM
 rw [hw]
 dsimp only
 split at h <;> (rename_i hc; rw [hc]; dsimp only)
 ·exact hv h
 ·exact hv h
 ·refine ⟨h.1, ?_⟩
  have h := h.2
  cases hn : newBlk tt o (base + p.key) st with
  | some q => rw [hn, nq_some] at h; exact h
  | none =>
   rw [hn, nq_none] at h
   dsimp only
   unfold newG at h
   unfold callLD
   split at h
   ·rename_i hop
    rw [hop]
    dsimp only
    rw [bq_iff] at h
    obtain ⟨⟨g, vs⟩, h1, h2⟩ := h
    rw [h1]; exact h2
   ·exact h.elim
 ·refine ⟨h.1, ?_⟩
  have h := h.2
  rw [bq_iff] at h
  obtain ⟨q, h1, h2⟩ := h
  rw [h1]; exact h2
 ·rw [bq_iff] at h
  obtain ⟨q, h1, h2⟩ := h
  rw [h1]; exact h2
 ·rw [bq_iff] at h
  obtain ⟨q, h1, h2⟩ := h
  rw [h1]; exact h2
 ·unfold zG at h
  unfold callZ
  split at h
  ·rename_i hop
   rw [hop]
   dsimp only
   rw [bq_iff] at h
   obtain ⟨⟨g, vs⟩, h1, h2⟩ := h
   rw [h1]; exact h2
  ·exact h.elim
 ·unfold eG at h
  unfold callE
  split at h
  ·rename_i hop
   rw [hop]
   dsimp only
   rw [bq_iff] at h
   obtain ⟨⟨g, vs⟩, h1, h2⟩ := h
   rw [h1]; exact h2
  ·exact h.elim
def runG (P : Program) (tt : Table) (all : List Oper) (base : Nat) : List Oper → List Pl → St → (St → Prop) → Prop
 | [], _, st, K => K st
 | o :: r, p :: ps, st, K => gd all o st (fun st => stpG P tt base o p st fun st' => runG P tt all base r ps st' K) (fun st => runG P tt all base r ps (st.put o.dst (.sc undef)) K)
 | _ :: _, [], _, _ => False
theorem runG_n {all : List Oper} {base : Nat} {ps : List Pl} {K : St → Prop} : runG P tt all base [] ps ⟨W n ws, mem⟩ K = K ⟨W n ws, mem⟩ := nprp rfl
theorem runG_c {all : List Oper} {base : Nat} {o : Oper} {r : List Oper} {p : Pl} {ps : List Pl} {K : St → Prop} : runG P tt all base (o :: r) (p :: ps) ⟨W n ws, mem⟩ K = gd all o ⟨W n ws, mem⟩ (fun st => stpG P tt base o p st fun st' => runG P tt all base r ps st' K) (fun st => runG P tt all base r ps (st.put o.dst (.sc undef)) K) := nprp rfl
theorem runG_op {all : Array Oper} {base : Nat} {Q : St → Prop} : ∀ (l : List Oper) (ps : List Pl) (st : St), runG P tt all.toList base l ps st Q → runM P tt all base l ps st Q
 | [], ps, st, h => h
 | o :: r, [], st, h => h.elim
 | o :: r, p :: ps, st, h => by
  rw [runM]
  rcases gd_of (show gd all.toList o st _ _ from h) with ⟨hw, h⟩ | ⟨hw, h⟩
  ·have h := stpG_M hw h
   by_cases hz : p.cls = .z
   ·unfold stepM at h ⊢
    rw [hw, hz] at h ⊢
    exact callZ_mono h fun s hs => runG_op r ps s hs
   ·obtain ⟨v, m, h1, h2⟩ := (stepM_iff hz).1 h
    exact (stepM_iff hz).2 ⟨v, m, h1, runG_op r ps _ h2⟩
  ·unfold stepM
   rw [hw]
   exact runG_op r ps _ h
theorem xmixL (ht : TT P tt) (hm : P.follows .mixedOrders = true) (plan : List Pl) (j : Nat) {id : Nat} {ops : Array Oper} (hok : mixOk ops plan = true) (h : runG P tt ops.toList st.mem.length ops.toList plan { st with mem := st.mem ++ List.replicate j .hole } (Q .normal)) : X k_ m P ρ n0 (.region id ops true) st Q := by
 have h := runG_op _ _ _ h
 cases m
 ·obtain ⟨s, h1, h2⟩ := runM_op _ _ _ h
  exact ⟨.normal, s, h1, fun Q' h' => tri_mixed ht hm plan j hok (h2 _ h')⟩
 ·exact tri_mixed ht hm plan j hok h
section
variable {k : Tk} {f : FuncId} {vs vs' : List V} {o : Option (List V)} {keys : List (Nat × Nat)} {dst : Option Tmp} {Q : St → Prop}
theorem cF {R : V → Prop} (hr : ∃ v, R v ∧ FnOk P f vs' v) (h : ∀ v, R v → Q ({ st with mem := memAfter st.mem keys v }.put dst v)) : callV k m P f vs (some vs') keys st dst Q := by
 obtain ⟨v, h1, h2⟩ := hr
 exact .inl ⟨vs', v, rfl, h2, h v h1⟩
theorem cW {R : V → List Blk → Prop} (hr : ∃ v m', R v m' ∧ FnOkS P f vs st.mem v m') (h : ∀ v m', R v m' → Q ({ st with mem := m' }.put dst v)) : callV k m P f vs o keys st dst Q := by
 obtain ⟨v, m', h1, h2⟩ := hr
 exact .inr (.inl ⟨v, m', h2, h v m' h1⟩)
theorem cS {R : V → Prop} (hr : ∃ v, R v ∧ FnOkS P f vs st.mem v st.mem) (h : ∀ v, R v → Q (st.put dst v)) : callV k m P f vs o keys st dst Q := by
 obtain ⟨v, h1, h2⟩ := hr
 exact .inr (.inl ⟨v, _, h2, h v h1⟩)
theorem cR {R : V → List Blk → Prop} (hr : FnOkR P f vs st.mem R) (h : ∀ v m', R v m' → Q ({ st with mem := m' }.put dst v)) : callV k true P f vs o keys st dst Q := .inr (.inr (.inl ⟨rfl, R, hr, h⟩))
theorem cG {R : V → Prop} (hr : ∃ v, R v ∧ FnOk P f vs' v) (h : ∀ v, R v → Q (st.put dst v)) : callG k P f (some vs') st dst Q := by
 obtain ⟨v, h1, h2⟩ := hr
 exact ⟨vs', v, rfl, .inl h2, h v h1⟩
end
def argW : Nat → List V → List (Nat × V)
 | i, v :: vs => (i, v) :: argW (i + 1) vs
 | _, [] => []
theorem argW_lk : ∀ (vs : List V) (i t : Nat), lk t (argW i vs) = if i ≤ t then vs.getD (t - i) .undef else .undef
 | [], i, t => by simp [argW, lk]
 | v :: vs, i, t => by
  simp only [argW,lk]
  rw [argW_lk vs (i + 1) t]
  by_cases h : i = t
  ·subst h; simp
  ·rw [if_neg h]
   by_cases h2 : i + 1 ≤ t
   ·rw [if_pos h2, if_pos (by omega), show t - i = (t - (i + 1)) + 1 by omega]; simp
   ·rw [if_neg h2, if_neg (by omega)]
theorem x_start {fn : Func} {args : List V} {c : Code} (hn : fn.ntmps = n) (hl : args.length ≤ n) (h : X k_ m P ρ n0 c ⟨W n (argW 0 args), mem⟩ Q) : X k_ m P ρ n0 c (startSt fn args mem) Q := by
 refine x_weak (st' := ⟨W n (argW 0 args), mem⟩) (fun E w a hs => ⟨hs.F, hs.lt, hs.mem, hs.top, hs.ver, hs.apart, ?_⟩) h
 have hr := hs.fr
 simp only [startSt,hn] at hr
 refine ⟨by rw [← hr.1, W_length, List.length_append, List.length_replicate]; omega, fun i v x hv hx => ?_⟩
 rw [W_get] at hv
 split at hv
 ·rename_i hi
  cases hv
  rw [argW_lk, if_pos (Nat.zero_le _), Nat.sub_zero, List.getD_eq_getElem?_getD]
  cases ha : args[i]? with
  | none => exact .undef _ _
  | some v => exact hr.2 i v x (by rw [List.getElem?_append_left (List.getElem?_eq_some_iff.1 ha).1]; exact ha) hx
 ·cases hv
def endR (R : V → Prop) (o : Option V) : Prop := ∃ r, R r ∧ o = some r
theorem endR_some {R : V → Prop} {v : V} : endR R (some v) = R v := propext ⟨fun ⟨_, h, e⟩ => by cases e; exact h, fun h => ⟨v, h, rfl⟩⟩
def endQ (R : V → Prop) (tt : Table) (rs : Array ResultVar) (e : Exit) (s : St) : Prop := (e = .ret ∨ e = .normal) ∧ endR R (retV tt rs s)
theorem endQ_ret {R : V → Prop} {rs : Array ResultVar} : endQ R tt rs .ret ⟨W n ws, mem⟩ = endR R (retV tt rs ⟨W n ws, mem⟩) := propext ⟨fun h => h.2, fun h => ⟨.inl rfl, h⟩⟩
def endB (R : V → List Blk → Prop) (k : Nat) (o : Option V) (mem : List Blk) : Prop := ∃ r, R r mem ∧ o = some r ∧ belowV k r = true ∧ mem.all (belowB k) = true
theorem endB_some {R : V → List Blk → Prop} {k : Nat} {v : V} : endB R k (some v) mem = (R v mem ∧ belowV k v = true ∧ mem.all (belowB k) = true) := propext ⟨fun ⟨_, h, e, h2⟩ => by cases e; exact ⟨h, h2⟩, fun ⟨h, h2⟩ => ⟨v, h, rfl, h2⟩⟩
def endS (R : V → List Blk → Prop) (k : Nat) (tt : Table) (rs : Array ResultVar) (e : Exit) (s : St) : Prop := (e = .ret ∨ e = .normal) ∧ endB R k (resOne tt rs s) (s.mem.take k)
theorem endS_ret {R : V → List Blk → Prop} {k : Nat} {rs : Array ResultVar} : endS R k tt rs .ret ⟨W n ws, mem⟩ = endB R k (resOne tt rs ⟨W n ws, mem⟩) (mem.take k) := propext ⟨fun h => h.2, fun h => ⟨.inl rfl, h⟩⟩
theorem endS_norm {R : V → List Blk → Prop} {k : Nat} {rs : Array ResultVar} : endS R k tt rs .normal ⟨W n ws, mem⟩ = endB R k (resOne tt rs ⟨W n ws, mem⟩) (mem.take k) := propext ⟨fun h => h.2, fun h => ⟨.inr rfl, h⟩⟩
end
section
variable {P : Program} {tt : Table} {f : FuncId} {fn : Func} {body : Code} {args : List V}
theorem vfn (ht : TT P tt) (sp : List Nat) (n : Nat) (rs : List ResultVar) {R : V → Prop} (hf : P.funcs[f]? = some fn) (hb : fn.body = some body)
  (hcall : ∀ (xs : Array Value) (w : World), (callFunc f xs).run P w = .ok (.enter f xs) w) (hn : fn.ntmps = n ∧ fn.results = rs.toArray ∧ args.length ≤ n)
  (h : ∀ K : V → Prop, (∀ v, R v → K v) → vc false P tt sp none 0 body ⟨W n (argW 0 args), []⟩ (endQ K tt rs.toArray)) : ∃ r, R r ∧ FnOk P f args r := by
 have h := h R fun _ h => h
 obtain ⟨e, s, ⟨h1, r, hr, h2⟩, h3⟩ := x_start (m := false) hn.1 hn.2.2 (vx (k_ := .b) ht h)
 exact ⟨r, hr, fn_ok ht hf hb hcall (h3 _ ⟨h1, by rw [hn.2.1]; exact h2⟩)⟩
theorem vft (ht : TT P tt) (sp : List Nat) (n : Nat) (rs : List ResultVar) {r : V} (hf : P.funcs[f]? = some fn) (hb : fn.body = some body)
  (hcall : ∀ (xs : Array Value) (w : World), (callFunc f xs).run P w = .ok (.enter f xs) w) (hn : fn.ntmps = n ∧ fn.results = rs.toArray ∧ args.length ≤ n)
  (h : ∀ K : V → Prop, (∀ v, v = r → K v) → vc true P tt sp none 0 body ⟨W n (argW 0 args), []⟩ (endQ K tt rs.toArray)) : FnOk P f args r := by
 have h := h (fun v => v = r) fun _ h => h
 exact fn_ok ht hf hb hcall (Tri.mono (x_start (m := true) hn.1 hn.2.2 (vx (k_ := .b) ht h)) fun e s ⟨h1, r', hr, h2⟩ => ⟨h1, by rw [hn.2.1, ← hr]; exact h2⟩)
theorem vfw (ht : TT P tt) (sp : List Nat) (n : Nat) (rs : List ResultVar) {R : V → List Blk → Prop} {mem : List Blk} (k : Nat) (hk : mem.length ≤ k) (hf : P.funcs[f]? = some fn) (hb : fn.body = some body)
  (hcall : ∀ (xs : Array Value) (w : World), (callFunc f xs).run P w = .ok (.enter f xs) w) (hn : fn.ntmps = n ∧ fn.results = rs.toArray ∧ args.length ≤ n)
  (h : ∀ K : V → List Blk → Prop, (∀ v m', R v m' → K v m') → vc false P tt sp none mem.length body ⟨W n (argW 0 args), mem⟩ (endS K k tt rs.toArray)) : ∃ r m', R r m' ∧ FnOkS P f args mem r m' := by
 have h := h R fun _ _ h => h
 obtain ⟨e, s, ⟨h1, r, hr, h2, h4⟩, h5⟩ := x_start (m := false) hn.1 hn.2.2 (vx (k_ := .b) ht h)
 exact ⟨r, _, hr, fns_ok ht k hk hf hb hcall (h5 _ ⟨h1, by rw [hn.2.1]; exact h2, h4.1, h4.2, rfl⟩)⟩
theorem vfs (ht : TT P tt) (sp : List Nat) (n : Nat) (rs : List ResultVar) {R : V → Prop} {mem : List Blk} (hf : P.funcs[f]? = some fn) (hb : fn.body = some body)
  (hcall : ∀ (xs : Array Value) (w : World), (callFunc f xs).run P w = .ok (.enter f xs) w) (hn : fn.ntmps = n ∧ fn.results = rs.toArray ∧ args.length ≤ n)
  (h : ∀ K : V → List Blk → Prop, (∀ v m', R v ∧ m' = mem → K v m') → vc false P tt sp none mem.length body ⟨W n (argW 0 args), mem⟩ (endS K mem.length tt rs.toArray)) : ∃ r, R r ∧ FnOkS P f args mem r mem := by
 obtain ⟨r, m', ⟨hr, rfl⟩, h⟩ := vfw ht sp n rs (R := fun r m' => R r ∧ m' = mem) mem.length (Nat.le_refl _) hf hb hcall hn h
 exact ⟨r, hr, h⟩
theorem vfr (ht : TT P tt) (sp : List Nat) (n : Nat) (rs : List ResultVar) {R : V → List Blk → Prop} {mem : List Blk} (k : Nat) (hk : mem.length ≤ k) (hf : P.funcs[f]? = some fn) (hb : fn.body = some body)
  (hcall : ∀ (xs : Array Value) (w : World), (callFunc f xs).run P w = .ok (.enter f xs) w) (hn : fn.ntmps = n ∧ fn.results = rs.toArray ∧ args.length ≤ n)
  (h : ∀ K : V → List Blk → Prop, (∀ v m', R v m' → K v m') → vc true P tt sp none mem.length body ⟨W n (argW 0 args), mem⟩ (endS K k tt rs.toArray)) : FnOkR P f args mem R := by
 have h := h R fun _ _ h => h
 exact fnr_ok ht hf hb hcall (R := R) (Tri.mono (x_start (m := true) hn.1 hn.2.2 (vx (k_ := .b) ht h)) fun ex s ⟨h1, r, h2, h3, h4, h5⟩ => ⟨h1, r, k, hk, by rw [hn.2.1]; exact h3, h4, h5, h2⟩)
end
end Go.Eng
end

section
namespace Go.Eng
variable [Glob]
open Go.RowKit (Below)

mutual
def renV (σ : Nat → Nat) : V → V
 | .undef => .undef
 | .sc v => .sc v
 | .agg cs => .agg (renL σ cs)
 | .slice rows => .slice rows
 | .ms b v s l => .ms (σ b) v s l
 | .ptr b o => .ptr (σ b) o
 | .rptr b v i o => .rptr (σ b) v i o
 | .eptr cs => .eptr cs
 | .clo f first cap => .clo f (renL σ first) (renL σ cap)
 | .tup vs => .tup (renL σ vs)
 | .yld b => .yld (σ b)
 | .mp b => .mp (σ b)
 | .gn => .gn
 | .full rows => .full rows
def renL (σ : Nat → Nat) : List V → List V
 | [] => []
 | c :: r => renV σ c :: renL σ r
end
theorem renL_map (σ : Nat → Nat) : ∀ l : List V, renL σ l = l.map (renV σ)
 | [] => rfl
 | c :: r => by rw [renL, renL_map σ r]; rfl
def renB (σ : Nat → Nat) : Blk → Blk
 | .box cs => .box (renL σ cs)
 | .loop s p fr ps a b => .loop s p (renL σ fr) ps a b
 | .map kvs c => .map (kvs.map fun e => (e.1, e.2.1, renV σ e.2.2)) c
 | .miter m since seen last => .miter (σ m) since seen last
 | B => B
theorem renB_ver (σ : Nat → Nat) (B : Blk) : (renB σ B).ver = B.ver := by cases B <;> rfl
theorem Rep.ren {E : Env} {v : V} {x : Value} (h : Rep E v x) : ∀ {n : Nat} {σ : Nat → Nat} {E2 : Env}, belowV n v = true → (∀ ad y, E.F ad = some y → E2.F ad = some y) → (∀ k v t, k < n → E.blk k v = some t → E2.blk (σ k) v = some t) → Rep E2 (renV σ v) x := by
 induction h with
 | undef => intros; exact .undef _ _
 | sc => intros; exact .sc _ _
 | slice E rows a cap esz ad xf ha hcap hz hF h1 hR ih =>
  intro n σ E2 hb hF2 hk
  exact .slice _ _ _ _ esz ad xf ha hcap hz (fun i row j c hi hj => hF2 _ _ (hF i row j c hi hj)) h1 fun i row j c hi hj => (hR i row j c hi hj).mono ⟨hF2, fun _ _ _ h => by cases h⟩
 | ms E b v s l g e c a cap hbk hl h0 hcc =>
  intro n σ E2 hb hF2 hk
  exact .ms _ _ _ _ _ g e c _ _ (hk _ _ _ (by simpa [belowV] using hb) hbk) hl h0 hcc
 | msnil => intros; exact .msnil _ _ _ _
 | ptr E b o g e c hbk =>
  intro n σ E2 hb hF2 hk
  exact .ptr _ _ _ g e c (hk _ _ _ (by simpa [belowV] using hb) hbk)
 | yld E b l e c hbk =>
  intro n σ E2 hb hF2 hk
  exact .yld _ _ l e c (hk _ _ _ (by simpa [belowV] using hb) hbk)
 | mp E b l e c hbk =>
  intro n σ E2 hb hF2 hk
  exact .mp _ _ l e c (hk _ _ _ (by simpa [belowV] using hb) hbk)
 | rptr E b v i o g e c hbk =>
  intro n σ E2 hb hF2 hk
  exact .rptr _ _ _ _ _ g e c (hk _ _ _ (by simpa [belowV] using hb) hbk)
 | eptr E cs ad xf hF hR ih =>
  intro n σ E2 hb hF2 hk
  exact .eptr _ _ _ xf (fun j c hj => hF2 _ _ (hF j c hj)) fun j c hj => (hR j c hj).mono ⟨hF2, fun _ _ _ h => by cases h⟩
 | gn => intros; exact .gn _
 | full E rows a h ih =>
  intro n σ E2 hb hF2 hk
  exact .full _ _ _ (ih (n := n) (σ := σ) rfl hF2 hk)
 | agg E cs xs hl hh ih =>
  intro n σ E2 hb hF2 hk
  rw [belowV, belowL_all] at hb
  rw [renV, renL_map]
  refine .agg _ _ _ (by rw [List.length_map]; exact hl) fun i c x hc hx => ?_
  rw [List.getElem?_map, Option.map_eq_some_iff] at hc
  obtain ⟨c0, hc0, rfl⟩ := hc
  exact ih i c0 x hc0 hx (List.all_eq_true.1 hb c0 (List.mem_of_getElem? hc0)) hF2 hk
 | tup E cs xs hl hh ih =>
  intro n σ E2 hb hF2 hk
  rw [belowV, belowL_all] at hb
  rw [renV, renL_map]
  refine .tup _ _ _ (by rw [List.length_map]; exact hl) fun i c x hc hx => ?_
  rw [List.getElem?_map, Option.map_eq_some_iff] at hc
  obtain ⟨c0, hc0, rfl⟩ := hc
  exact ih i c0 x hc0 hx (List.all_eq_true.1 hb c0 (List.mem_of_getElem? hc0)) hF2 hk
 | clo E f first cap xs ys hx hy h1 h2 ih1 ih2 =>
  intro n σ E2 hb hF2 hk
  rw [belowV, belowL_all, belowL_all, Bool.and_eq_true] at hb
  rw [renV, renL_map, renL_map]
  refine .clo _ _ _ _ _ _ (by rw [List.length_map]; exact hx) (by rw [List.length_map]; exact hy) (fun i c x hc hx => ?_) fun i c x hc hx => ?_
  ·rw [List.getElem?_map, Option.map_eq_some_iff] at hc
   obtain ⟨c0, hc0, rfl⟩ := hc
   exact ih1 i c0 x hc0 hx (List.all_eq_true.1 hb.1 c0 (List.mem_of_getElem? hc0)) hF2 hk
  ·rw [List.getElem?_map, Option.map_eq_some_iff] at hc
   obtain ⟨c0, hc0, rfl⟩ := hc
   exact ih2 i c0 x hc0 hx (List.all_eq_true.1 hb.2 c0 (List.mem_of_getElem? hc0)) hF2 hk
theorem Rep.unren {E : Env} {u : V} {x : Value} (h : Rep E u x) : ∀ {v : V} {n : Nat} {σ : Nat → Nat} {E2 : Env}, u = renV σ v → belowV n v = true → (∀ ad y, E.F ad = some y → E2.F ad = some y) → (∀ k v t, k < n → E.blk (σ k) v = some t → E2.blk k v = some t) → Rep E2 v x := by
 induction h with
 | undef =>
  intro v n σ E2 he hb hF2 hk
  cases v <;> simp only [renV,reduceCtorEq] at he
  exact .undef _ _
 | sc =>
  intro v n σ E2 he hb hF2 hk
  cases v <;> simp only [renV,reduceCtorEq,V.sc.injEq] at he
  subst he; exact .sc _ _
 | slice E rows a cap esz ad xf ha hcap hz hF h1 hR ih =>
  intro v n σ E2 he hb hF2 hk
  cases v <;> simp only [renV,reduceCtorEq,V.slice.injEq] at he
  subst he
  exact .slice _ _ _ _ esz ad xf ha hcap hz (fun i row j c hi hj => hF2 _ _ (hF i row j c hi hj)) h1 fun i row j c hi hj => (hR i row j c hi hj).mono ⟨hF2, fun _ _ _ h => by cases h⟩
 | ms E b v s l g e c a cap hbk hl h0 hcc =>
  intro v n σ E2 he hb hF2 hk
  cases v <;> simp only [renV,reduceCtorEq,V.ms.injEq] at he
  obtain ⟨rfl, rfl, rfl, rfl⟩ := he
  exact .ms _ _ _ _ _ g e c _ _ (hk _ _ _ (by simpa [belowV] using hb) hbk) hl h0 hcc
 | msnil =>
  intro v n σ E2 he hb hF2 hk
  cases v <;> simp only [renV,reduceCtorEq,V.ms.injEq] at he
  obtain ⟨rfl, rfl, rfl, rfl⟩ := he
  exact .msnil _ _ _ _
 | ptr E b o g e c hbk =>
  intro v n σ E2 he hb hF2 hk
  cases v <;> simp only [renV,reduceCtorEq,V.ptr.injEq] at he
  obtain ⟨rfl, rfl⟩ := he
  exact .ptr _ _ _ g e c (hk _ _ _ (by simpa [belowV] using hb) hbk)
 | yld E b l e c hbk =>
  intro v n σ E2 he hb hF2 hk
  cases v <;> simp only [renV,reduceCtorEq,V.yld.injEq] at he
  subst he
  exact .yld _ _ l e c (hk _ _ _ (by simpa [belowV] using hb) hbk)
 | mp E b l e c hbk =>
  intro v n σ E2 he hb hF2 hk
  cases v <;> simp only [renV,reduceCtorEq,V.mp.injEq] at he
  subst he
  exact .mp _ _ l e c (hk _ _ _ (by simpa [belowV] using hb) hbk)
 | rptr E b v i o g e c hbk =>
  intro v n σ E2 he hb hF2 hk
  cases v <;> simp only [renV,reduceCtorEq,V.rptr.injEq] at he
  obtain ⟨rfl, rfl, rfl, rfl⟩ := he
  exact .rptr _ _ _ _ _ g e c (hk _ _ _ (by simpa [belowV] using hb) hbk)
 | eptr E cs ad xf hF hR ih =>
  intro v n σ E2 he hb hF2 hk
  cases v <;> simp only [renV,reduceCtorEq,V.eptr.injEq] at he
  subst he
  exact .eptr _ _ _ xf (fun j c hj => hF2 _ _ (hF j c hj)) fun j c hj => (hR j c hj).mono ⟨hF2, fun _ _ _ h => by cases h⟩
 | full E rows a h ih =>
  intro v n σ E2 he hb hF2 hk
  cases v <;> simp only [renV,reduceCtorEq,V.full.injEq] at he
  subst he
  exact .full _ _ _ (ih (v := .slice rows) (n := n) (σ := σ) rfl rfl hF2 hk)
 | gn =>
  intro v n σ E2 he hb hF2 hk
  cases v <;> simp only [renV,reduceCtorEq] at he
  exact .gn _
 | agg E cs xs hl hh ih =>
  intro v n σ E2 he hb hF2 hk
  cases v <;> simp only [renV,reduceCtorEq,V.agg.injEq] at he
  subst he
  rw [belowV, belowL_all] at hb
  rw [renL_map, List.length_map] at hl
  refine .agg _ _ _ hl fun i c x hc hx => ?_
  exact ih i (renV σ c) x (by rw [renL_map, List.getElem?_map, hc]; rfl) hx rfl (List.all_eq_true.1 hb c (List.mem_of_getElem? hc)) hF2 hk
 | tup E cs xs hl hh ih =>
  intro v n σ E2 he hb hF2 hk
  cases v <;> simp only [renV,reduceCtorEq,V.tup.injEq] at he
  subst he
  rw [belowV, belowL_all] at hb
  rw [renL_map, List.length_map] at hl
  refine .tup _ _ _ hl fun i c x hc hx => ?_
  exact ih i (renV σ c) x (by rw [renL_map, List.getElem?_map, hc]; rfl) hx rfl (List.all_eq_true.1 hb c (List.mem_of_getElem? hc)) hF2 hk
 | clo E f first cap xs ys hx hy h1 h2 ih1 ih2 =>
  intro v n σ E2 he hb hF2 hk
  cases v <;> simp only [renV,reduceCtorEq,V.clo.injEq] at he
  obtain ⟨rfl, rfl, rfl⟩ := he
  rw [belowV, belowL_all, belowL_all, Bool.and_eq_true] at hb
  rw [renL_map, List.length_map] at hx hy
  refine .clo _ _ _ _ _ _ hx hy (fun i c x hc hx => ?_) fun i c x hc hx => ?_
  ·exact ih1 i (renV σ c) x (by rw [renL_map, List.getElem?_map, hc]; rfl) hx rfl (List.all_eq_true.1 hb.1 c (List.mem_of_getElem? hc)) hF2 hk
  ·exact ih2 i (renV σ c) x (by rw [renL_map, List.getElem?_map, hc]; rfl) hx rfl (List.all_eq_true.1 hb.2 c (List.mem_of_getElem? hc)) hF2 hk
theorem RepL.ren {E E2 : Env} {vs : List V} {xs : List Value} {n : Nat} {σ : Nat → Nat} (h : RepL E vs xs) (hb : vs.all (belowV n) = true) (hF : ∀ ad y, E.F ad = some y → E2.F ad = some y) (hk : ∀ k v t, k < n → E.blk k v = some t → E2.blk (σ k) v = some t) : RepL E2 (renL σ vs) xs := by
 rw [renL_map]
 refine ⟨by rw [List.length_map]; exact h.1, fun i v x hv hx => ?_⟩
 rw [List.getElem?_map, Option.map_eq_some_iff] at hv
 obtain ⟨c, hc, rfl⟩ := hv
 exact (h.2 i c x hc hx).ren (List.all_eq_true.1 hb c (List.mem_of_getElem? hc)) hF hk
theorem RepL.unren {E E2 : Env} {vs : List V} {xs : List Value} {n : Nat} {σ : Nat → Nat} (h : RepL E (renL σ vs) xs) (hb : vs.all (belowV n) = true) (hF : ∀ ad y, E.F ad = some y → E2.F ad = some y) (hk : ∀ k v t, k < n → E.blk (σ k) v = some t → E2.blk k v = some t) : RepL E2 vs xs := by
 rw [renL_map] at h
 refine ⟨by have := h.1; rwa [List.length_map] at this, fun i v x hv hx => ?_⟩
 exact (h.2 i (renV σ v) x (by rw [List.getElem?_map, hv]; rfl) hx).unren rfl (List.all_eq_true.1 hb v (List.mem_of_getElem? hv)) hF hk
theorem BlkOk.ren {E E2 : Env} {w w2 : World} {k : Nat} {B : Blk} {n : Nat} {σ : Nat → Nat} (h : BlkOk E w k B) (hkn : k < n) (hb : belowB n B = true) (hF : E2.F = E.F) (hk : ∀ k v, k < n → E2.blk (σ k) v = E.blk k v) (hw : w2.heap = w.heap) : BlkOk E2 w2 (σ k) (renB σ B) := by
 have hF1 : ∀ ad y, E.F ad = some y → E2.F ad = some y := fun ad y h => by rw [hF]; exact h
 have hk1 : ∀ k v t, k < n → E.blk k v = some t → E2.blk (σ k) v = some t := fun k v t hn h => by rw [hk k v hn]; exact h
 have hp : E2.pure = E.pure := Env.ext2 hF rfl
 cases B with
 | hole => exact fun v => by rw [hk k v hkn]; exact h v
 | dead => trivial
 | box cs =>
  obtain ⟨g, T, xs, h1, h2, h3, h4⟩ := h
  exact ⟨g, T, xs, hk1 _ _ _ hkn h1, by rw [hw]; exact h2, h3.ren hb hF1 hk1, fun o => by rw [hF]; exact h4 o⟩
 | rows v e rs =>
  rcases h with ⟨h1, h2⟩ | ⟨g, T, xs, c, h1, h2, h3, h4, h5, h6⟩
  ·exact .inl ⟨h1, by rw [hk k v hkn]; exact h2⟩
  ·exact .inr ⟨g, T, xs, c, hk1 _ _ _ hkn h1, by rw [hw]; exact h2, h3, h4, by rw [hp]; exact h5, fun o => by rw [hF]; exact h6 o⟩
 | frz v e rs =>
  rcases h with ⟨h1, h2⟩ | ⟨g, c, h1, h2, h3⟩
  ·exact .inl ⟨h1, by rw [hk k v hkn]; exact h2⟩
  ·exact .inr ⟨g, c, hk1 _ _ _ hkn h1, h2, by rw [hp, hF]; exact h3⟩
 | loop s pend fr params assign body =>
  obtain ⟨l, fn, tmps, db, h1, h2, h3, h4⟩ := h
  exact ⟨l, fn, tmps, db, hk1 _ _ _ hkn h1, by rw [hw]; exact h2, h3.ren hb hF1 hk1, fun o => by rw [hF]; exact h4 o⟩
 | map kvs clock =>
  obtain ⟨g, es, h1, h2, h3, h4⟩ := h
  refine ⟨g, es, hk1 _ _ _ hkn h1, by rw [hw]; exact h2, ⟨by rw [List.length_map]; exact h3.1, fun i kb e hkb he => ?_⟩, fun o => by rw [hF]; exact h4 o⟩
  rw [List.getElem?_map, Option.map_eq_some_iff] at hkb
  obtain ⟨q, hq, rfl⟩ := hkb
  obtain ⟨p1, p2, p3⟩ := h3.2 i q e hq he
  exact ⟨p1, p2, p3.ren (List.all_eq_true.1 hb q (List.mem_of_getElem? hq)) hF1 hk1⟩
 | miter m since seen last =>
  obtain ⟨g, gm, e, c, h1, h2, h3, h4⟩ := h
  exact ⟨g, gm, e, c, hk1 _ _ _ hkn h1, hk1 _ _ _ (by simpa [belowB] using hb) h2, by rw [hw]; exact h3, fun o => by rw [hF]; exact h4 o⟩
 | siter s pos =>
  obtain ⟨g, h1, h2, h3⟩ := h
  exact ⟨g, hk1 _ _ _ hkn h1, by rw [hw]; exact h2, fun o => by rw [hF]; exact h3 o⟩
 | niter =>
  obtain ⟨g, h1, h2, h3⟩ := h
  exact ⟨g, hk1 _ _ _ hkn h1, by rw [hw]; exact h2, fun o => by rw [hF]; exact h3 o⟩
theorem BlkOk.unren {E E2 : Env} {w : World} {k : Nat} {B : Blk} {n : Nat} {σ : Nat → Nat} (h : BlkOk E w (σ k) (renB σ B)) (hkn : k < n) (hb : belowB n B = true) (hF : E2.F = E.F) (hk : ∀ k v, k < n → E2.blk k v = E.blk (σ k) v) : BlkOk E2 w k B := by
 have hF1 : ∀ ad y, E.F ad = some y → E2.F ad = some y := fun ad y h => by rw [hF]; exact h
 have hk1 : ∀ k v t, k < n → E.blk (σ k) v = some t → E2.blk k v = some t := fun k v t hn h => by rw [hk k v hn]; exact h
 have hp : E2.pure = E.pure := Env.ext2 hF rfl
 cases B with
 | hole => exact fun v => by rw [hk k v hkn]; exact h v
 | dead => trivial
 | box cs =>
  obtain ⟨g, T, xs, h1, h2, h3, h4⟩ := h
  exact ⟨g, T, xs, hk1 _ _ _ hkn h1, h2, h3.unren hb hF1 hk1, fun o => by rw [hF]; exact h4 o⟩
 | rows v e rs =>
  rcases h with ⟨h1, h2⟩ | ⟨g, T, xs, c, h1, h2, h3, h4, h5, h6⟩
  ·exact .inl ⟨h1, by rw [hk k v hkn]; exact h2⟩
  ·exact .inr ⟨g, T, xs, c, hk1 _ _ _ hkn h1, h2, h3, h4, by rw [hp]; exact h5, fun o => by rw [hF]; exact h6 o⟩
 | frz v e rs =>
  rcases h with ⟨h1, h2⟩ | ⟨g, c, h1, h2, h3⟩
  ·exact .inl ⟨h1, by rw [hk k v hkn]; exact h2⟩
  ·exact .inr ⟨g, c, hk1 _ _ _ hkn h1, h2, by rw [hp, hF]; exact h3⟩
 | loop s pend fr params assign body =>
  obtain ⟨l, fn, tmps, db, h1, h2, h3, h4⟩ := h
  exact ⟨l, fn, tmps, db, hk1 _ _ _ hkn h1, h2, h3.unren hb hF1 hk1, fun o => by rw [hF]; exact h4 o⟩
 | map kvs clock =>
  obtain ⟨g, es, h1, h2, h3, h4⟩ := h
  refine ⟨g, es, hk1 _ _ _ hkn h1, h2, ⟨by have := h3.1; rwa [List.length_map] at this, fun i q e hq he => ?_⟩, fun o => by rw [hF]; exact h4 o⟩
  obtain ⟨p1, p2, p3⟩ := h3.2 i _ e (by rw [List.getElem?_map, hq]; rfl) he
  exact ⟨p1, p2, p3.unren rfl (List.all_eq_true.1 hb q (List.mem_of_getElem? hq)) hF1 hk1⟩
 | miter m since seen last =>
  obtain ⟨g, gm, e, c, h1, h2, h3, h4⟩ := h
  exact ⟨g, gm, e, c, hk1 _ _ _ hkn h1, hk1 _ _ _ (by simpa [belowB] using hb) h2, h3, fun o => by rw [hF]; exact h4 o⟩
 | siter s pos =>
  obtain ⟨g, h1, h2, h3⟩ := h
  exact ⟨g, hk1 _ _ _ hkn h1, h2, fun o => by rw [hF]; exact h3 o⟩
 | niter =>
  obtain ⟨g, h1, h2, h3⟩ := h
  exact ⟨g, hk1 _ _ _ hkn h1, h2, fun o => by rw [hF]; exact h3 o⟩

def setAll (σ : Nat → Nat) : Nat → List Blk → List Blk → List Blk
 | _, [], M => M
 | i, B :: r, M => setAll σ (i + 1) r (M.set (σ i) (renB σ B))
def putR (σ : Nat → Nat) (n : Nat) (mem' M : List Blk) : List Blk := setAll σ 0 (mem'.take n) M ++ (mem'.drop n).map (renB σ)
theorem setAll_length (σ : Nat → Nat) : ∀ (l : List Blk) (i : Nat) (M : List Blk), (setAll σ i l M).length = M.length
 | [], _, _ => rfl
 | B :: r, i, M => by rw [setAll, setAll_length σ r]; simp
theorem setAll_ne (σ : Nat → Nat) : ∀ (l : List Blk) (i : Nat) (M : List Blk) (k : Nat), (∀ j, i ≤ j → j < i + l.length → σ j ≠ k) → (setAll σ i l M)[k]? = M[k]?
 | [], _, _, _, _ => rfl
 | B :: r, i, M, k, h => by
  rw [setAll, setAll_ne σ r (i + 1) _ k fun j h1 h2 => h j (by omega) (by simp; omega), List.getElem?_set_ne (h i (Nat.le_refl _) (by simp))]
theorem setAll_at (σ : Nat → Nat) : ∀ (l : List Blk) (i : Nat) (M : List Blk) (j : Nat) (B : Blk), (∀ a b, i ≤ a → a < i + l.length → i ≤ b → b < i + l.length → σ a = σ b → a = b) → i ≤ j → l[j - i]? = some B → σ j < M.length → (setAll σ i l M)[σ j]? = some (renB σ B)
 | [], _, _, _, _, _, _, h, _ => by simp at h
 | C :: r, i, M, j, B, hinj, hij, h, hlt => by
  rw [setAll]
  by_cases hj : j = i
  ·subst hj
   rw [Nat.sub_self] at h; cases h
   rw [setAll_ne σ r (j + 1) _ (σ j) fun a h1 h2 e => by have := hinj a j (by omega) (by simp; omega) (Nat.le_refl _) (by simp) e; omega]
   rw [List.getElem?_set]; simp [hlt]
  ·refine setAll_at σ r (i + 1) _ j B (fun a b h1 h2 h3 h4 => hinj a b (by omega) (by simp; omega) (by omega) (by simp; omega)) (by omega) ?_ (by simpa using hlt)
   rw [show j - i = (j - (i + 1)) + 1 by omega] at h
   simpa using h
theorem FnOkS.ren {P : Program} {f : FuncId} {vs : List V} {r : V} {mem mem' : List Blk} (h : FnOkS P f vs mem r mem') (M : List Blk) (σ : Nat → Nat) (n : Nat) (hn : n = mem.length) (hv : vs.all (belowV n) = true) (hm : mem.all (belowB n) = true) (hr : belowV mem'.length r = true)
  (hm' : mem'.all (belowB mem'.length) = true) (hlen : n ≤ mem'.length) (hσ : ∀ i B, mem[i]? = some B → M[σ i]? = some (renB σ B)) (hinj : ∀ i j, i < n → j < n → σ i = σ j → i = j) (hnew : ∀ j, n ≤ j → σ j = M.length + (j - n)) :
  FnOkS P f (renL σ vs) M (renV σ r) (putR σ n mem' M) := by
 subst hn
 have hold : ∀ i, i < mem.length → σ i < M.length := fun i hi => (List.getElem?_eq_some_iff.1 (hσ i _ (List.getElem?_eq_getElem hi))).1
 have hL : (putR σ mem.length mem' M).length = M.length + (mem'.length - mem.length) := by
  unfold putR
  rw [List.length_append, setAll_length, List.length_map, List.length_drop]
 have hat : ∀ i B, mem'[i]? = some B → (putR σ mem.length mem' M)[σ i]? = some (renB σ B) := fun i B hi => by
  unfold putR
  rcases Nat.lt_or_ge i mem.length with hlt | hge
  ·rw [List.getElem?_append_left (by rw [setAll_length]; exact hold i hlt)]
   refine setAll_at σ _ 0 M i B (fun a b _ h2 _ h4 he => ?_) (Nat.zero_le _) (by rw [Nat.sub_zero, List.getElem?_take_of_lt hlt]; exact hi) (hold i hlt)
   rw [List.length_take] at h2 h4
   exact hinj a b (by omega) (by omega) he
  ·rw [hnew i hge, List.getElem?_append_right (by rw [setAll_length]; omega), setAll_length, Nat.add_sub_cancel_left, List.getElem?_map, List.getElem?_drop, show mem.length + (i - mem.length) = i by omega, hi]; rfl
 have hne : ∀ k, k < M.length → (∀ i, i < mem.length → σ i ≠ k) → (putR σ mem.length mem' M)[k]? = M[k]? := fun k hk h => by
  unfold putR
  rw [List.getElem?_append_left (by rw [setAll_length]; exact hk)]
  exact setAll_ne σ _ 0 M k fun j _ h2 => h j (by rw [List.length_take] at h2; omega)
 generalize putR σ mem.length mem' M = M' at hL hat hne
 refine ⟨h.1, fun E w xs hs hx => ?_⟩
 have hE0 : ∀ k v, k < mem.length → (⟨E.F, fun k v => if k < mem.length then E.blk (σ k) v else none, E.gl⟩ : Env).blk k v = E.blk (σ k) v := fun k v hk => if_pos hk
 have hE0' : ∀ k v, mem.length ≤ k → (⟨E.F, fun k v => if k < mem.length then E.blk (σ k) v else none, E.gl⟩ : Env).blk k v = none := fun k v hk => if_neg (by omega)
 have hE0F : (⟨E.F, fun k v => if k < mem.length then E.blk (σ k) v else none, E.gl⟩ : Env).F = E.F := rfl
 generalize (⟨E.F, fun k v => if k < mem.length then E.blk (σ k) v else none, E.gl⟩ : Env) = E0 at hE0 hE0' hE0F
 have hin : ∀ k v t, E0.blk k v = some t → k < mem.length ∧ E.blk (σ k) v = some t := fun k v t h => by
  rcases Nat.lt_or_ge k mem.length with hk | hk
  ·exact ⟨hk, by rw [← hE0 k v hk]; exact h⟩
  ·rw [hE0' k v hk] at h; cases h
 have hs0 : Sim E0 w { tmps := #[], defers := [] } { fr := [], mem := mem } :=
  ⟨fun ad y hy => hs.F ad y (by rw [← hE0F]; exact hy), fun k v g e c hk => hs.lt _ _ _ _ _ (hin _ _ _ hk).2,
   fun k B hk => (hs.mem _ _ (hσ k B hk)).unren (List.getElem?_eq_some_iff.1 hk).1 (List.all_eq_true.1 hm B (List.mem_of_getElem? hk)) hE0F hE0,
   fun k hk v => hE0' k v hk, fun k B hk v hv => by
    rw [hE0 k v (List.getElem?_eq_some_iff.1 hk).1]
    exact hs.ver _ _ (hσ k B hk) v (by rw [renB_ver]; exact hv),
   fun k k' v v' g e c e' c' h1 h2 => by
    obtain ⟨p1, p2⟩ := hin _ _ _ h1
    obtain ⟨q1, q2⟩ := hin _ _ _ h2
    exact hinj k k' p1 q1 (hs.apart _ _ _ _ _ _ _ _ _ p2 q2), .nil _⟩
 have hx0 : RepL E0 vs xs.toList := hx.unren hv (fun ad y hy => by rw [hE0F]; exact hy) fun k v t hk h => by rw [hE0 k v hk]; exact h
 refine (h.2 E0 w xs hs0 hx0).mono ?_
 rintro en w1 ⟨E1, x, rfl, hev, hs', hr'⟩
 have hA0 : ∀ i v, i < mem.length → (⟨E1.F, fun K v => match (List.range mem.length).find? (fun i => σ i == K) with | some i => E1.blk i v | none => if K < M.length then E.blk K v else E1.blk (K - M.length + mem.length) v, E1.gl⟩ : Env).blk (σ i) v = E1.blk i v := fun i v hi => by
  show (match (List.range mem.length).find? (fun j => σ j == σ i) with | some i => E1.blk i v | none => _) = _
  have : (List.range mem.length).find? (fun j => σ j == σ i) = some i := by
   cases hf : (List.range mem.length).find? (fun j => σ j == σ i) with
   | none =>
    have := List.find?_eq_none.1 hf i (List.mem_range.2 hi)
    simp at this
   | some j =>
    have h1 := List.find?_some hf
    have h2 := List.mem_range.1 (List.mem_of_find?_eq_some hf)
    rw [hinj j i h2 hi (by simpa using h1)]
  rw [this]
 have hno : ∀ K, (∀ i, i < mem.length → σ i ≠ K) → (List.range mem.length).find? (fun i => σ i == K) = none := fun K h => List.find?_eq_none.2 fun i hi => by
  have := h i (List.mem_range.1 hi)
  simpa using this
 have hB : ∀ K v, K < M.length → (∀ i, i < mem.length → σ i ≠ K) → (⟨E1.F, fun K v => match (List.range mem.length).find? (fun i => σ i == K) with | some i => E1.blk i v | none => if K < M.length then E.blk K v else E1.blk (K - M.length + mem.length) v, E1.gl⟩ : Env).blk K v = E.blk K v := fun K v hK h => by
  show (match (List.range mem.length).find? (fun j => σ j == K) with | some i => E1.blk i v | none => _) = _
  rw [hno K h]
  exact if_pos hK
 have hA1 : ∀ i v, mem.length ≤ i → (⟨E1.F, fun K v => match (List.range mem.length).find? (fun i => σ i == K) with | some i => E1.blk i v | none => if K < M.length then E.blk K v else E1.blk (K - M.length + mem.length) v, E1.gl⟩ : Env).blk (σ i) v = E1.blk i v := fun i v hi => by
  show (match (List.range mem.length).find? (fun j => σ j == σ i) with | some i => E1.blk i v | none => _) = _
  have hs1 := hnew i hi
  rw [hno (σ i) fun j hj e => by have := hold j hj; omega]
  show (if σ i < M.length then E.blk (σ i) v else E1.blk (σ i - M.length + mem.length) v) = _
  rw [if_neg (by omega), hs1, show M.length + (i - mem.length) - M.length + mem.length = i by omega]
 have hE2F : (⟨E1.F, fun K v => match (List.range mem.length).find? (fun i => σ i == K) with | some i => E1.blk i v | none => if K < M.length then E.blk K v else E1.blk (K - M.length + mem.length) v, E1.gl⟩ : Env).F = E1.F := rfl
 generalize (⟨E1.F, fun K v => match (List.range mem.length).find? (fun i => σ i == K) with | some i => E1.blk i v | none => if K < M.length then E.blk K v else E1.blk (K - M.length + mem.length) v, E1.gl⟩ : Env) = E2 at hA0 hB hA1 hE2F
 have hA : ∀ i v, E2.blk (σ i) v = E1.blk i v := fun i v => by
  rcases Nat.lt_or_ge i mem.length with hi | hi
  ·exact hA0 i v hi
  ·exact hA1 i v hi
 have cl : ∀ K, (∃ i, K = σ i) ∨ (K < M.length ∧ ∀ i, i < mem.length → σ i ≠ K) := fun K => by
  rcases Nat.lt_or_ge K M.length with hK | hK
  ·by_cases h : ∃ i, i < mem.length ∧ σ i = K
   ·obtain ⟨i, -, hi⟩ := h
    exact .inl ⟨i, hi.symm⟩
   ·exact .inr ⟨hK, fun i hi e => h ⟨i, hi, e⟩⟩
  ·exact .inl ⟨K - M.length + mem.length, by rw [hnew _ (by omega)]; omega⟩
 have hnot : ∀ K v g e c, (∀ i, i < mem.length → σ i ≠ K) → E.blk K v = some (g, e, c) → ∀ k0 v0 e0 c0, E0.blk k0 v0 ≠ some (g, e0, c0) := fun K v g e c hK hb k0 v0 e0 c0 h => by
  obtain ⟨h1, h2⟩ := hin _ _ _ h
  exact hK k0 h1 (hs.apart _ _ _ _ _ _ _ _ _ h2 hb)
 have hle : E.le E2 := ⟨fun ad y hy => by rw [hE2F]; exact hev.le.F _ _ (by rw [hE0F]; exact hy), fun K v t hk => by
  rcases cl K with ⟨i, rfl⟩ | ⟨hK, hno'⟩
  ·rw [hA i v]
   rcases Nat.lt_or_ge i mem.length with hi | hi
   ·exact hev.le.blk _ _ _ (by rw [hE0 i v hi]; exact hk)
   ·rw [hs.top (σ i) (by rw [hnew i hi]; dsimp only; omega) v] at hk; cases hk
  ·rw [hB K v hK hno']; exact hk⟩
 refine ⟨E2, x, rfl, ⟨hle, fun K v g e c hk => ?_, fun ad y hy => ?_, hev.os, hev.tape, hev.output, hev.size, fun b hb hne => hev.heap b hb fun k v e c h => hne _ _ _ _ (hin _ _ _ h).2⟩,
  ⟨fun ad y hy => hs'.F _ _ (by rw [← hE2F]; exact hy), fun K v g e c hk => ?_, fun K B hk => ?_, fun K hk v => ?_, fun K B hk v hv => ?_, fun K K' v v' g e1 c1 e2 c2 h5 h6 => ?_, .nil _⟩, hr'.ren hr (fun ad y hy => by rw [hE2F]; exact hy) fun k v t _ hk => by rw [hA]; exact hk⟩
 ·rcases cl K with ⟨i, rfl⟩ | ⟨hK, hno'⟩
  ·rw [hA i v] at hk
   rcases hev.blk _ _ _ _ _ hk with ⟨k0, v0, e0, c0, h⟩ | h
   ·exact .inl ⟨_, _, _, _, (hin _ _ _ h).2⟩
   ·exact .inr h
  ·rw [hB K v hK hno'] at hk; exact .inl ⟨_, _, _, _, hk⟩
 ·rw [hE2F] at hy
  rcases hev.F _ _ hy with h | h | ⟨k0, v0, e0, c0, h⟩
  ·exact .inl (by rw [← hE0F]; exact h)
  ·exact .inr (.inl h)
  ·exact .inr (.inr ⟨_, _, _, _, (hin _ _ _ h).2⟩)
 ·rcases cl K with ⟨i, rfl⟩ | ⟨hK, hno'⟩
  ·rw [hA i v] at hk; exact hs'.lt _ _ _ _ _ hk
  ·rw [hB K v hK hno'] at hk; exact Nat.lt_of_lt_of_le (hs.lt _ _ _ _ _ hk) hev.size
 ·rcases cl K with ⟨i, rfl⟩ | ⟨hK, hno'⟩
  ·have hi : i < mem'.length := by
    have h1 := (List.getElem?_eq_some_iff.1 hk).1
    rcases Nat.lt_or_ge i mem.length with h2 | h2
    ·omega
    ·have h3 := hnew i h2
     dsimp only at h1; omega
   have hk' := hat i _ (List.getElem?_eq_getElem hi)
   rw [hk] at hk'
   cases hk'
   exact (hs'.mem i _ (List.getElem?_eq_getElem hi)).ren hi (List.all_eq_true.1 hm' _ (List.getElem_mem hi)) hE2F (fun k v _ => hA k v) rfl
  ·dsimp only at hk
   rw [hne K hK hno'] at hk
   refine (hs.mem K B hk).mono hle (fun v hv => by rw [hB K v hK hno']; exact hv) (fun g e c hb => hev.heap g (hs.lt _ _ _ _ _ hb) fun k0 v0 e0 c0 h => hnot _ _ _ _ _ hno' hb _ _ _ _ h) fun g e c o hb hn => ?_
   rw [hE2F]
   cases hy : E1.F ⟨g, o, none⟩ with
   | none => rfl
   | some y =>
    rcases hev.F _ _ hy with h | h | ⟨k0, v0, e0, c0, h⟩
    ·rw [hE0F, hn] at h; cases h
    ·have := hs.lt _ _ _ _ _ hb; simp at h; omega
    ·exact absurd h (hnot _ _ _ _ _ hno' hb _ _ _ _)
 ·rcases cl K with ⟨i, rfl⟩ | ⟨hK, hno'⟩
  ·rw [hA i v]
   refine hs'.top i ?_ v
   dsimp only at hk ⊢
   rcases Nat.lt_or_ge i mem.length with h2 | h2
   ·have := hold i h2; omega
   ·have h3 := hnew i h2; omega
  ·dsimp only at hk; omega
 ·rcases cl K with ⟨i, rfl⟩ | ⟨hK, hno'⟩
  ·rw [hA i v]
   have hi : i < mem'.length := by
    have h1 := (List.getElem?_eq_some_iff.1 hk).1
    rcases Nat.lt_or_ge i mem.length with h2 | h2
    ·omega
    ·have h3 := hnew i h2
     dsimp only at h1; omega
   have hk' := hat i _ (List.getElem?_eq_getElem hi)
   rw [hk] at hk'
   cases hk'
   rw [renB_ver] at hv
   exact hs'.ver i _ (List.getElem?_eq_getElem hi) v hv
  ·rw [hB K v hK hno']
   dsimp only at hk
   rw [hne K hK hno'] at hk
   exact hs.ver K B hk v hv
 ·have mixed : ∀ i K' v v' g e1 c1 e2 c2, (∀ i, i < mem.length → σ i ≠ K') → E1.blk i v = some (g, e1, c1) → E.blk K' v' = some (g, e2, c2) → False := fun i K' v v' g e1 c1 e2 c2 hK' h h' => by
   rcases hev.blk _ _ _ _ _ h with ⟨k0, v0, e0, c0, h0⟩ | h0
   ·exact absurd h0 (hnot _ _ _ _ _ hK' h' _ _ _ _)
   ·have := hs.lt _ _ _ _ _ h'; omega
  rcases cl K with ⟨i, rfl⟩ | ⟨hK, hno1⟩ <;> rcases cl K' with ⟨j, rfl⟩ | ⟨hK', hno2⟩
  ·rw [hA] at h5 h6
   rw [hs'.apart _ _ _ _ _ _ _ _ _ h5 h6]
  ·rw [hA] at h5; rw [hB K' _ hK' hno2] at h6
   exact (mixed _ _ _ _ _ _ _ _ _ hno2 h5 h6).elim
  ·rw [hB K _ hK hno1] at h5; rw [hA] at h6
   exact (mixed _ _ _ _ _ _ _ _ _ hno1 h6 h5).elim
  ·rw [hB K _ hK hno1] at h5; rw [hB K' _ hK' hno2] at h6
   exact hs.apart _ _ _ _ _ _ _ _ _ h5 h6
theorem renV_pure (σ : Nat → Nat) : ∀ {v : V}, belowV 0 v = true → renV σ v = v := fun {v} => by
 exact V.rec (motive_1 := fun v => belowV 0 v = true → renV σ v = v) (motive_2 := fun l => belowL 0 l = true → renL σ l = l)
  (fun _ => rfl) (fun _ _ => rfl) (fun cs ih h => by rw [renV, ih (by simpa [belowV] using h)]) (fun _ _ _ => rfl) (fun b v s l h => by simp [belowV] at h) (fun b o h => by simp [belowV] at h)
  (fun b v i o h => by simp [belowV] at h) (fun _ _ _ => rfl) (fun f a c i1 i2 h => by simp only [belowV,Bool.and_eq_true] at h; rw [renV, i1 h.1, i2 h.2]) (fun vs ih h => by rw [renV, ih (by simpa [belowV] using h)])
  (fun b h => by simp [belowV] at h) (fun b h => by simp [belowV] at h) (fun _ => rfl) (fun _ _ _ => rfl) (fun _ => rfl) (fun c r i1 i2 h => by simp only [belowL,Bool.and_eq_true] at h; rw [renL, i1 h.1, i2 h.2]) v
end Go.Eng
end

section
namespace Go.Eng
variable [Glob]
section
variable {P : Program} {ρ : Option Nat} {n0 : Nat} {c : Code} {st : St} {Q : Exit → St → Prop}
end
end Go.Eng
end

section
namespace Go.Eng
variable [Glob]
section
variable {P : Program} {ρ : Option Nat} {n0 : Nat} {Q : Exit → St → Prop} {c : Code} {st : St}
end
end Go.Eng
end

section
namespace Go.Eng
variable [Glob]
section
variable {k_ : Tk} {m : Bool} {P : Program} {ρ : Option Nat} {n0 : Nat} {st : St} {Q : Exit → St → Prop} {n : Nat} {ws : List (Nat × V)} {mem : List Blk} {c : Code}
theorem W_lk {t : Nat} {v : V} (hn : t < n) (h : lk t ws = v) : (W n ws)[t]? = some v := by rw [W_get, if_pos hn, h]
theorem xnil (t v e : Nat) (hn : t < n) (h0 : lk t ws = .sc (.slice none 0 0)) (h : X k_ m P ρ n0 c ⟨W n ((t, .ms mem.length v 0 0) :: ws), mem ++ [.rows v e []]⟩ Q) : X k_ m P ρ n0 c ⟨W n ws, mem⟩ Q := by
 rw [← W_set] at h
 exact x_weak (st' := ⟨(W n ws).set t (.ms mem.length v 0 0), mem ++ [.rows v e []]⟩) (fun E w a hs => (hs.slotNilV (i := t) mem.length v (W_lk hn h0)).nilRowsV v e) h
end
end Go.Eng
end

section
namespace Go.Proofs.YtefbaladomfccaaGreatDoor
open Go.Eng
attribute [go_sem] runOps stepOp wantedV opV St.eval St.put absV cellsV oneV List.all_cons List.all_nil Bool.and_true Bool.true_and Bool.and_self Value.oneCell' if_true if_false setMem List.length_cons List.length_nil Nat.lt_irrefl List.nil_append List.cons_append List.append_nil List.set_cons_zero List.set_cons_succ List.getD_cons_zero List.getD_cons_succ litV tElem tSize seqParts litRows List.map_nil List.map_cons Nat.zero_mul fieldV tOff fieldAt loadV pickCells List.drop_zero List.drop_succ_cons List.take_succ_cons List.take_zero List.getElem?_cons_zero List.getElem?_cons_succ List.head?_cons Nat.zero_add Nat.add_zero Nat.zero_le Nat.le_refl true_and and_true and_self appendV liveRows rowsOf appOut Bool.false_eq_true lenV ev_add ev_sub ev_mul ev_lss ev_leq ev_gtr ev_geq ev_eql ev_neq ev_max ev_min ev_not convV_sc ev_seql ev_sneq Int.natCast_nonneg indexV indexAt arrAt cut3V ptrCmp ptrNil Int.toNat_natCast V.cells intV cutV nilV calleeOf Option.map_some Option.map_none Option.bind_some List.size_toArray List.getElem?_toArray beq_self_eq_true decide_true decide_false Bool.not_true Bool.not_false nilLen sliceLen nilAns storeV spliceL pureCell rowV nilS rowOf sizeOfBlk ne_eq not_true_eq_false not_false_eq_true buildV partVals fillL V.sc.injEq Value.bool.injEq memAfter_nil List.flatMap_cons List.flatMap_nil ref1 refCell ev_ft ev_tf ev_len1 ev_len2 ev_len3 gnCmp tt3 tt4 tt9 tt23 tt24 tt25 tt29 tt48 tt49 tt51 tt61 tt63 tt72 tt76 tt78 tt82 tt89 tt90 tt92 tt94 tt99 tt100 tt101 tt103 tt104 tt105 tt107 tt109 tt169 tt232 tt265 tt266 tt269 tt271 List.toList_toArray List.append_eq gapOk_ms gapOk_sc gapOk_cons clipV loadB keepBox callZ callE appSQ appendS stepD purL pur1 purCells purCell runM stepM valD val1 newBlk wOut sOut isHole maskB mask1 Blk.ver callLD W_getD W_get W_set W_length lk agr bel_cons bel_nil pk zk lks frzAll frz1 List.foldl_cons List.foldl_nil argW belowV belowL belowB gate_t gate_f runV_n runV_c litX storeX niV valG newG zG eG stpG runG_n runG_c holeSt inL vc_sr vc_sm vc_sq vc_sc vc_sb vc_r vc_m vc_c vc_b vc_k vc_t vc_x vc_l tq_n tq_r tq_x bq_n bq_r bq_x endQ_ret endR_some endS_ret endS_norm endB_some retV resOne resL resV pur List.replicate List.take_length
attribute [go_sem ↓] guardQ_def condQ_def gd_def stepV_def sV_def bq_def nq_def dstAt_z dstAt_s
end Go.Proofs.YtefbaladomfccaaGreatDoor
end

section
namespace Go.Eng
variable [Glob]
open Go.RowKit (Below)
theorem Sim.below {E : Env} {w w' : World} {a : Act} {st : St} (hs : Sim E w a st) (hb : Below w.heap.size w w') : Sim E w' a st ∧ Evo E w E w' := by
 refine ⟨⟨fun ad y hy => ?_, fun k v g e c h => Nat.lt_of_lt_of_le (hs.lt _ _ _ _ _ h) hb.size, fun k B hk => ?_, hs.top, hs.ver, hs.apart, hs.fr⟩,
  ⟨E.le_refl, fun k v g e c h => .inl ⟨k, v, e, c, h⟩, fun _ _ h => .inl h, hb.os, hb.tape, hb.output, hb.size, fun b hlt _ => hb.block b hlt⟩⟩
 ·rw [hb.cell (World.block_lt_of_cell? w ad (hs.F ad y hy))]; exact hs.F ad y hy
 ·exact (hs.mem k B hk).mono E.le_refl (fun _ h => h) (fun g e c h => hb.block _ (hs.lt _ _ _ _ _ h)) fun _ _ _ _ _ h => h
end Go.Eng
end

section
namespace Go.Eng
variable [Glob]
def orcOf : List (FuncId × List V × V) → FuncId → List V → Option V
 | [], _, _ => none
 | e :: t, f, vs => if e.1 = f then (if sameVs e.2.1 vs = true then some e.2.2 else orcOf t f vs) else orcOf t f vs
theorem orcOf_nil {P : Program} : OrcOk P (orcOf []) := fun f vs r h => by cases h
theorem orcOf_cons {P : Program} {f : FuncId} {vs : List V} {r : V} {t : List (FuncId × List V × V)} (h : FnOk P f vs r) (ht : OrcOk P (orcOf t)) : OrcOk P (orcOf ((f, vs, r) :: t)) := fun g ws s hs => by
 unfold orcOf at hs
 dsimp only at hs
 split at hs
 ·rename_i hf
  split at hs
  ·rename_i hv
   cases hs
   rw [← hf, ← sameVs_eq hv]; exact h
  ·exact ht g ws s hs
 ·exact ht g ws s hs
end Go.Eng
end

section
namespace Go.Eng
variable [Glob]
def clearV (tt : Table) (mem : List Blk) (ts : List TypeId) (xs : List V) : Option (List Blk) :=
 match ts, xs with
 | [t], [.ms b v s n] => match tt t with
  | some iT => match iT.elem with
   | some e => match tt e with
    | some i => match mem[b]? with
     | some (.rows v' e' rs) => if v' = v ∧ e' = i.size ∧ i.zero.length = i.size ∧ i.zero.all (fun z => z.oneCell') = true ∧ 0 < n ∧ rs.length = s + n then some (mem.set b (.rows v' e' (rs.take s))) else none
     | _ => none
    | none => none
   | none => none
  | none => none
 | _, _ => none
theorem clearV_sound {P : Program} {tt : Table} (ht : TT P tt) {E : Env} {w : World} {a : Act} {st : St} (hs : Sim E w a st) {ts : Array TypeId} {ty : TypeId} {xs : List V} {ys : Array Value} {mem' : List Blk} (hx : RepL E xs ys.toList)
  (h : clearV tt st.mem ts.toList xs = some mem') : ∃ w', (Builtin.clear_ ts ty ys).run P w = .ok (.tuple #[]) w' ∧ Sim E w' a { st with mem := mem' } ∧ Evo E w E w' := by
 unfold clearV at h
 split at h
 ·rename_i t b v s n hts
  obtain ⟨y, zs, hys, hr, hz⟩ := hx.of_cons
  have hzs := hz.of_nil
  subst hzs
  obtain rfl : ys = #[y] := by rw [← Array.toArray_toList (xs := ys), hys]
  obtain rfl : ts = #[t] := by rw [← Array.toArray_toList (xs := ts), hts]
  split at h
  ·rename_i iT hT
   split at h
   ·rename_i e he
    split at h
    ·rename_i i hi
     split at h
     ·rename_i v' e' rs hm
      split at h
      ·rename_i hc
       obtain ⟨rfl, rfl, hzl, hone, hn, hlen⟩ := hc
       cases h
       obtain ⟨d, hd, -, hsl, -⟩ := ht.desc t iT hT
       obtain rfl := hsl e he
       obtain ⟨info, hi1, hi2, hi3, z, hz, hzz⟩ := ht.size e i hi
       have hzsz : z.cells.size = i.size := by rw [← hzl, ← hzz]; simp
       rcases hs.mem b _ hm with ⟨hnil, -⟩ | ⟨g, T, cs, c, hblk, hh, hcs, hlc, hrows, hF⟩
       ·subst hnil; simp at hlen; omega
       obtain ⟨cap, rfl⟩ : ∃ cap, y = .slice (some ⟨g, s * i.size, none⟩) n cap := by
        cases hr with
        | ms _ _ _ _ _ g' e' c' a cap hb' hl' h0' hc' =>
         rw [hblk] at hb'; cases hb'
         rw [hl' hn]; exact ⟨cap, rfl⟩
        | msnil => omega
       obtain ⟨vs, hvs⟩ : ∃ vs, vs = (Builtin.zeroCells z.cells n).toList := ⟨_, rfl⟩
       have hvl : vs.length = n * i.size := by rw [hvs]; simp [Builtin.zeroCells, hzsz]
       have hv1 : ∀ x ∈ vs, x.oneCell' = true := fun x hx => by
        rw [hvs] at hx
        simp only [Builtin.zeroCells,Array.toList_map,List.mem_map,Array.toList_range,List.mem_range] at hx
        obtain ⟨k, hk, rfl⟩ := hx
        have hpos : 0 < z.cells.size := by
         rcases Nat.eq_zero_or_pos z.cells.size with h0 | h0
         ·rw [h0] at hk; simp at hk
         ·exact h0
        have hlt : k % z.cells.size < z.cells.size := Nat.mod_lt _ hpos
        rw [getElem!_pos z.cells _ hlt]
        refine List.all_eq_true.1 hone _ ?_
        rw [← hzz]
        simp
       have hb1 : s * i.size + 0 + vs.length ≤ cs.size := by
        rw [hvl, hcs, Nat.add_zero, ← Nat.add_mul]
        exact Nat.mul_le_mul_right _ (by omega)
       obtain ⟨w', h1, h2, h3⟩ := run_storeCells_own (P := P) (s * i.size) vs 0 w cs hh hb1 hv1
       have hB : BlkOk E w' b (.rows v' i.size (rs.take s)) := by
        refine .inr ⟨g, T, _, c, hblk, h2, by rw [spliceA_size]; exact hcs, by rw [List.length_take]; omega, fun k row hk => ?_, hF⟩
        have hks : k < s := by
         have := (List.getElem?_eq_some_iff.1 hk).1
         rw [List.length_take] at this; omega
        rw [List.getElem?_take_of_lt hks] at hk
        obtain ⟨r1, r2⟩ := hrows k row hk
        refine ⟨r1, fun j cc hj => ?_⟩
        obtain ⟨x, hx, hx1, hx2⟩ := r2 j cc hj
        refine ⟨x, ?_, hx1, hx2⟩
        show (spliceA cs (s * i.size + 0) vs)[k * i.size + j]? = some x
        have hx : cs[k * i.size + j]? = some x := hx
        rw [spliceA_get _ _ _ _ hb1, if_neg, hx]
        have hje : j < i.size := by rw [← r1]; exact (List.getElem?_eq_some_iff.1 hj).1
        have : (k + 1) * i.size ≤ s * i.size := Nat.mul_le_mul_right _ hks
        rw [Nat.add_mul] at this
        omega
       obtain ⟨h4, h5⟩ := hs.turn (B' := .rows v' i.size (rs.take s)) hm rfl rfl hblk hF h3 hB
       refine ⟨w', ?_, h4, h5⟩
       have hzv : (zeroValue e).run P w = .ok z w := by simp [zeroValue, run_typeInfoP hi1, hz]
       obtain ⟨m, rfl⟩ : ∃ m, n = m + 1 := ⟨n - 1, by omega⟩
       rw [hvs] at h1
       simp [Builtin.clear_, run_underlyingP hd, hzv, h1]
      ·cases h
     ·cases h
    ·cases h
   ·cases h
  ·cases h
 ·cases h
section
variable {P : Program} {tt : Table} {ρ : Option Nat} {n0 : Nat} {st : St} {Q : Exit → St → Prop}
theorem runOps_sound1 (ht : TT P tt) {n : Nat} {all : Array Oper} {o : Oper} {R : St → Prop} {Q' : Exit → Act → World → Prop} : ∀ (suf pre : List Oper), all.toList = pre ++ (suf ++ [o]) →
  ∀ {E : Env} {w : World} {a : Act} {st : St}, Sim E w a st → runOps P tt all suf st R → (∀ E' w' a' st', a'.defers = a.defers → Sim E' w' a' st' → Evo E w E' w' → R st' → wpOpsIn (WF ρ) n P all Q' [pre.length + suf.length] a' w') → wpOpsIn (WF ρ) n P all Q' (List.range' pre.length (suf.length + 1)) a w := by
 intro suf
 induction suf with
 | nil => intro pre _ E w a st hs h hq; exact hq E w a st rfl hs (Evo.refl E w) h
 | cons o' r ih =>
  intro pre hall E w a st hs h hq
  have hget : all[pre.length]? = some o' := by
   rw [← Array.getElem?_toList, hall, List.getElem?_append_right (Nat.le_refl _)]; simp
  have hall' : all.toList = (pre ++ [o']) ++ (r ++ [o]) := by rw [hall]; simp
  have ih' := @ih (pre ++ [o']) hall'
  simp only [List.length_append,List.length_cons,List.length_nil,Nat.zero_add] at ih'
  have el : pre.length + (r.length + 1) = pre.length + 1 + r.length := by omega
  rw [List.length_cons, el] at hq
  rw [List.length_cons, List.range'_succ, wpOpsIn, hget]
  dsimp only
  simp only [runOps] at h
  split at h
  ·rename_i hw
   rw [if_pos (wantedV_sound hs hw)]
   refine stepOp_sound ht hs (.inr rfl) h ?_
   rintro v w' ⟨E', st', h1, h2, h3⟩
   exact ih' h1 h3 fun E'' w'' a'' st'' hd h4 h5 h6 => hq E'' w'' a'' st'' (hd.trans (put_defers _ _ _)) h4 (h2.trans h5) h6
  ·rename_i hw
   rw [if_neg (by rw [wantedV_sound hs hw]; simp)]
   exact ⟨fun _ _ => trivial, ih' (hs.put o'.dst (.sc _ _)) h fun E'' w'' a'' st'' hd h4 h5 h6 => hq E'' w'' a'' st'' (hd.trans (put_defers _ _ _)) h4 h5 h6⟩
  ·exact h.elim
theorem tri_seq_clear (ht : TT P tt) {id : Nat} {ops : Array Oper} {y : Code} (pre : List Oper) {dst : Option Tmp} {ty : TypeId} {pos : String} {after : Array Edge} {ts : Array TypeId} {xs : Array Operand}
  (hops : ops.toList = pre ++ [⟨dst, .call { callee := .builtin .clear, args := xs, argTypes := ts }, ty, pos, after, none⟩])
  (h : runOps P tt ops pre st fun st1 => ∃ mem', clearV tt st1.mem ts.toList (xs.toList.map st1.eval) = some mem' ∧ Tri P ρ n0 y ({ st1 with mem := mem' }.put dst (.sc (.tuple #[]))) Q) : Tri P ρ n0 (.seq (.region id ops false) y) st Q := by
 refine tri_seq fun E0 w0 h0 E w a he hs hm => ?_
 refine wpIn_region ?_
 have hsz : ops.size = pre.length + 1 := by rw [← Array.length_toList, hops]; simp
 rw [List.range_eq_range', hsz]
 refine runOps_sound1 ht pre [] (by rw [hops]; rfl) hs h fun E' w' a' st' hd h1 h2 ⟨mem', h3, h4⟩ => ?_
 have hget : ops[0 + pre.length]? = some ⟨dst, .call { callee := .builtin .clear, args := xs, argTypes := ts }, ty, pos, after, none⟩ := by
  rw [← Array.getElem?_toList, hops, Nat.zero_add, List.getElem?_append_right (Nat.le_refl _)]; simp
 obtain ⟨w'', h5, h6, h7⟩ := clearV_sound (ty := ty) ht h1 (h1.evals xs) h3
 show wpOpsIn _ _ _ _ _ [0 + pre.length] a' w'
 rw [wpOpsIn, hget]
 dsimp only
 rw [if_pos (by rfl)]
 refine upon_value' (by rintro c ⟨⟩) (v := .tuple #[]) (w' := w'') ?_ ?_
 ·simp only [execOp,resolve,Sem.run_bind,Sem.run_pure,Result.andThen_ok,invoke,builtin,h5]
 ·exact ⟨E', _, h6.put dst (.sc _ _), he.trans (h2.trans h7), by rw [put_defers, hd]; exact hm.evo (h2.trans h7), h4⟩
end
end Go.Eng
end
