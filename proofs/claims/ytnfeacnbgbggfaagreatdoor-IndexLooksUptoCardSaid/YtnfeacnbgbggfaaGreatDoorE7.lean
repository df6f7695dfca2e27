/-
  THE ENGINE, TM: the walk without a settled outcome: calls of which only a relation is told, and append behind a block's beginning.
  THE ENGINE, VA: one operation, for both forms of walk (m = true: Tri, m = false: Ex); what is stuck keeps what follows out of sight.
  THE ENGINE, FZ: a slot whose rows nobody will write any more.
  THE ENGINE, VC: sparse frames; code carried out as far as the data settle it; both forms of walk (m = true: Tri, m = false: Ex).
  THE ENGINE, VD: what stands between the stretches of VC: loops, ways that meet, regions that draw, functions' beginnings and ends.
  THE ENGINE, RN: a contract at a small store holds at every store that has the small one's blocks under other keys.
  THE ENGINE, SW: two blocks of a call's own change keys; the values of a map are frozen.
  THE ENGINE, FC: the rows that a struct's cells name are frozen.
  THE ENGINE, VF: what may be made of a state without a step: rows frozen, nil slices taken for empty rows, keys changed.
  THE ENGINE, GS: the facts for carrying code out, in the library's own simp set.
  THE ENGINE, AD: a block that a call has made is taken into the store.
  THE ENGINE, RP: live rows whose cells a call of the library's has turned.
-/
import Derived.Test.YtnfeacnbgbggfaaGreatDoorE6
set_option linter.all false
section
namespace Go.Eng
variable [aH]
section
variable {P : Program} {tt : Table} {ρ : Option Nat} {n0 : Nat} {st : St} {Q : Exit → St → Prop}
theorem SP (h : Q .ret st) : eL P ρ n0 .ret st Q := jo h
def w5 (P : Program) (f : FuncId) (vs : List V) (st : St) (dst : Option Tmp) (Q : St → Prop) : Prop :=
  ∃ R, fi P f vs st.mem R ∧ ∀ v m', R v m' → Q ({ st with mem := m' }.put dst v)
theorem BF {R : V → List aw → Prop} {f : FuncId} {vs : List V} {dst : Option Tmp} {Q : St → Prop} (hr : fi P f vs st.mem R) (h : ∀ v m', R v m' → Q ({ st with mem := m' }.put dst v)) : w5 P f vs st dst Q := ⟨R, hr, h⟩
def BG (P : Program) (f : FuncId) (vs : List V) (st : St) (dst : Option Tmp) (Q : St → Prop) : Prop := vu P f vs st dst Q ∨ w5 P f vs st dst Q
def hZ (P : Program) (tt : Table) (key : Nat) (o : Oper) (st : St) (Q : St → Prop) : Prop :=
  match o.op with
  | .call c => match c.callee with
    | .value f => match aX (st.eval f) (c.args.toList.map st.eval) with
      | some (g, vs) => BG P g vs st o.dst Q
      | none => False
    | .builtin .append => match c.args.toList.map st.eval with
      | [s, x] => match dv tt st.mem c.argTypes.toList s x with
        | some (size, nt, rows) => Q ({ st with mem := (cu st.mem key size rows nt).1 }.put o.dst (cu st.mem key size rows nt).2)
        | none => oI tt st c.argTypes.toList s x o.dst Q
      | _ => False
    | _ => eo P tt key o st Q
  | _ => eo P tt key o st Q
@[congr] theorem KO {key GH : Nat} {o : Oper} {st st' : St} {Q : St → Prop} (hk : key = GH) (h : st = st') : hZ P tt key o st Q = hZ P tt GH o st' Q := by rw [hk, h]
theorem EY {key : Nat} {o : Oper} {K : St → Prop} (h : hZ P tt key o st K) : aS P tt key o st K := by
  have zb : eo P tt key o st K → aS P tt key o st K := fun h => by
    obtain ⟨s, h1, h2⟩ := Ho h
    exact h2 K h1
  obtain ⟨dst, op, type, pos, after, guard⟩ := o
  cases op
  case call c =>
    obtain ⟨callee, args, UT⟩ := c
    cases callee
    case value f =>
      simp only [hZ] at h
      split at h
      · rename_i g vs hg
        rcases h with h | ⟨R, h1, h2⟩
        · refine zb ?_
          simp only [eo,hg]
          exact h
        · simp only [aS]
          split
          · rename_i k hy; rw [hy] at hg; simp [aX] at hg
          · rw [hg]; exact .inr (.inr (.inl ⟨R, h1, h2⟩))
      · exact h.elim
    case builtin b =>
      cases b
      case append =>
        simp only [hZ] at h
        simp only [aS]
        split at h
        · rename_i s x Da
          rw [Da]
          split at h
          · rename_i size nt rows ha
            simp only [ha]; exact h
          · rename_i ha
            simp only [ha]; exact h
        · exact h.elim
      all_goals exact zb h
    all_goals exact zb h
  all_goals exact zb h
def ic (P : Program) (tt : Table) (gl : List (Nat × Nat)) (all : Array Oper) : List Oper → St → (St → Prop) → Prop
  | [], st, Q => Q st
  | o :: r, st, Q => match mC gl all st.fr o with
    | some true => hZ P tt st.mem.length o st fun st' => ic P tt gl all r st' Q
    | some false => ic P tt gl all r (st.put o.dst (.sc undef)) Q
    | none => False
@[congr] theorem Nf {gl : List (Nat × Nat)} {all : Array Oper} {l l' : List Oper} {st st' : St} {Q : St → Prop} (hl : l = l') (h : st = st') : ic P tt gl all l st Q = ic P tt gl all l' st' Q := by rw [hl, h]
theorem tc {ts : List TypeId} {s x : V} {dst : Option Tmp} {A B : St → Prop} (h : oI tt st ts s x dst A) (iE : ∀ s, A s → B s) : oI tt st ts s x dst B := by
  unfold oI at h ⊢
  split at h
  · exact fun o rs' h1 h2 => iE _ (h o rs' h1 h2)
  · exact h
theorem BH {key : Nat} {o : Oper} {A B : St → Prop} (h : eo P tt key o st A) (iE : ∀ s, A s → B s) : eo P tt key o st B := by
  obtain ⟨dst, op, type, pos, after, guard⟩ := o
  cases op
  case call c =>
    obtain ⟨callee, args, UT⟩ := c
    cases callee
    case value f =>
      simp only [eo] at h ⊢
      split at h
      · rename_i g vs hg
        unfold vu at h ⊢
        split at h
        · rename_i vs' hp
          obtain ⟨v, ⟨h1, h2⟩ | ⟨h1, h2⟩ | ⟨m', h1, h2⟩⟩ := h
          · exact ⟨v, .inl ⟨h1, iE _ h2⟩⟩
          · exact ⟨v, .inr (.inl ⟨h1, iE _ h2⟩)⟩
          · exact ⟨v, .inr (.inr ⟨m', h1, iE _ h2⟩)⟩
        · obtain ⟨v, m', h1, h2⟩ := h
          exact ⟨v, m', h1, iE _ h2⟩
      · exact h.elim
    case builtin b =>
      cases b
      all_goals first
        | exact h.elim
        | (simp only [eo] at h ⊢
           split at h
           · first
             | exact iE _ h
             | (split at h
                · exact iE _ h
                · exact h.elim)
           · exact h.elim)
    all_goals exact h.elim
  case makeMap T l =>
    cases l with
    | none => exact iE _ h
    | some l => exact h.elim
  case binOp =>
    simp only [eo] at h ⊢
    split at h
    · exact h.elim
    · split at h
      · exact iE _ h
      · exact h.elim
  all_goals first
    | exact h.elim
    | (simp only [eo] at h ⊢
       split at h
       · exact iE _ h
       · exact h.elim)
theorem zd {key : Nat} {o : Oper} {A B : St → Prop} (h : hZ P tt key o st A) (iE : ∀ s, A s → B s) : hZ P tt key o st B := by
  have zb : eo P tt key o st A → eo P tt key o st B := fun h => BH h iE
  obtain ⟨dst, op, type, pos, after, guard⟩ := o
  cases op
  case call c =>
    obtain ⟨callee, args, UT⟩ := c
    cases callee
    case value f =>
      simp only [hZ] at h ⊢
      split at h
      · rename_i g vs hg
        rcases h with h | ⟨R, h1, h2⟩
        · refine .inl ?_
          unfold vu at h ⊢
          split at h
          · rename_i vs' hp
            obtain ⟨v, ⟨h1, h2⟩ | ⟨h1, h2⟩ | ⟨m', h1, h2⟩⟩ := h
            · exact ⟨v, .inl ⟨h1, iE _ h2⟩⟩
            · exact ⟨v, .inr (.inl ⟨h1, iE _ h2⟩)⟩
            · exact ⟨v, .inr (.inr ⟨m', h1, iE _ h2⟩)⟩
          · obtain ⟨v, m', h1, h2⟩ := h
            exact ⟨v, m', h1, iE _ h2⟩
        · exact .inr ⟨R, h1, fun v m' h => iE _ (h2 v m' h)⟩
      · exact h.elim
    case builtin b =>
      cases b
      case append =>
        simp only [hZ] at h ⊢
        split at h
        · rename_i s x Da
          split at h
          · exact iE _ h
          · exact tc h iE
        · exact h.elim
      all_goals exact zb h
    all_goals exact zb h
  all_goals exact zb h
theorem td {gl : List (Nat × Nat)} {all : Array Oper} {K : St → Prop} : ∀ (l : List Oper) (st : St), ic P tt gl all l st K → gG P tt gl all l st K
  | [], st, h => by rw [gG]; exact h
  | o :: r, st, h => by
    rw [ic] at h
    rw [gG]
    split at h
    · rename_i hw
      rw [hw]
      exact EY (zd h fun s hs => td r s hs)
    · rename_i hw
      rw [hw]
      exact td r _ h
    · exact h.elim
theorem rb {gl : List (Nat × Nat)} {all : Array Oper} {K : St → Prop} : ∀ (k : Nat) (l : List Oper) (st : St), ic P tt gl all (l.take k) st (fun s => ic P tt gl all (l.drop k) s K) = ic P tt gl all l st K
  | 0, l, st => rfl
  | k + 1, [], st => rfl
  | k + 1, o :: r, st => by
    have ih := fun s => rb (gl := gl) (all := all) (K := K) k r s
    simp only [List.take_succ_cons,List.drop_succ_cons,ic,ih]
theorem EZ {gl : List (Nat × Nat)} {all : Array Oper} (k : Nat) {l : List Oper} {st : St} {K : St → Prop}
    (h : ∀ K1 : St → Prop, (∀ s, ic P tt gl all (l.drop k) s K → K1 s) → ic P tt gl all (l.take k) st K1) : ic P tt gl all l st K := by
  rw [← rb k]
  exact h _ fun _ h => h
theorem iN (ht : TT P tt) (n : Nat) (cs : List Nat) (gl : List (Nat × Nat)) {l : List V} {mem : List aw} (hn : l.length = n) {id : Nat} {ops : Array Oper} {y : Code} (hg : SK ops gl = true)
    (h : ∀ K : St → Prop, (∀ ws aE, vt cs ws = true → eL P ρ n0 y { fr := rY ws 0 cs l, mem := aE } Q → K { fr := wr n l ws, mem := aE }) → ic P tt gl ops ops.toList { fr := wr n l [], mem := mem } K) :
    eL P ρ n0 (.seq (.region id ops false) y) { fr := l, mem := mem } Q := qf ht n cs gl hn hg fun K hK => td _ _ (h K hK)
attribute [irreducible] ic

end
theorem Wv {P : Program} {tt : Table} (ht : TT P tt) {r : V} {f : FuncId} {fn : Func} {body : Code} {args : List V} (hf : P.funcs[f]? = some fn) (hb : fn.body = some body)
    (dj : ∀ (xs : Array Value) (w : World), (callFunc f xs).run P w = .ok (.enter f xs) w)
    (h : eL P none 0 body (di fn args []) fun ex st' => (ex = .ret ∨ ex = .normal) ∧ jO tt fn.results st' = some r) : aO P f args r := yE ht hf hb dj h
end Go.Eng
end

section
namespace Go.Eng
variable [aH]
inductive Tk where
 | a
 | b
def tk : Tk := .b
theorem SQ {α : Type} {a b : α} (h : a = b) : a = b := h
theorem fo {a b : Prop} (h : a = b) : a = b := h
def bq {α : Type} (_ : Tk) (o : Option α) (K : α → Prop) : Prop := match o with
 | some v => K v
 | none => False
theorem OW {α : Type} {k : Tk} {o : Option α} {K : α → Prop} : bq k o K = match o with | some v => K v | none => False := fo rfl
theorem fK {α : Type} {k : Tk} {o : Option α} {K : α → Prop} : bq k o K ↔ ∃ v, o = some v ∧ K v := by
 cases o with
 | none => exact ⟨fun h => h.elim, fun ⟨_, h, _⟩ => by cases h⟩
 | some v => exact ⟨fun h => ⟨v, rfl, h⟩, fun ⟨_, e, h⟩ => by cases e; exact h⟩
def nq {α : Type} (_ : Tk) (o : Option α) (A : α → Prop) (B : Prop) : Prop := match o with
 | some v => A v
 | none => B
theorem OX {α : Type} {k : Tk} {o : Option α} {A : α → Prop} {B : Prop} : nq k o A B = match o with | some v => A v | none => B := fo rfl
theorem oZ {α : Type} {k : Tk} {v : α} {A : α → Prop} {B : Prop} : nq k (some v) A B = A v := rfl
theorem o3 {α : Type} {k : Tk} {A : α → Prop} {B : Prop} : nq k none A B = B := rfl
section
variable {m : Bool} {P : Program} {tt : Table} {st : St} {Q : St → Prop}
def o4 (_ : Tk) (m : Bool) (P : Program) (f : FuncId) (vs : List V) (o : Option (List V)) (keys : List (Nat × Nat)) (st : St) (dst : Option Tmp) (Q : St → Prop) : Prop :=
 (∃ vs' r, o = some vs' ∧ aO P f vs' r ∧ Q ({ st with mem := cp st.mem keys r }.put dst r)) ∨
 (∃ r aE, aR P f vs st.mem r aE ∧ Q ({ st with mem := aE }.put dst r)) ∨
 (m = true ∧ ∃ R, fi P f vs st.mem R ∧ ∀ r aE, R r aE → Q ({ st with mem := aE }.put dst r)) ∨
 (∃ r, sI P f vs r ∧ Q (st.put dst r))
def SR (_ : Tk) (m : Bool) (P : Program) (k : Nat) (vs : List V) (st : St) (dst : Option Tmp) (Q : St → Prop) : Prop :=
 (∃ b aE, Q4 P k vs st.mem b aE ∧ Q ({ st with mem := aE }.put dst (.sc (.bool b)))) ∨
 (m = true ∧ ∃ R, EC P k vs st.mem R ∧ ∀ b aE, R b aE → Q ({ st with mem := aE }.put dst (.sc (.bool b))))
def SS (_ : Tk) (m : Bool) (r : Option (Nat × Nat × Nat × Nat × List V × List V)) (st : St) (dst : Option Tmp) (Q : St → Prop) : Prop := m = true ∧ match r with
 | some (size, b, v, l, rs, xs) => ∀ (o : Nat) (rs' : List V), rs'.drop o = rs ++ xs → o + (l + xs.length) = rs'.length → Q ({ st with mem := st.mem.set b (.rows (v + 1) size rs') }.put dst (.ms b (v + 1) o (l + xs.length)))
 | none => False
theorem Ww {k : Tk} {st : St} {size b v l : Nat} {rs xs : List V} {dst : Option Tmp} {Q : St → Prop} (h : ∀ (o : Nat) (rs' : List V), rs'.drop o = rs ++ xs → o + (l + xs.length) = rs'.length → Q ({ st with mem := st.mem.set b (.rows (v + 1) size rs') }.put dst (.ms b (v + 1) o (l + xs.length)))) : SS k true (some (size, b, v, l, rs, xs)) st dst Q := ⟨rfl, h⟩
def Yj (_ : Tk) (m : Bool) (st : St) (dst : Option Tmp) (it : V) (str : Bool) (Q : St → Prop) : Prop := m = true ∧ nw st dst it str Q
def Wx (_ : Tk) (m : Bool) (n : Nat) (op : BinOp) (st : St) (dst : Option Tmp) (Q : St → Prop) : Prop :=
 m = true ∧ ∀ b : Bool, (n ≠ 0 → b = false) → Q (st.put dst (.sc (.bool (kA op b))))
def KP (tt : Table) (T : TypeId) (len : Nat) (parts : List (Nat × Operand)) (st : St) (key : Nat) : Option (List aw) :=
 match pM tt T len parts st.eval with
 | some (size, rs) => some (ba st.mem key (.rows 0 size rs))
 | none => match nL tt T len parts st with
  | some (size, rs) => some (ba (bS st.mem (ff st.eval parts)) key (.rows 0 size rs))
  | none => none
def w6 (tt : Table) (mem : List aw) (T : TypeId) (p x : V) : Option (List aw) :=
 match gY tt mem T p x with
 | some m => some m
 | none => wL tt mem T p x
def iO (m : Bool) (P : Program) (tt : Table) (key : Nat) (o : Oper) (st : St) (Q : St → Prop) : Prop :=
 match o.op with
 | .alloc T => bq tk (tt T) fun i => Q ({ st with mem := ba st.mem key (.box (i.zero.map V.sc)) }.put o.dst (.ptr key 0))
 | .box _ x => bq tk (fF (st.eval x)) fun cs => Q ({ st with mem := ba st.mem key (.box cs) }.put o.dst (.ptr key 0))
 | .build T parts => bq tk (gZ P tt T parts.toList st.eval) fun v => Q (st.put o.dst v)
 | .buildSlice T len parts => bq tk (KP tt T len parts.toList st key) fun mem => Q ({ st with mem := mem }.put o.dst (.ms key 0 0 len))
 | .store T p x => bq tk (w6 tt st.mem T (st.eval p) (st.eval x)) fun mem => Q ({ st with mem := mem }.put o.dst (.sc undef))
 | .call { callee := .builtin .append, args := xs, argTypes := ts } => match xs.toList.map st.eval with
  | [s, x] => nq tk (dv tt st.mem ts.toList s x) (fun p => Q ({ st with mem := (cu st.mem key p.1 p.2.2 p.2.1).1 }.put o.dst (cu st.mem key p.1 p.2.2 p.2.1).2)) (SS tk m (jm tt st.mem ts.toList s x) st o.dst Q)
  | _ => False
 | .call { callee := .value f, args := xs, .. } => match st.eval f with
  | .im k => SR tk m P k (xs.toList.map st.eval) st o.dst Q
  | fv => bq tk (aX fv (xs.toList.map st.eval)) fun p => o4 tk m P p.1 p.2 (cy st.mem p.2) (p.2.flatMap cn) st o.dst Q
 | .makeSlice T l c => bq tk (qN tt T (st.eval l) (st.eval c)) fun p => Q ({ st with mem := ba st.mem key (.rows 0 p.1 p.2.1) }.put o.dst (.ms key 0 0 p.2.1.length))
 | .makeMap _ none => Q ({ st with mem := ba st.mem key (.map [] 0) }.put o.dst (.mp key))
 | .mapUpdate T d k x => bq tk (ch P st.mem T (st.eval d) (st.eval k) (st.eval x)) fun mem => Q ({ st with mem := mem }.put o.dst (.sc undef))
 | .insert T d k x => bq tk (ch P st.mem T (st.eval d) (st.eval k) (st.eval x)) fun mem => Q ({ st with mem := mem }.put o.dst (.sc undef))
 | .mapEntry T d k => bq tk (pP P st.mem T (st.eval d) (st.eval k)) fun p => Q ({ st with mem := p.1 }.put o.dst p.2)
 | .entryStore _ d s x => bq tk (pQ st.mem (st.eval d) (st.eval s) (st.eval x)) fun mem => Q ({ st with mem := mem }.put o.dst (.sc undef))
 | .call { callee := .builtin .delete, args := xs, argTypes := ts } => bq tk (mu P st.mem ts (xs.toList.map st.eval)) fun mem => Q ({ st with mem := mem }.put o.dst (.sc (.tuple #[])))
 | .range T x => bq tk (iH P st.mem T (st.eval x)) fun B => Q ({ st with mem := ba st.mem key B }.put o.dst (.ptr key 0))
 | .next it str => Yj tk m st o.dst (st.eval it) str Q
 | .binOp op T x y _ => nq tk (jC tt op T (st.eval x) (st.eval y)) (fun n => Wx tk m n op st o.dst Q) (bq tk (fO P tt st o) fun v => Q (st.put o.dst v))
 | _ => bq tk (fO P tt st o) fun v => Q (st.put o.dst v)
theorem mE {α : Type} {k : Tk} {o : Option α} {A B : α → Prop} (h : bq k o A) (iE : ∀ v, A v → B v) : bq k o B := by
 cases o with
 | none => exact h
 | some v => exact iE v h
theorem BI {dst : Option Tmp} {it : V} {str : Bool} {A B : St → Prop} (h : nw st dst it str A) (iE : ∀ s, A s → B s) : nw st dst it str B := by
 unfold nw at h ⊢
 split at h
 ·split at h
  ·split at h
   ·exact ⟨h.1, h.2.1, fun e => iE _ (h.2.2.1 e), fun e he => iE _ (h.2.2.2 e he)⟩
   ·exact h
  ·refine ⟨h.1, ?_⟩
   have := h.2
   split at this
   ·rename_i hp; rw [if_pos hp]; exact iE _ this
   ·rename_i hp; rw [if_neg hp]; exact iE _ this
  ·exact ⟨h.1, iE _ h.2⟩
  ·exact h
 ·exact h
theorem BJ {key : Nat} {o : Oper} {A B : St → Prop} (h : iO m P tt key o st A) (iE : ∀ s, A s → B s) : iO m P tt key o st B := by
 have app : ∀ {ts : List TypeId} {s x : V}, nq tk (dv tt st.mem ts s x) (fun p => A ({ st with mem := (cu st.mem key p.1 p.2.2 p.2.1).1 }.put o.dst (cu st.mem key p.1 p.2.2 p.2.1).2)) (SS tk m (jm tt st.mem ts s x) st o.dst A) →
   nq tk (dv tt st.mem ts s x) (fun p => B ({ st with mem := (cu st.mem key p.1 p.2.2 p.2.1).1 }.put o.dst (cu st.mem key p.1 p.2.2 p.2.1).2)) (SS tk m (jm tt st.mem ts s x) st o.dst B) := fun {ts s x} h => by
  cases ha : dv tt st.mem ts s x with
  | some p => rw [ha, oZ] at h; exact iE _ h
  | none => rw [ha, o3] at h; exact ⟨h.1, tc (show oI tt st ts s x o.dst A from h.2) iE⟩
 have cv : ∀ {f : FuncId} {vs : List V} {p : Option (List V)} {keys : List (Nat × Nat)}, o4 tk m P f vs p keys st o.dst A → o4 tk m P f vs p keys st o.dst B := fun h => by
  rcases h with ⟨vs', r, h1, h2, h3⟩ | ⟨r, m', h1, h2⟩ | ⟨hm, R, h1, h2⟩ | ⟨r, h1, h2⟩
  ·exact .inl ⟨vs', r, h1, h2, iE _ h3⟩
  ·exact .inr (.inl ⟨r, m', h1, iE _ h2⟩)
  ·exact .inr (.inr (.inl ⟨hm, R, h1, fun r m' h => iE _ (h2 r m' h)⟩))
  ·exact .inr (.inr (.inr ⟨r, h1, iE _ h2⟩))
 obtain ⟨dst, op, type, pos, after, guard⟩ := o
 cases op
 case call c =>
  obtain ⟨callee, args, UT⟩ := c
  cases callee
  case value f =>
   simp only [iO] at h ⊢
   split at h
   ·rcases h with ⟨b, m', h1, h2⟩ | ⟨hm, R, h1, h2⟩
    ·exact .inl ⟨b, m', h1, iE _ h2⟩
    ·exact .inr ⟨hm, R, h1, fun b m' h => iE _ (h2 b m' h)⟩
   ·exact mE h fun v hv => cv hv
  case builtin b =>
   cases b
   case append =>
    simp only [iO] at h ⊢
    split at h
    ·exact app h
    ·exact h
   all_goals (simp only [iO] at h ⊢; exact mE h fun v hv => iE _ hv)
  all_goals (simp only [iO] at h ⊢; exact mE h fun v hv => iE _ hv)
 case makeMap T l =>
  cases l with
  | none => exact iE _ h
  | some l => simp only [iO] at h ⊢; exact mE h fun v hv => iE _ hv
 case next it str => exact ⟨h.1, BI h.2 iE⟩
 case binOp op T x y yt =>
  simp only [iO] at h ⊢
  cases hn : jC tt op T (st.eval x) (st.eval y) with
  | some n =>
   rw [hn, oZ] at h
   exact ⟨h.1, fun b hb => iE _ (h.2 b hb)⟩
  | none => rw [hn, o3] at h; exact mE h fun v hv => iE _ hv
 all_goals (simp only [iO] at h ⊢; exact mE h fun v hv => iE _ hv)
def Ng (m : Bool) (P : Program) (tt : Table) (key : Nat) (o : Oper) (st : St) (Q : St → Prop) : Prop := match m with
 | true => aS P tt key o st Q
 | false => ∃ s, Q s ∧ ∀ K : St → Prop, K s → aS P tt key o st K
theorem eP {key : Nat} {o : Oper} (s : St) (h : Q s) (hk : ∀ K : St → Prop, K s → aS P tt key o st K) : Ng m P tt key o st Q := by
 cases m
 ·exact ⟨s, h, hk⟩
 ·exact hk Q h
theorem Hr {f : FuncId} {vs : List V} {dst : Option Tmp} {k : Tk} (h : o4 k m P f vs (cy st.mem vs) (vs.flatMap cn) st dst Q) : (m = true ∧ ve P f vs st dst Q) ∨ ∃ s, Q s ∧ ∀ K : St → Prop, K s → ve P f vs st dst K := by
 rcases h with ⟨vs', r, h1, h2, h3⟩ | ⟨r, m', h1, h2⟩ | ⟨hm, R, h1, h2⟩ | ⟨r, h1, h2⟩
 ·exact .inr ⟨_, h3, fun K hK => .inl ⟨vs', r, h1, h2, hK⟩⟩
 ·exact .inr ⟨_, h2, fun K hK => .inr (.inl ⟨r, m', h1, hK⟩)⟩
 ·exact .inl ⟨hm, .inr (.inr (.inl ⟨R, h1, h2⟩))⟩
 ·exact .inr ⟨_, h2, fun K hK => .inr (.inr (.inr ⟨r, h1, hK⟩))⟩
theorem Hs {key : Nat} {o : Oper} (h : iO m P tt key o st Q) : Ng m P tt key o st Q := by
 unfold iO at h
 split at h
 all_goals try (rename_i kl; simp only [fK] at h; obtain ⟨v, h1, h2⟩ := h; refine eP _ h2 fun K hK => ?_; unfold aS; rw [kl]; dsimp only; rw [h1]; exact hK)
 ·rename_i kl
  simp only [fK] at h
  obtain ⟨mem, h1, h2⟩ := h
  refine eP _ h2 fun K hK => ?_
  unfold aS; rw [kl]; dsimp only
  unfold KP at h1
  split at h1
  ·rename_i hl; cases h1; rw [hl]; exact hK
  ·rename_i hl
   rw [hl]
   split at h1
   ·rename_i hl; cases h1; dsimp only; rw [hl]; exact hK
   ·cases h1
 ·rename_i kl
  simp only [fK] at h
  obtain ⟨mem, h1, h2⟩ := h
  refine eP _ h2 fun K hK => ?_
  unfold aS; rw [kl]; dsimp only
  unfold w6 at h1
  split at h1
  ·rename_i hl; cases h1; rw [hl]; exact hK
  ·rename_i hl; rw [hl]; dsimp only; rw [h1]; exact hK
 ·rename_i kl
  split at h
  ·rename_i s x Da
   cases ha : dv tt st.mem _ s x with
   | some p =>
    rw [ha, oZ] at h
    refine eP _ h fun K hK => ?_
    unfold aS; rw [kl]; dsimp only; rw [Da]; dsimp only; rw [ha]; exact hK
   | none =>
    rw [ha, o3] at h
    obtain ⟨rfl, h⟩ := h
    show aS P tt key o st Q
    unfold aS; rw [kl]; dsimp only; rw [Da]; dsimp only; rw [ha]; exact h
  ·exact h.elim
 ·rename_i kl
  split at h
  ·rename_i k hk
   rcases h with ⟨b, m', h1, h2⟩ | ⟨rfl, R, h1, h2⟩
   ·refine eP _ h2 fun K hK => ?_
    unfold aS; rw [kl]; dsimp only; rw [hk]; exact .inl ⟨b, m', h1, hK⟩
   ·show aS P tt key o st Q
    unfold aS; rw [kl]; dsimp only; rw [hk]; exact .inr ⟨R, h1, h2⟩
  ·rename_i hk
   simp only [fK] at h
   obtain ⟨⟨g, vs⟩, h1, h2⟩ := h
   have SU : ∀ K : St → Prop, ve P g vs st o.dst K → aS P tt key o st K := fun K hK => by
    unfold aS; rw [kl]; dsimp only
    split
    ·rename_i k hy; exact (hk k hy).elim
    ·rw [h1]; exact hK
   rcases Hr h2 with ⟨rfl, h3⟩ | ⟨s, h3, h4⟩
   ·exact SU Q h3
   ·exact eP s h3 fun K hK => SU K (h4 K hK)
 ·rename_i kl
  exact eP _ h fun K hK => by unfold aS; rw [kl]; exact hK
 ·rename_i kl
  obtain ⟨rfl, h⟩ := h
  show aS P tt key o st Q
  unfold aS; rw [kl]; exact h
 ·rename_i op T x y yt kl
  cases hn : jC tt op T (st.eval x) (st.eval y) with
  | some n =>
   rw [hn, oZ] at h
   obtain ⟨rfl, h⟩ := h
   show aS P tt key o st Q
   unfold aS; rw [kl]; dsimp only; rw [hn]; exact h
  | none =>
   rw [hn, o3, fK] at h
   obtain ⟨v, h1, h2⟩ := h
   exact eP _ h2 fun K hK => by unfold aS; rw [kl]; dsimp only; rw [hn]; dsimp only; rw [h1]; exact hK
 ·rw [fK] at h
  obtain ⟨v, h1, h2⟩ := h
  refine eP _ h2 fun K hK => ?_
  unfold aS
  split
  all_goals first
   | (rw [h1]; exact hK)
   | (exfalso; solve_by_elim)
end
end Go.Eng
end

section
namespace Go.Eng
variable [aH]
section
variable {P : Program} {ρ : Option Nat} {n0 : Nat} {c : Code} {st : St} {Q : Exit → St → Prop}
theorem Du {v v' : V} (t : Nat) (h0 : st.fr[t]? = some v) (hp : dO st.mem v = some v') (h : eL P ρ n0 c { fr := st.fr.set t v', mem := bS st.mem (cn v) } Q) : eL P ρ n0 c st Q := fun E0 w0 JO E w a he hs uK => by
 obtain ⟨E', h1, h2, h3⟩ := hs.freeze (vs := [v]) (vs' := [v']) (by simp only [cy,hp])
 obtain ⟨x, hx, hr⟩ := hs.fr.get h0
 have uu := (h3 [x] (aP.cons hr (.nil _))).2 0 v' x rfl rfl
 have e1 : [v].flatMap cn = cn v := by simp
 rw [e1] at h1
 have e2 : a.tmps.toList.set t x = a.tmps.toList := by
  apply List.ext_getElem?
  intro i
  rw [List.getElem?_set]
  split
  ·rename_i hi; subst hi
   rw [if_pos (List.getElem?_eq_some_iff.1 hx).1, hx]
  ·rfl
 have h4 : aP E' (st.fr.set t v') a.tmps.toList := by
  have := (aP.set (n := t) h1.fr uu)
  rwa [e2] at this
 exact h E0 w0 JO E' w a (he.trans h2) ⟨h1.F, h1.lt, h1.mem, h1.top, h1.aC, h1.apart, h4⟩ (uK.Gb h2)
theorem OY {v v' : V} (t : Nat) (h0 : st.fr[t]? = some v) (hp : dO st.mem v = some v') (h : Ex P ρ n0 c { fr := st.fr.set t v', mem := bS st.mem (cn v) } Q) : Ex P ρ n0 c st Q := by
 obtain ⟨e, s2, hq, h2⟩ := h
 exact ⟨e, s2, hq, fun Q' h' => Du t h0 hp (h2 Q' h')⟩
theorem eY {α : Type} {l : List α} {t : Nat} {x : α} (h : l[t]? = some x) : l.set t x = l := by
 apply List.ext_getElem?
 intro i
 rw [List.getElem?_set]
 split
 ·rename_i hi; subst hi
  rw [if_pos (List.getElem?_eq_some_iff.1 h).1, h]
 ·rfl
theorem bc.OZ {E : Env} {w : World} {a : Act} (hs : bc E w a st) {k j : Nat} {cs : List V} (hk : st.mem[k]? = some (.box cs)) (hj : cs[j]? = some (.sc (.slice none 0 0))) (b v : Nat) : bc E w a { st with mem := st.mem.set k (.box (cs.set j (.ms b v 0 0))) } := by
 have aD := (List.getElem?_eq_some_iff.1 hk).1
 refine ⟨hs.F, hs.lt, fun k' B hB => ?_, fun k' eS => hs.top k' (by simpa using eS), fun k' B hB v hv => ?_, hs.apart, hs.fr⟩
 ·rw [List.getElem?_set] at hB
  split at hB
  ·rename_i he; subst he
   cases hB
   obtain ⟨g, T, xs, hb, hh, hr, hf⟩ := hs.mem k _ hk
   refine ⟨g, T, xs, hb, hh, ?_, hf⟩
   obtain ⟨x, hx, ZQ⟩ := hr.get hj
   have ZR := bR ZQ
   subst ZR
   have := aP.set (n := j) hr (aW.cZ E b v 0)
   rwa [eY hx] at this
  ·exact hs.mem k' B hB
 ·rw [List.getElem?_set] at hB
  split at hB
  ·rename_i he; subst he
   cases hB
   exact hs.aC k _ hk v hv
  ·exact hs.aC k' B hB v hv
end
end Go.Eng
end

section
namespace Go.Eng
variable [aH]
def lk (t : Nat) : List (Nat × V) → V
 | [] => .undef
 | p :: ws => if p.1 = t then p.2 else lk t ws
def W (n : Nat) (ws : List (Nat × V)) : List V := (List.range n).map fun i => lk i ws
theorem ny (n : Nat) (ws : List (Nat × V)) (t : Nat) : (W n ws)[t]? = if t < n then some (lk t ws) else none := by
 unfold W
 rw [List.getElem?_map]
 by_cases h : t < n
 ·rw [if_pos h, List.getElem?_range h]; rfl
 ·rw [if_neg h, List.getElem?_eq_none (by simp; omega)]; rfl
theorem O0 (n : Nat) (ws : List (Nat × V)) (t : Nat) : (W n ws).getD t .undef = if t < n then lk t ws else .undef := by
 rw [List.getD_eq_getElem?_getD, ny]; split <;> rfl
theorem jT (n : Nat) (ws : List (Nat × V)) : (W n ws).length = n := by simp [W]
theorem Dv (n : Nat) (ws : List (Nat × V)) (d : Nat) (v : V) : (W n ws).set d v = W n ((d, v) :: ws) := by
 apply List.ext_getElem?
 intro i
 rw [List.getElem?_set, ny, ny, jT]
 simp only [lk]
 by_cases h : d = i
 ·subst h; simp
 ·simp [h]
def lg (jU : List (Nat × V)) : List (Nat × V) → Prop
 | [] => True
 | p :: r => lk p.1 jU = p.2 ∧ lg jU r
theorem Dw {jU : List (Nat × V)} : ∀ {ws : List (Nat × V)}, lg jU ws → ∀ i, lk i ws = .undef ∨ lk i ws = lk i jU
 | [], _, i => .inl rfl
 | p :: r, h, i => by
  simp only [lk]
  by_cases e : p.1 = i
  ·subst e; rw [if_pos rfl]; exact .inr h.1.symm
  ·rw [if_neg e]; exact Dw h.2 i
theorem KQ {E : Env} {n : Nat} {jU ws : List (Nat × V)} (h : lg jU ws) {xs : List Value} (hr : aP E (W n jU) xs) : aP E (W n ws) xs := by
 refine ⟨by rw [← hr.1, jT, jT], fun i v x hv hx => ?_⟩
 rw [ny] at hv
 split at hv
 ·rename_i hi
  cases hv
  rcases Dw h i with e | e
  ·rw [e]; exact .undef _ _
  ·rw [e]; exact hr.2 i _ x (by rw [ny, if_pos hi]) hx
 ·cases hv
def Gd (k : Nat) (ws : List (Nat × V)) : Bool := ws.all fun p => ai k p.2
theorem Ht {k n : Nat} {ws : List (Nat × V)} (h : Gd k ws = true) : (W n ws).all (ai k) = true := by
 rw [List.all_eq_true]
 intro v hv
 unfold W at hv
 obtain ⟨i, -, rfl⟩ := List.mem_map.1 hv
 clear hv
 induction ws with
 | nil => rfl
 | cons p r ih =>
  unfold Gd at h ih
  rw [List.all_cons, Bool.and_eq_true] at h
  simp only [lk]
  split
  ·exact h.1
  ·exact ih h.2

def X (_ : Tk) (m : Bool) (P : Program) (ρ : Option Nat) (n0 : Nat) (c : Code) (st : St) (Q : Exit → St → Prop) : Prop := match m with
 | true => eL P ρ n0 c st Q
 | false => Ex P ρ n0 c st Q
section
variable {k_ : Tk} {m : Bool} {P : Program} {tt : Table} {sp : List Nat} {ρ : Option Nat} {n0 : Nat} {st : St} {Q : Exit → St → Prop} {n : Nat} {ws jU : List (Nat × V)} {mem fU : List aw}
theorem X.mono {c : Code} {Q2 : Exit → St → Prop} (h : X k_ m P ρ n0 c st Q) (hq : ∀ e s, Q e s → Q2 e s) : X k_ m P ρ n0 c st Q2 := by
 cases m
 ·exact Ex.mono h hq
 ·exact eL.mono h hq
theorem vw {x y : Code} (h : X k_ m P ρ n0 x st (dI (fun st' => X k_ m P ρ n0 y st' Q) Q)) : X k_ m P ρ n0 (.seq x y) st Q := by
 cases m
 ·exact Hm h
 ·exact fI h
theorem KR {id : Nat} {c : Code} (h : X k_ m P ρ n0 c st (eC id Q)) : X k_ m P ρ n0 (.block id c) st Q := by
 cases m
 ·exact Hn h
 ·exact gf h
theorem te {c : Code} {st' : St} (hw : ∀ E w a, bc E w a st → bc E w a st') (h : X k_ m P ρ n0 c st' Q) : X k_ m P ρ n0 c st Q := by
 cases m
 ·obtain ⟨e, s, hq, h⟩ := h
  exact ⟨e, s, hq, fun Q' h' => lK hw (h Q' h')⟩
 ·exact lK hw h
theorem O1 {c : Code} (k : Nat) (hn : n0 ≤ k) (hf : st.fr.all (ai k) = true) (hm : (st.mem.take k).all (az k) = true) (h : X k_ m P ρ n0 c { st with mem := st.mem.take k } Q) : X k_ m P ρ n0 c st Q := by
 cases m
 ·obtain ⟨e, s, hq, h⟩ := h
  exact ⟨e, s, hq, fun Q' h' => sL k [] hn hf hm (h Q' h')⟩
 ·exact sL k [] hn hf hm h
def rL (n0 k n : Nat) (ws : List (Nat × V)) (mem : List aw) (st : St) : Prop :=
 ∃ jU fU, st = ⟨W n jU, fU⟩ ∧ n0 ≤ k ∧ lg jU ws ∧ Gd k ws = true ∧ mem.all (az k) = true ∧ fU.take k = mem
theorem bm {k : Nat} (h0 : n0 ≤ k) (h1 : lg jU ws ∧ Gd k ws = true ∧ mem.all (az k) = true ∧ fU.take k = mem) : rL n0 k n ws mem ⟨W n jU, fU⟩ := ⟨jU, fU, rfl, h0, h1⟩
theorem Hu {c : Code} {k : Nat} (hl : rL n0 k n ws mem st) (h : X k_ m P ρ n0 c ⟨W n ws, mem⟩ Q) : X k_ m P ρ n0 c st Q := by
 obtain ⟨jU, fU, rfl, h0, h1, h2, h3, h4⟩ := hl
 subst h4
 exact te (st' := ⟨W n ws, fU⟩) (fun E w a hs => ⟨hs.F, hs.lt, hs.mem, hs.top, hs.aC, hs.apart, KQ h1 hs.fr⟩) (O1 k h0 (Ht h2) h3 h)

def gate (_ : Tk) (b : Bool) (d : Nat) (st : St) (f : Bool → St → Prop) : Prop := ∀ b', b = b' → f b' { st with fr := st.fr.set d (.sc (.bool b')) }
theorem O2 {d : Nat} {f : Bool → St → Prop} : gate k_ true d st f = f true { st with fr := st.fr.set d (.sc (.bool true)) } := propext ⟨fun h => h _ rfl, fun h b' e => by subst e; exact h⟩
theorem O3 {d : Nat} {f : Bool → St → Prop} : gate k_ false d st f = f false { st with fr := st.fr.set d (.sc (.bool false)) } := propext ⟨fun h => h _ rfl, fun h b' e => by subst e; exact h⟩
theorem aM {b : Bool} {d : Nat} {f : Bool → St → Prop} (h1 : b = true → f true { st with fr := st.fr.set d (.sc (.bool true)) }) (h2 : b = false → f false { st with fr := st.fr.set d (.sc (.bool false)) }) : gate k_ b d st f := by
 intro b' e
 cases b' with
 | true => exact h1 e
 | false => exact h2 e
theorem Dx {b : Bool} {d : Nat} {f : Bool → St → Prop} (hd : st.fr[d]? = some (.sc (.bool b)) ∨ st.fr.getD d .undef = .sc (.bool b)) (h : gate k_ b d st f) : f b st := by
 have := h b rfl
 have e : st.fr.set d (.sc (.bool b)) = st.fr := by
  rcases hd with hd | hd
  ·exact eY hd
  ·rw [List.getD_eq_getElem?_getD] at hd
   cases hg : st.fr[d]? with
   | none => rw [hg] at hd; cases hd
   | some v => rw [hg] at hd; cases hd; exact eY hg
 rw [e] at this
 exact this
def w7 (_ : Tk) (v : Option V) (d : Nat) (want : Bool) (st : St) (yes no : St → Prop) : Prop := match v with
 | some (.sc (.bool b)) => gate tk b d st fun b s => match b == want with | true => yes s | false => no s
 | some (.sc _) => no st
 | some _ => False
 | none => no st
def re : List Oper → Nat → Option Tmp
 | [], _ => none
 | o :: _, 0 => o.dst
 | _ :: r, n + 1 => re r n
theorem KS {o : Oper} {r : List Oper} : re (o :: r) 0 = o.dst := rfl
theorem Dy {o : Oper} {r : List Oper} {n : Nat} : re (o :: r) (n + 1) = re r n := rfl
theorem ze : ∀ (l : List Oper) (j : Nat), re l j = (l[j]?).bind (·.dst)
 | [], j => by simp [re]
 | o :: r, 0 => rfl
 | o :: r, j + 1 => by rw [Dy, ze r j, List.getElem?_cons_succ]
def gd (all : List Oper) (o : Oper) (st : St) (yes no : St → Prop) : Prop := match o.guard with
 | none => yes st
 | some (j, want) => match re all j with
  | none => no st
  | some d => w7 tk st.fr[d]? d want st yes no
theorem Nh {all : Array Oper} {o : Oper} {yes no : St → Prop} (h : gd all.toList o st yes no) : (cj all st.fr o = some true ∧ yes st) ∨ (cj all st.fr o = some false ∧ no st) := by
 unfold gd at h
 unfold cj
 split at h
 ·rename_i hg; rw [hg]; exact .inl ⟨rfl, h⟩
 ·rename_i j want hg
  rw [hg]
  dsimp only
  rw [ze, Array.getElem?_toList] at h
  cases hd : (all[j]?).bind (·.dst) with
  | none => rw [hd] at h; exact .inr ⟨rfl, h⟩
  | some d =>
   rw [hd] at h
   dsimp only at h ⊢
   unfold w7 at h
   split at h
   ·rename_i b hb
    have h := Dx (.inl hb) h
    rw [hb]
    dsimp only
    cases hc : b == want with
    | true => rw [hc] at h; exact .inl ⟨rfl, h⟩
    | false => rw [hc] at h; exact .inr ⟨rfl, h⟩
   ·rename_i x hx hb
    rw [hb]
    cases x with
    | bool b => exact absurd rfl (hx b)
    | _ => exact .inr ⟨rfl, h⟩
   ·exact h.elim
   ·rename_i hb; rw [hb]; exact .inr ⟨rfl, h⟩
def nT (m : Bool) (P : Program) (tt : Table) (all : List Oper) : List Oper → St → (St → Prop) → Prop
 | [], st, Q => Q st
 | o :: r, st, Q => gd all o st (fun s => iO m P tt s.mem.length o s fun s => nT m P tt all r s Q) (fun s => nT m P tt all r (s.put o.dst (.sc undef)) Q)
theorem O4 {all : List Oper} {Q : St → Prop} : nT m P tt all [] ⟨W n ws, mem⟩ Q = Q ⟨W n ws, mem⟩ := fo rfl
theorem O5 {all : List Oper} {o : Oper} {r : List Oper} {Q : St → Prop} : nT m P tt all (o :: r) ⟨W n ws, mem⟩ Q = gd all o ⟨W n ws, mem⟩ (fun s => iO m P tt s.mem.length o s fun s => nT m P tt all r s Q) (fun s => nT m P tt all r (s.put o.dst (.sc undef)) Q) := fo rfl
def SV (m : Bool) (P : Program) (tt : Table) (all : Array Oper) (l : List Oper) (st : St) (Q : St → Prop) : Prop := match m with
 | true => cL P tt all l st Q
 | false => ∃ s, Q s ∧ ∀ K : St → Prop, K s → cL P tt all l st K
theorem w8 {all : Array Oper} {Q : St → Prop} : ∀ (l : List Oper) (st : St), nT m P tt all.toList l st Q → SV m P tt all l st Q
 | [], st, h => by
  cases m with
  | true => show cL P tt all [] st Q; rw [cL]; exact h
  | false => exact ⟨st, h, fun K hK => by rw [cL]; exact hK⟩
 | o :: r, st, h => by
  rw [nT] at h
  rcases Nh h with ⟨hw, h⟩ | ⟨hw, h⟩
  ·have h := Hs (BJ (B := fun s => SV m P tt all r s Q) h fun s hs => w8 r s hs)
   cases m with
   | true =>
    show cL P tt all (o :: r) st Q
    rw [cL, hw]
    exact h
   | false =>
    obtain ⟨s1, h1, h2⟩ := h
    obtain ⟨s2, h3, h4⟩ := h1
    exact ⟨s2, h3, fun K hK => by rw [cL, hw]; exact h2 _ (h4 K hK)⟩
  ·have h := w8 r _ h
   cases m with
   | true =>
    show cL P tt all (o :: r) st Q
    rw [cL, hw]; exact h
   | false =>
    obtain ⟨s2, h3, h4⟩ := h
    exact ⟨s2, h3, fun K hK => by rw [cL, hw]; exact h4 K hK⟩
theorem o5 (ht : TT P tt) {id : Nat} {ops : Array Oper} (h : nT m P tt ops.toList ops.toList st (Q .normal)) : X k_ m P ρ n0 (.region id ops false) st Q := by
 have h := w8 _ _ h
 cases m with
 | true => exact iK ht h
 | false =>
  obtain ⟨s, h1, h2⟩ := h
  exact ⟨.normal, s, h1, fun Q' h' => iK ht (h2 _ h')⟩
def Dz (c : Operand) (st : St) (f : Bool → St → Prop) : Prop := match st.eval c with
 | .sc (.bool b) => match c with
  | .tmp t => gate tk b t st f
  | _ => f b st
 | _ => False
def Hv (i : Nat) : List Nat → Bool
 | [] => false
 | a :: r => if a = i then true else Hv i r
def ky : Code → Nat
 | .cond (.tmp t) _ _ => 10000 + t
 | .block i _ => 20000 + i
 | .seq _ _ => 30000
 | .region i _ _ => i
 | _ => 40000
def vc (m : Bool) (P : Program) (tt : Table) (sp : List Nat) (ρ : Option Nat) (n0 : Nat) : Code → St → (Exit → St → Prop) → Prop
 | .seq x y, st, Q => match x with
  | .region id ops false => match Hv id sp with
   | false => nT m P tt ops.toList ops.toList st fun s => vc m P tt sp ρ n0 y s Q
   | true => X tk m P ρ n0 (.seq (.region id ops false) y) st Q
  | .skip => vc m P tt sp ρ n0 y st Q
  | _ => match Hv (ky x) sp with
   | false => vc m P tt sp ρ n0 x st (dI (fun s => vc m P tt sp ρ n0 y s Q) Q)
   | true => X tk m P ρ n0 (.seq x y) st Q
 | .region id ops false, st, Q => match Hv id sp with
  | false => nT m P tt ops.toList ops.toList st (Q .normal)
  | true => X tk m P ρ n0 (.region id ops false) st Q
 | .cond c x y, st, Q => Dz c st fun b s => match b with | true => vc m P tt sp ρ n0 x s Q | false => vc m P tt sp ρ n0 y s Q
 | .block id c, st, Q => vc m P tt sp ρ n0 c st (eC id Q)
 | .skip, st, Q => Q .normal st
 | .ret, st, Q => Q .ret st
 | .exit id, st, Q => Q (.exit id) st
 | c, st, Q => X tk m P ρ n0 c st Q
theorem vx (ht : TT P tt) : ∀ {c : Code} {st : St} {Q : Exit → St → Prop}, vc m P tt sp ρ n0 c st Q → X k_ m P ρ n0 c st Q := by
 intro c
 induction c with
 | seq x y UW Re =>
  intro st Q h
  unfold vc at h
  split at h
  ·split at h
   ·refine vw ((o5 (Q := dI (fun s => vc m P tt sp ρ n0 y s Q) Q) ht h).mono fun e s h => ?_)
    cases e with
    | normal => exact Re h
    | _ => exact h
   ·exact h
  ·have h := Re h
   cases m
   ·exact Hm (Dt h)
   ·exact fI (iJ h)
  ·split at h
   ·refine vw ((UW h).mono fun e s h => ?_)
    cases e with
    | normal => exact Re h
    | _ => exact h
   ·exact h
 | region id ops mixed =>
  intro st Q h
  cases mixed
  ·unfold vc at h
   split at h
   ·exact o5 ht h
   ·exact h
  ·unfold vc at h; exact h
 | cond c x y UW Re =>
  intro st Q h
  unfold vc at h
  unfold Dz at h
  split at h
  ·rename_i b hb
   have h : X k_ m P ρ n0 (if b = true then x else y) st Q := by
    split at h
    ·rename_i t
     have h := Dx (.inr hb) h
     cases b
     ·exact Re h
     ·exact UW h
    ·cases b
     ·exact Re h
     ·exact UW h
   cases m
   ·exact KJ hb h
   ·exact fJ hb h
  ·exact h.elim
 | block id c ih => intro st Q h; unfold vc at h; exact KR (ih h)
 | skip =>
  intro st Q h; unfold vc at h
  cases m
  ·exact Dt h
  ·exact iJ h
 | ret =>
  intro st Q h; unfold vc at h
  cases m
  ·exact OR h
  ·exact jo h
 | exit id =>
  intro st Q h; unfold vc at h
  cases m
  ·exact KI h
  ·exact oK h
 | _ => intro st Q h; unfold vc at h; exact h
section
variable {x y : Code} {id : Nat} {ops : Array Oper} {c : Operand}
theorem BK {v : Option V} {d : Nat} {want : Bool} {yes no : St → Prop} {k : Tk} : w7 k v d want st yes no = match v with
  | some (.sc (.bool b)) => gate tk b d st fun b s => match b == want with | true => yes s | false => no s
  | some (.sc _) => no st
  | some _ => False
  | none => no st := fo rfl
def sV := @iO
theorem E4 {key : Nat} {o : Oper} {Q : St → Prop} : iO m P tt key o ⟨W n ws, mem⟩ Q = sV m P tt key o ⟨W n ws, mem⟩ Q := fo rfl
theorem O6 {key : Nat} {o : Oper} {Q : St → Prop} : sV m P tt key o st Q = match o.op with
   | .alloc T => bq tk (tt T) fun i => Q ({ st with mem := ba st.mem key (.box (i.zero.map V.sc)) }.put o.dst (.ptr key 0))
   | .box _ x => bq tk (fF (st.eval x)) fun cs => Q ({ st with mem := ba st.mem key (.box cs) }.put o.dst (.ptr key 0))
   | .build T parts => bq tk (gZ P tt T parts.toList st.eval) fun v => Q (st.put o.dst v)
   | .buildSlice T len parts => bq tk (KP tt T len parts.toList st key) fun mem => Q ({ st with mem := mem }.put o.dst (.ms key 0 0 len))
   | .store T p x => bq tk (w6 tt st.mem T (st.eval p) (st.eval x)) fun mem => Q ({ st with mem := mem }.put o.dst (.sc undef))
   | .call { callee := .builtin .append, args := xs, argTypes := ts } => match xs.toList.map st.eval with
    | [s, x] => nq tk (dv tt st.mem ts.toList s x) (fun p => Q ({ st with mem := (cu st.mem key p.1 p.2.2 p.2.1).1 }.put o.dst (cu st.mem key p.1 p.2.2 p.2.1).2)) (SS tk m (jm tt st.mem ts.toList s x) st o.dst Q)
    | _ => False
   | .call { callee := .value f, args := xs, .. } => match st.eval f with
    | .im k => SR tk m P k (xs.toList.map st.eval) st o.dst Q
    | fv => bq tk (aX fv (xs.toList.map st.eval)) fun p => o4 tk m P p.1 p.2 (cy st.mem p.2) (p.2.flatMap cn) st o.dst Q
   | .makeSlice T l c => bq tk (qN tt T (st.eval l) (st.eval c)) fun p => Q ({ st with mem := ba st.mem key (.rows 0 p.1 p.2.1) }.put o.dst (.ms key 0 0 p.2.1.length))
   | .makeMap _ none => Q ({ st with mem := ba st.mem key (.map [] 0) }.put o.dst (.mp key))
   | .mapUpdate T d k x => bq tk (ch P st.mem T (st.eval d) (st.eval k) (st.eval x)) fun mem => Q ({ st with mem := mem }.put o.dst (.sc undef))
   | .insert T d k x => bq tk (ch P st.mem T (st.eval d) (st.eval k) (st.eval x)) fun mem => Q ({ st with mem := mem }.put o.dst (.sc undef))
   | .mapEntry T d k => bq tk (pP P st.mem T (st.eval d) (st.eval k)) fun p => Q ({ st with mem := p.1 }.put o.dst p.2)
   | .entryStore _ d s x => bq tk (pQ st.mem (st.eval d) (st.eval s) (st.eval x)) fun mem => Q ({ st with mem := mem }.put o.dst (.sc undef))
   | .call { callee := .builtin .delete, args := xs, argTypes := ts } => bq tk (mu P st.mem ts (xs.toList.map st.eval)) fun mem => Q ({ st with mem := mem }.put o.dst (.sc (.tuple #[])))
   | .range T x => bq tk (iH P st.mem T (st.eval x)) fun B => Q ({ st with mem := ba st.mem key B }.put o.dst (.ptr key 0))
   | .next it str => Yj tk m st o.dst (st.eval it) str Q
   | .binOp op T x y _ => nq tk (jC tt op T (st.eval x) (st.eval y)) (fun n => Wx tk m n op st o.dst Q) (bq tk (fO P tt st o) fun v => Q (st.put o.dst v))
   | _ => bq tk (fO P tt st o) fun v => Q (st.put o.dst v) := fo rfl
theorem O7 {all : List Oper} {o : Oper} {yes no : St → Prop} : gd all o ⟨W n ws, mem⟩ yes no = match o.guard with
  | none => yes ⟨W n ws, mem⟩
  | some (j, want) => match re all j with
   | none => no ⟨W n ws, mem⟩
   | some d => w7 tk (W n ws)[d]? d want ⟨W n ws, mem⟩ yes no := fo rfl
theorem E5 {f : Bool → St → Prop} : Dz c st f = match st.eval c with
  | .sc (.bool b) => match c with
   | .tmp t => gate tk b t st f
   | _ => f b st
  | _ => False := fo rfl
theorem SX : vc m P tt sp ρ n0 (.seq (.region id ops false) y) ⟨W n ws, mem⟩ Q = match Hv id sp with
  | false => nT m P tt ops.toList ops.toList ⟨W n ws, mem⟩ fun s => vc m P tt sp ρ n0 y s Q
  | true => X tk m P ρ n0 (.seq (.region id ops false) y) ⟨W n ws, mem⟩ Q := fo rfl
theorem SY : vc m P tt sp ρ n0 (.seq (.region id ops true) y) ⟨W n ws, mem⟩ Q = match Hv id sp with
  | false => vc m P tt sp ρ n0 (.region id ops true) ⟨W n ws, mem⟩ (dI (fun s => vc m P tt sp ρ n0 y s Q) Q)
  | true => X tk m P ρ n0 (.seq (.region id ops true) y) ⟨W n ws, mem⟩ Q := fo rfl
theorem SZ {x1 : Code} : vc m P tt sp ρ n0 (.seq (.seq x x1) y) ⟨W n ws, mem⟩ Q = match Hv 30000 sp with
  | false => vc m P tt sp ρ n0 (.seq x x1) ⟨W n ws, mem⟩ (dI (fun s => vc m P tt sp ρ n0 y s Q) Q)
  | true => X tk m P ρ n0 (.seq (.seq x x1) y) ⟨W n ws, mem⟩ Q := fo rfl
theorem S0 {x1 : Code} {t : Nat} : vc m P tt sp ρ n0 (.seq (.cond (.tmp t) x x1) y) ⟨W n ws, mem⟩ Q = match Hv (10000 + t) sp with
  | false => vc m P tt sp ρ n0 (.cond (.tmp t) x x1) ⟨W n ws, mem⟩ (dI (fun s => vc m P tt sp ρ n0 y s Q) Q)
  | true => X tk m P ρ n0 (.seq (.cond (.tmp t) x x1) y) ⟨W n ws, mem⟩ Q := fo rfl
theorem S2 : vc m P tt sp ρ n0 (.seq (.block id x) y) ⟨W n ws, mem⟩ Q = match Hv (20000 + id) sp with
  | false => vc m P tt sp ρ n0 (.block id x) ⟨W n ws, mem⟩ (dI (fun s => vc m P tt sp ρ n0 y s Q) Q)
  | true => X tk m P ρ n0 (.seq (.block id x) y) ⟨W n ws, mem⟩ Q := fo rfl
theorem Wy : vc m P tt sp ρ n0 (.region id ops false) ⟨W n ws, mem⟩ Q = match Hv id sp with
  | false => nT m P tt ops.toList ops.toList ⟨W n ws, mem⟩ (Q .normal)
  | true => X tk m P ρ n0 (.region id ops false) ⟨W n ws, mem⟩ Q := fo rfl
theorem Wz : vc m P tt sp ρ n0 (.region id ops true) ⟨W n ws, mem⟩ Q = X tk m P ρ n0 (.region id ops true) ⟨W n ws, mem⟩ Q := fo rfl
theorem WA : vc m P tt sp ρ n0 (.cond c x y) ⟨W n ws, mem⟩ Q = Dz c ⟨W n ws, mem⟩ fun b s => match b with | true => vc m P tt sp ρ n0 x s Q | false => vc m P tt sp ρ n0 y s Q := fo rfl
theorem WB : vc m P tt sp ρ n0 (.block id x) ⟨W n ws, mem⟩ Q = vc m P tt sp ρ n0 x ⟨W n ws, mem⟩ (eC id Q) := fo rfl
theorem WC : vc m P tt sp ρ n0 .skip ⟨W n ws, mem⟩ Q = Q .normal ⟨W n ws, mem⟩ := fo rfl
theorem WD : vc m P tt sp ρ n0 .ret ⟨W n ws, mem⟩ Q = Q .ret ⟨W n ws, mem⟩ := fo rfl
theorem WE : vc m P tt sp ρ n0 (.exit id) ⟨W n ws, mem⟩ Q = Q (.exit id) ⟨W n ws, mem⟩ := fo rfl
theorem WG : vc m P tt sp ρ n0 (.loop x) ⟨W n ws, mem⟩ Q = X tk m P ρ n0 (.loop x) ⟨W n ws, mem⟩ Q := fo rfl
theorem WH {f : St → Prop} : dI f Q .normal st = f st := fo rfl
theorem WI {f : St → Prop} : dI f Q .ret st = Q .ret st := fo rfl
theorem WJ {f : St → Prop} {j : Nat} : dI f Q (.exit j) st = Q (.exit j) st := fo rfl
theorem WK {j : Nat} : eC j Q .normal st = Q .normal st := fo rfl
theorem WL {j : Nat} : eC j Q .ret st = Q .ret st := fo rfl
theorem WM {i j : Nat} : eC i Q (.exit j) st = if j = i then Q .normal st else Q (.exit j) st := fo rfl
end
attribute [irreducible] vc
end
end Go.Eng
end

section
namespace Go.Eng
variable [aH]
section
variable {k_ : Tk} {m : Bool} {P : Program} {tt : Table} {ρ : Option Nat} {n0 : Nat} {st : St} {Q : Exit → St → Prop} {n : Nat} {ws jU : List (Nat × V)} {mem fU : List aw}
theorem tf (ht : TT P tt) {sp : List Nat} {y : Code} (e : Exit) (s : St) (h : dI (fun s => vc m P tt sp ρ n0 y s Q) Q e s) : dI (fun s => X k_ m P ρ n0 y s Q) Q e s := by
 cases e with
 | normal => exact vx (k_ := k_) ht h
 | _ => exact h
theorem sq (ht : TT P tt) (sp : List Nat) {x y : Code} (h : vc m P tt sp ρ n0 x st (dI (fun s => vc m P tt sp ρ n0 y s Q) Q)) : X k_ m P ρ n0 (.seq x y) st Q := vw ((vx ht h).mono (tf ht))
theorem UX (ht : TT P tt) (sp : List Nat) {id : Nat} {ops : Array Oper} {y : Code} (h : nT m P tt ops.toList ops.toList st fun s => vc m P tt sp ρ n0 y s Q) : X k_ m P ρ n0 (.seq (.region id ops false) y) st Q :=
 vw ((o5 (Q := dI (fun s => vc m P tt sp ρ n0 y s Q) Q) ht h).mono (tf ht))
theorem BL (ht : TT P tt) {id : Nat} {ops : Array Oper} (h : nT m P tt ops.toList ops.toList st (Q .normal)) : X k_ m P ρ n0 (.region id ops false) st Q := o5 ht h
theorem kI {c : Code} {k j : Nat} (hl : rL n0 k n ws mem st) (h : jq P ρ n0 c j ⟨W n ws, mem⟩ Q) : jq P ρ n0 c j st Q := by
 cases j with
 | zero => exact h.elim
 | succ j => exact Hu (k_ := .b) (m := true) hl h
theorem O8 {α : Type} (F : α → List (Nat × V)) (M : α → List aw) (μ : α → Nat) (Inv : α → Prop) (a0 : α) (k : Nat) {c : Code} (h0 : rL n0 k n (F a0) (M a0) st) (hi : Inv a0)
  (step : ∀ a, Inv a → X k_ m P ρ n0 c ⟨W n (F a), M a⟩ (dI (fun s => ∃ a', Inv a' ∧ μ a' < μ a ∧ rL n0 k n (F a') (M a') s) Q)) : X k_ m P ρ n0 (.loop c) st Q := by
 cases m with
 | true =>
  have key : ∀ (j : Nat) (a : α), Inv a → μ a = j → jq P ρ n0 c (j + 1) ⟨W n (F a), M a⟩ Q := by
   intro j
   induction j using Nat.strongRecOn with
   | _ j ih =>
    intro a hi hj
    refine eL.mono (step a hi) fun e s h => ?_
    cases e with
    | normal =>
     obtain ⟨a', h1, h2, h3⟩ := h
     exact kI h3 (nN (by omega) (ih _ (by omega) a' h1 rfl))
    | _ => exact h
  exact oL _ (kI h0 (key _ a0 hi rfl))
 | false =>
  have key : ∀ (j : Nat) (a : α), Inv a → μ a = j → ∃ (e : Exit) (s : St), Q e s ∧ ∀ Q' : Exit → St → Prop, Q' e s → ∃ i, jq P ρ n0 c i ⟨W n (F a), M a⟩ Q' := by
   intro j
   induction j using Nat.strongRecOn with
   | _ j ih =>
    intro a hi hj
    obtain ⟨e, s, hq, h⟩ := step a hi
    cases e with
    | normal =>
     obtain ⟨a', h1, h2, h3⟩ := hq
     obtain ⟨e2, s2, N4, h5⟩ := ih _ (by omega) a' h1 rfl
     refine ⟨e2, s2, N4, fun Q' h' => ?_⟩
     obtain ⟨i, h6⟩ := h5 Q' h'
     exact ⟨i + 1, h _ (kI h3 h6)⟩
    | _ => exact ⟨_, s, hq, fun Q' h' => ⟨1, h (dI (fun st' => jq P ρ n0 c 0 st' Q') Q') h'⟩⟩
  obtain ⟨e, s, hq, h⟩ := key _ a0 hi rfl
  refine ⟨e, s, hq, fun Q' h' => ?_⟩
  obtain ⟨j, hj⟩ := h Q' h'
  exact oL j (kI h0 hj)
theorem cO (ht : TT P tt) (sp : List Nat) {α : Type} (F : α → List (Nat × V)) (M : α → List aw) (μ : α → Nat) (Inv : α → Prop) (a0 : α) (k : Nat) {c : Code} (h0 : rL n0 k n (F a0) (M a0) st) (hi : Inv a0)
  (step : ∀ a, Inv a → ∀ K : St → Prop, (∀ s, (∃ a', Inv a' ∧ μ a' < μ a ∧ rL n0 k n (F a') (M a') s) → K s) → vc m P tt sp ρ n0 c ⟨W n (F a), M a⟩ (dI K Q)) : X k_ m P ρ n0 (.loop c) st Q := O8 F M μ Inv a0 k h0 hi fun a h => vx ht (step a h _ fun _ h => h)
def pk (ws : List (Nat × V)) : List Nat → List (Nat × V)
 | [] => []
 | k :: r => (k, lk k ws) :: pk ws r
def zk : List Nat → List V → List (Nat × V) → List (Nat × V)
 | t :: ts, v :: vs, r => (t, v) :: zk ts vs r
 | _, _, r => r
theorem O9 {ks : List Nat} : lg ws (pk ws ks) := by
 induction ks with
 | nil => trivial
 | cons k r ih => exact ⟨rfl, ih⟩
theorem bo {k : Nat} {p : Nat × V} : Gd k (p :: ws) = (ai k p.2 && Gd k ws) := SQ rfl
theorem bF {k : Nat} : Gd k [] = true := SQ rfl
theorem Pa (ht : TT P tt) (sp : List Nat) (ts : List Nat) (S3 : List V) (k : Nat) (ks : List Nat) (μ : List V → Nat) (Inv : List V → Prop) {c : Code} (hn : n0 ≤ k) (h0 : lg jU (zk ts S3 (pk jU ks)) ∧ Gd k (zk ts S3 (pk jU ks)) = true ∧ (fU.take k).all (az k) = true) (hi : Inv S3)
  (step : ∀ vs, Inv vs → ∀ K : St → Prop, (∀ s, (∃ vs', Inv vs' ∧ μ vs' < μ vs ∧ rL n0 k n (zk ts vs' (pk jU ks)) (fU.take k) s) → K s) → vc m P tt sp ρ n0 c ⟨W n (zk ts vs (pk jU ks)), fU.take k⟩ (dI K Q)) : X k_ m P ρ n0 (.loop c) ⟨W n jU, fU⟩ Q :=
 cO ht sp (fun vs => zk ts vs (pk jU ks)) (fun _ => fU.take k) μ Inv S3 k (bm hn ⟨h0.1, h0.2.1, h0.2.2, rfl⟩) hi step
def gQ (ws : List (Nat × V)) : List Nat → List V
 | [] => []
 | t :: r => lk t ws :: gQ ws r
theorem w9 : ∀ {ts : List Nat} {r : List (Nat × V)}, lg ws r → lg ws (zk ts (gQ ws ts) r)
 | [], r, h => h
 | t :: ts, r, h => ⟨rfl, w9 h⟩
theorem bL (ht : TT P tt) (sp : List Nat) (ts : List Nat) (k : Nat) (ks : List Nat) (μ : List V → Nat) (Inv : List V → Prop) {c : Code} (hn : n0 ≤ k) (h0 : Gd k (zk ts (gQ jU ts) (pk jU ks)) = true ∧ (fU.take k).all (az k) = true) (hi : Inv (gQ jU ts))
  (step : ∀ vs, Inv vs → ∀ K : St → Prop, (∀ s, (∃ vs', Inv vs' ∧ μ vs' < μ vs ∧ rL n0 k n (zk ts vs' (pk jU ks)) (fU.take k) s) → K s) → vc m P tt sp ρ n0 c ⟨W n (zk ts vs (pk jU ks)), fU.take k⟩ (dI K Q)) : X k_ m P ρ n0 (.loop c) ⟨W n jU, fU⟩ Q :=
 Pa ht sp ts (gQ jU ts) k ks μ Inv hn ⟨w9 O9, h0⟩ hi step
theorem dD {ts ks : List Nat} {k j : Nat} {Inv : List V → Prop} {μ : List V → Nat} {JP : List (Nat × V)} {Hw : List aw} (hn : n0 ≤ k) (h : lg JP (pk jU ks) ∧ Gd k (zk ts (gQ JP ts) (pk jU ks)) = true ∧ (fU.take k).all (az k) = true ∧ Hw.take k = fU.take k) (hi : Inv (gQ JP ts)) (hm : μ (gQ JP ts) < j) :
  ∃ vs', Inv vs' ∧ μ vs' < j ∧ rL n0 k n (zk ts vs' (pk jU ks)) (fU.take k) ⟨W n JP, Hw⟩ := ⟨_, hi, hm, bm hn ⟨w9 h.1, h.2⟩⟩
theorem S4 {ts ks : List Nat} {k : Nat} {Inv : List V → Prop} {JP : List (Nat × V)} {Hw : List aw} (hn : n0 ≤ k) (h : lg JP (pk jU ks) ∧ Gd k (zk ts (gQ JP ts) (pk jU ks)) = true ∧ (fU.take k).all (az k) = true ∧ Hw.take k = fU.take k) (hi : Inv (gQ JP ts)) :
  ∃ vs', Inv vs' ∧ rL n0 k n (zk ts vs' (pk jU ks)) (fU.take k) ⟨W n JP, Hw⟩ := ⟨_, hi, bm hn ⟨w9 h.1, h.2⟩⟩
theorem S5 (ht : TT P tt) (sp : List Nat) (ts : List Nat) (k : Nat) (ks : List Nat) (Inv : List V → Prop) {x y : Code}
  (h1 : ∀ K : St → Prop, (∀ s, (∃ vs, Inv vs ∧ rL n0 k n (zk ts vs (pk jU ks)) (fU.take k) s) → K s) → vc m P tt sp ρ n0 x ⟨W n jU, fU⟩ (dI K Q))
  (h2 : ∀ vs, Inv vs → vc m P tt sp ρ n0 y ⟨W n (zk ts vs (pk jU ks)), fU.take k⟩ Q) : X k_ m P ρ n0 (.seq x y) ⟨W n jU, fU⟩ Q := by
 refine vw ((vx ht (h1 _ fun _ h => h)).mono fun e s h => ?_)
 cases e with
 | normal =>
  obtain ⟨vs, hv, hl⟩ := h
  exact Hu (k_ := k_) hl (vx ht (h2 vs hv))
 | _ => exact h
theorem rM {c : Code} {v v' : V} (t : Nat) (hn : t < n) (h0 : lk t ws = v) (hp : dO mem v = some v') (h : X k_ m P ρ n0 c ⟨W n ((t, v') :: ws), bS mem (cn v)⟩ Q) : X k_ m P ρ n0 c ⟨W n ws, mem⟩ Q := by
 have hg : (⟨W n ws, mem⟩ : St).fr[t]? = some v := by rw [← h0]; show (W n ws)[t]? = _; rw [ny, if_pos hn]
 rw [← Dv] at h
 cases m
 ·exact OY t hg hp h
 ·exact Du t hg hp h
def Ni (_ : Tk) (P : Program) (f : FuncId) (o : Option (List V)) (st : St) (dst : Option Tmp) (Q : St → Prop) : Prop := ∃ vs' r, o = some vs' ∧ wS P f vs' r ∧ Q (st.put dst r)
def Pb (_ : Tk) (P : Program) (f : FuncId) (o : Option (List V)) (st : St) (key : Nat) (dst : Option Tmp) (Q : St → Prop) : Prop := ∃ vs' e rs, o = some vs' ∧ sO P f vs' e rs ∧ Q (sP st key dst e rs)
def Pc (_ : Tk) (P : Program) (f : FuncId) (o : Option (List V)) (keys : List (Nat × Nat)) (st : St) (dst : Option Tmp) (Q : St → Prop) : Prop := ∃ vs' r, o = some vs' ∧ aO P f vs' r ∧ Q ({ st with mem := cp st.mem keys r }.put dst r)
def Hx (_ : Tk) (P : Program) (f : FuncId) (vs : List V) (k : Nat) (st : St) (dst : Option Tmp) (Q : St → Prop) : Prop := Bd P f vs k st dst Q
def Hy (P : Program) (tt : Table) (o : Oper) (uN st : St) (Q : St → Prop) : Prop :=
 match o.op with
 | .call { callee := .value f, args := xs, .. } => bq tk (aX (uN.eval f) (xs.toList.map uN.eval)) fun p => Ni tk P p.1 (cy [] p.2) st o.dst Q
 | _ => bq tk (rI P tt o uN) fun v => Q (st.put o.dst v)
def Pd (P : Program) (o : Oper) (key : Nat) (st : St) (Q : St → Prop) : Prop :=
 match o.op with
 | .call { callee := .value f, args := xs, .. } => bq tk (aX (st.eval f) (xs.toList.map st.eval)) fun p => Pb tk P p.1 (cy [] p.2) st key o.dst Q
 | _ => False
def zG (P : Program) (o : Oper) (st : St) (Q : St → Prop) : Prop :=
 match o.op with
 | .call { callee := .value f, args := xs, .. } => bq tk (aX (st.eval f) (xs.toList.map st.eval)) fun p => Pc tk P p.1 (cy st.mem p.2) (p.2.flatMap cn) st o.dst Q
 | _ => False
def eG (P : Program) (o : Oper) (k : Nat) (st : St) (Q : St → Prop) : Prop :=
 match o.op with
 | .call { callee := .value f, args := xs, .. } => bq tk (aX (st.eval f) (xs.toList.map st.eval)) fun p => Hx tk P p.1 p.2 k st o.dst Q
 | _ => False
def Hz (P : Program) (tt : Table) (base : Nat) (o : Oper) (p : Pl) (st : St) (Q : St → Prop) : Prop := match p.cls with
 | .n => Hy P tt o { st with mem := [] } st Q
 | .r => Hy P tt o { st with mem := dk (p.mask.map (base + ·) ++ p.abs) st.mem } st Q
 | .a => isHole st.mem (base + p.key) = true ∧ nq tk (ee tt o (base + p.key) st) (fun q => Q ({ st with mem := st.mem.set (base + p.key) q.1 }.put o.dst q.2)) (Pd P o (base + p.key) st Q)
 | .w => isHole st.mem (base + p.key) = true ∧ bq tk (oO P tt (base + p.key) o st) fun q => Q ({ st with mem := q.1 }.put o.dst q.2)
 | .s => bq tk (rJ tt (base + p.key) o st) fun mem => Q ({ st with mem := mem }.put o.dst (.sc undef))
 | .b => bq tk (k8 tt o st) fun v => Q (st.put o.dst v)
 | .z => zG P o st Q
 | .e => eG P o p.key st Q
theorem Pe {all : Array Oper} {base : Nat} {o : Oper} {p : Pl} {Q : St → Prop} (hw : cj all st.fr o = some true) (h : Hz P tt base o p st Q) : dz P tt all base o p st Q := by
 have hv : ∀ {uN : St}, Hy P tt o uN st Q → uM P tt o uN st Q := fun {uN} h => by
  unfold Hy at h
  unfold uM
  split at h
  ·rename_i f xs ts kl
   rw [kl]
   dsimp only
   rw [fK] at h
   obtain ⟨⟨g, vs⟩, h1, h2⟩ := h
   rw [h1]
   exact h2
  ·rename_i kl
   split
   ·rename_i f xs ts WN; exact (kl f xs ts WN).elim
   ·rw [fK] at h
    obtain ⟨v, h1, h2⟩ := h
    rw [h1]; exact h2
 unfold Hz at h
 unfold dz
 rw [hw]
 dsimp only
 split at h <;> (rename_i hc; rw [hc]; dsimp only)
 ·exact hv h
 ·exact hv h
 ·refine ⟨h.1, ?_⟩
  have h := h.2
  cases hn : ee tt o (base + p.key) st with
  | some q => rw [hn, oZ] at h; exact h
  | none =>
   rw [hn, o3] at h
   dsimp only
   unfold Pd at h
   unfold nO
   split at h
   ·rename_i kl
    rw [kl]
    dsimp only
    rw [fK] at h
    obtain ⟨⟨g, vs⟩, h1, h2⟩ := h
    rw [h1]; exact h2
   ·exact h.elim
 ·refine ⟨h.1, ?_⟩
  have h := h.2
  rw [fK] at h
  obtain ⟨q, h1, h2⟩ := h
  rw [h1]; exact h2
 ·rw [fK] at h
  obtain ⟨q, h1, h2⟩ := h
  rw [h1]; exact h2
 ·rw [fK] at h
  obtain ⟨q, h1, h2⟩ := h
  rw [h1]; exact h2
 ·unfold zG at h
  unfold lM
  split at h
  ·rename_i kl
   rw [kl]
   dsimp only
   rw [fK] at h
   obtain ⟨⟨g, vs⟩, h1, h2⟩ := h
   rw [h1]; exact h2
  ·exact h.elim
 ·unfold eG at h
  unfold vj
  split at h
  ·rename_i kl
   rw [kl]
   dsimp only
   rw [fK] at h
   obtain ⟨⟨g, vs⟩, h1, h2⟩ := h
   rw [h1]; exact h2
  ·exact h.elim
def xb (P : Program) (tt : Table) (all : List Oper) (base : Nat) : List Oper → List Pl → St → (St → Prop) → Prop
 | [], _, st, K => K st
 | o :: r, p :: ps, st, K => gd all o st (fun st => Hz P tt base o p st fun st' => xb P tt all base r ps st' K) (fun st => xb P tt all base r ps (st.put o.dst (.sc undef)) K)
 | _ :: _, [], _, _ => False
theorem Pf {all : List Oper} {base : Nat} {ps : List Pl} {K : St → Prop} : xb P tt all base [] ps ⟨W n ws, mem⟩ K = K ⟨W n ws, mem⟩ := fo rfl
theorem Pg {all : List Oper} {base : Nat} {o : Oper} {r : List Oper} {p : Pl} {ps : List Pl} {K : St → Prop} : xb P tt all base (o :: r) (p :: ps) ⟨W n ws, mem⟩ K = gd all o ⟨W n ws, mem⟩ (fun st => Hz P tt base o p st fun st' => xb P tt all base r ps st' K) (fun st => xb P tt all base r ps (st.put o.dst (.sc undef)) K) := fo rfl
theorem r5 {all : Array Oper} {base : Nat} {Q : St → Prop} : ∀ (l : List Oper) (ps : List Pl) (st : St), xb P tt all.toList base l ps st Q → runM P tt all base l ps st Q
 | [], ps, st, h => h
 | o :: r, [], st, h => h.elim
 | o :: r, p :: ps, st, h => by
  rw [runM]
  rcases Nh (show gd all.toList o st _ _ from h) with ⟨hw, h⟩ | ⟨hw, h⟩
  ·have h := Pe hw h
   by_cases hz : p.cls = .z
   ·unfold dz at h ⊢
    rw [hw, hz] at h ⊢
    exact sQ h fun s hs => r5 r ps s hs
   ·obtain ⟨v, m, h1, h2⟩ := (dY hz).1 h
    exact (dY hz).2 ⟨v, m, h1, r5 r ps _ h2⟩
  ·unfold dz
   rw [hw]
   exact r5 r ps _ h
theorem bI (ht : TT P tt) (hm : P.follows .mixedOrders = true) (plan : List Pl) (j : Nat) {id : Nat} {ops : Array Oper} (bK : sW ops plan = true) (h : xb P tt ops.toList st.mem.length ops.toList plan { st with mem := st.mem ++ List.replicate j .hole } (Q .normal)) : X k_ m P ρ n0 (.region id ops true) st Q := by
 have h := r5 _ _ _ h
 cases m
 ·obtain ⟨s, h1, h2⟩ := rZ _ _ _ h
  exact ⟨.normal, s, h1, fun Q' h' => pY ht hm plan j bK (h2 _ h')⟩
 ·exact pY ht hm plan j bK h
theorem WO (ht : TT P tt) (sp : List Nat) (hm : P.follows .mixedOrders = true) (plan : List Pl) (j : Nat) {id : Nat} {ops : Array Oper} {y : Code} (bK : sW ops plan = true)
  (h : xb P tt ops.toList st.mem.length ops.toList plan { st with mem := st.mem ++ List.replicate j .hole } fun s => vc m P tt sp ρ n0 y s Q) : X k_ m P ρ n0 (.seq (.region id ops true) y) st Q :=
 vw ((bI (Q := dI (fun s => vc m P tt sp ρ n0 y s Q) Q) ht hm plan j bK h).mono (tf ht))
section
variable {k : Tk} {f : FuncId} {vs vs' : List V} {o : Option (List V)} {keys : List (Nat × Nat)} {dst : Option Tmp} {Q : St → Prop}
theorem cF {R : V → Prop} (hr : ∃ v, R v ∧ aO P f vs' v) (h : ∀ v, R v → Q ({ st with mem := cp st.mem keys v }.put dst v)) : o4 k m P f vs (some vs') keys st dst Q := by
 obtain ⟨v, h1, h2⟩ := hr
 exact .inl ⟨vs', v, rfl, h2, h v h1⟩
theorem cW {R : V → List aw → Prop} (hr : ∃ v m', R v m' ∧ aR P f vs st.mem v m') (h : ∀ v m', R v m' → Q ({ st with mem := m' }.put dst v)) : o4 k m P f vs o keys st dst Q := by
 obtain ⟨v, m', h1, h2⟩ := hr
 exact .inr (.inl ⟨v, m', h2, h v m' h1⟩)
theorem cS {R : V → Prop} (hr : ∃ v, R v ∧ aR P f vs st.mem v st.mem) (h : ∀ v, R v → Q (st.put dst v)) : o4 k m P f vs o keys st dst Q := by
 obtain ⟨v, h1, h2⟩ := hr
 exact .inr (.inl ⟨v, _, h2, h v h1⟩)
theorem cR {R : V → List aw → Prop} (hr : fi P f vs st.mem R) (h : ∀ v m', R v m' → Q ({ st with mem := m' }.put dst v)) : o4 k true P f vs o keys st dst Q := .inr (.inr (.inl ⟨rfl, R, hr, h⟩))
theorem cG {R : V → Prop} (hr : ∃ v, R v ∧ aO P f vs' v) (h : ∀ v, R v → Q (st.put dst v)) : Ni k P f (some vs') st dst Q := by
 obtain ⟨v, h1, h2⟩ := hr
 exact ⟨vs', v, rfl, .inl h2, h v h1⟩
theorem Yk {R : V → aw → Prop} {j : Nat} {B0 : aw} (hv : st.mem[j]? = some B0) (h0 : B0.aC = 0) (hr : ∃ v B, R v B ∧ B.aC = 0 ∧ ∀ mem : List aw, mem[j]? = some B0 → aR P f vs mem v (mem.set j B)) (h : ∀ v B, R v B → Q ({ st with mem := st.mem.set j B }.put dst v)) : Hx k P f vs j st dst Q := EX hv h0 hr h
end
def tg : Nat → List V → List (Nat × V)
 | i, v :: vs => (i, v) :: tg (i + 1) vs
 | _, [] => []
theorem DA : ∀ (vs : List V) (i t : Nat), lk t (tg i vs) = if i ≤ t then vs.getD (t - i) .undef else .undef
 | [], i, t => by simp [tg, lk]
 | v :: vs, i, t => by
  simp only [tg,lk]
  rw [DA vs (i + 1) t]
  by_cases h : i = t
  ·subst h; simp
  ·rw [if_neg h]
   by_cases h2 : i + 1 ≤ t
   ·rw [if_pos h2, if_pos (by omega), show t - i = (t - (i + 1)) + 1 by omega]; simp
   ·rw [if_neg h2, if_neg (by omega)]
theorem xd {fn : Func} {args : List V} {c : Code} (hn : fn.ntmps = n) (hl : args.length ≤ n) (h : X k_ m P ρ n0 c ⟨W n (tg 0 args), mem⟩ Q) : X k_ m P ρ n0 c (di fn args mem) Q := by
 refine te (st' := ⟨W n (tg 0 args), mem⟩) (fun E w a hs => ⟨hs.F, hs.lt, hs.mem, hs.top, hs.aC, hs.apart, ?_⟩) h
 have hr := hs.fr
 simp only [di,hn] at hr
 refine ⟨by rw [← hr.1, jT, List.length_append, List.length_replicate]; omega, fun i v x hv hx => ?_⟩
 rw [ny] at hv
 split at hv
 ·rename_i hi
  cases hv
  rw [DA, if_pos (Nat.zero_le _), Nat.sub_zero, List.getD_eq_getElem?_getD]
  cases ha : args[i]? with
  | none => exact .undef _ _
  | some v => exact hr.2 i v x (by rw [List.getElem?_append_left (List.getElem?_eq_some_iff.1 ha).1]; exact ha) hx
 ·cases hv
def KU (R : V → Prop) (o : Option V) : Prop := ∃ r, R r ∧ o = some r
theorem E6 {R : V → Prop} {v : V} : KU R (some v) = R v := propext ⟨fun ⟨_, h, e⟩ => by cases e; exact h, fun h => ⟨v, h, rfl⟩⟩
theorem HA {K : V → Prop} {L : List V} {k : Nat} (h : L.length = k) (hk : K (.slice L)) : KU K (if k ≤ L.length then some (.slice (L.take k)) else none) := by
 subst h
 rw [if_pos (Nat.le_refl _), List.take_length]
 exact ⟨_, hk, rfl⟩
def Ph (R : V → Prop) (tt : Table) (rs : Array ResultVar) (e : Exit) (s : St) : Prop := (e = .ret ∨ e = .normal) ∧ KU R (jO tt rs s)
theorem HB {R : V → Prop} {rs : Array ResultVar} : Ph R tt rs .ret ⟨W n ws, mem⟩ = KU R (jO tt rs ⟨W n ws, mem⟩) := propext ⟨fun h => h.2, fun h => ⟨.inl rfl, h⟩⟩
def KV (R : V → List aw → Prop) (k : Nat) (o : Option V) (mem : List aw) : Prop := ∃ r, R r mem ∧ o = some r ∧ ai k r = true ∧ mem.all (az k) = true
theorem E7 {R : V → List aw → Prop} {k : Nat} {v : V} : KV R k (some v) mem = (R v mem ∧ ai k v = true ∧ mem.all (az k) = true) := propext ⟨fun ⟨_, h, e, h2⟩ => by cases e; exact ⟨h, h2⟩, fun ⟨h, h2⟩ => ⟨v, h, rfl, h2⟩⟩
def KW (R : V → List aw → Prop) (k : Nat) (tt : Table) (rs : Array ResultVar) (e : Exit) (s : St) : Prop := (e = .ret ∨ e = .normal) ∧ KV R k (gh tt rs s) (s.mem.take k)
theorem HC {R : V → List aw → Prop} {k : Nat} {rs : Array ResultVar} : KW R k tt rs .ret ⟨W n ws, mem⟩ = KV R k (gh tt rs ⟨W n ws, mem⟩) (mem.take k) := propext ⟨fun h => h.2, fun h => ⟨.inl rfl, h⟩⟩
theorem E8 {R : V → List aw → Prop} {k : Nat} {rs : Array ResultVar} : KW R k tt rs .normal ⟨W n ws, mem⟩ = KV R k (gh tt rs ⟨W n ws, mem⟩) (mem.take k) := propext ⟨fun h => h.2, fun h => ⟨.inr rfl, h⟩⟩
end
section
variable {P : Program} {tt : Table} {f : FuncId} {fn : Func} {body : Code} {args : List V}
theorem ef (ht : TT P tt) (sp : List Nat) (n : Nat) (rs : List ResultVar) {R : V → Prop} (hf : P.funcs[f]? = some fn) (hb : fn.body = some body)
  (dj : ∀ (xs : Array Value) (w : World), (callFunc f xs).run P w = .ok (.enter f xs) w) (hn : fn.ntmps = n ∧ fn.results = rs.toArray ∧ args.length ≤ n)
  (h : ∀ K : V → Prop, (∀ v, R v → K v) → vc false P tt sp none 0 body ⟨W n (tg 0 args), []⟩ (Ph K tt rs.toArray)) : ∃ r, R r ∧ aO P f args r := by
 have h := h R fun _ h => h
 obtain ⟨e, s, ⟨h1, r, hr, h2⟩, h3⟩ := xd (m := false) hn.1 hn.2.2 (vx (k_ := .b) ht h)
 exact ⟨r, hr, yE ht hf hb dj (h3 _ ⟨h1, by rw [hn.2.1]; exact h2⟩)⟩
theorem Rf (ht : TT P tt) (sp : List Nat) (n : Nat) (rs : List ResultVar) {r : V} (hf : P.funcs[f]? = some fn) (hb : fn.body = some body)
  (dj : ∀ (xs : Array Value) (w : World), (callFunc f xs).run P w = .ok (.enter f xs) w) (hn : fn.ntmps = n ∧ fn.results = rs.toArray ∧ args.length ≤ n)
  (h : ∀ K : V → Prop, (∀ v, v = r → K v) → vc true P tt sp none 0 body ⟨W n (tg 0 args), []⟩ (Ph K tt rs.toArray)) : aO P f args r := by
 have h := h (fun v => v = r) fun _ h => h
 exact yE ht hf hb dj (eL.mono (xd (m := true) hn.1 hn.2.2 (vx (k_ := .b) ht h)) fun e s ⟨h1, r', hr, h2⟩ => ⟨h1, by rw [hn.2.1, ← hr]; exact h2⟩)
theorem Ge (ht : TT P tt) (sp : List Nat) (n : Nat) (rs : List ResultVar) {R : V → List aw → Prop} {mem : List aw} (k : Nat) (hk : mem.length ≤ k) (hf : P.funcs[f]? = some fn) (hb : fn.body = some body)
  (dj : ∀ (xs : Array Value) (w : World), (callFunc f xs).run P w = .ok (.enter f xs) w) (hn : fn.ntmps = n ∧ fn.results = rs.toArray ∧ args.length ≤ n)
  (h : ∀ K : V → List aw → Prop, (∀ v m', R v m' → K v m') → vc false P tt sp none mem.length body ⟨W n (tg 0 args), mem⟩ (KW K k tt rs.toArray)) : ∃ r m', R r m' ∧ aR P f args mem r m' := by
 have h := h R fun _ _ h => h
 obtain ⟨e, s, ⟨h1, r, hr, h2, h4⟩, h5⟩ := xd (m := false) hn.1 hn.2.2 (vx (k_ := .b) ht h)
 exact ⟨r, _, hr, GK ht k hk hf hb dj (h5 _ ⟨h1, by rw [hn.2.1]; exact h2, h4.1, h4.2, rfl⟩)⟩
theorem Gf (ht : TT P tt) (sp : List Nat) (n : Nat) (rs : List ResultVar) {R : V → Prop} {mem : List aw} (hf : P.funcs[f]? = some fn) (hb : fn.body = some body)
  (dj : ∀ (xs : Array Value) (w : World), (callFunc f xs).run P w = .ok (.enter f xs) w) (hn : fn.ntmps = n ∧ fn.results = rs.toArray ∧ args.length ≤ n)
  (h : ∀ K : V → List aw → Prop, (∀ v m', R v ∧ m' = mem → K v m') → vc false P tt sp none mem.length body ⟨W n (tg 0 args), mem⟩ (KW K mem.length tt rs.toArray)) : ∃ r, R r ∧ aR P f args mem r mem := by
 obtain ⟨r, m', ⟨hr, rfl⟩, h⟩ := Ge ht sp n rs (R := fun r m' => R r ∧ m' = mem) mem.length (Nat.le_refl _) hf hb dj hn h
 exact ⟨r, hr, h⟩
end
end Go.Eng
end

section
namespace Go.Eng
variable [aH]
open Go.RowKit (Below)

mutual
def bt (σ : Nat → Nat) : V → V
 | .undef => .undef
 | .sc v => .sc v
 | .agg cs => .agg (ca σ cs)
 | .slice rows => .slice rows
 | .ms b v s l => .ms (σ b) v s l
 | .ptr b o => .ptr (σ b) o
 | .dd b v i o => .dd (σ b) v i o
 | .cg cs => .cg cs
 | .fQ f first cap => .fQ f (ca σ first) (ca σ cap)
 | .bN vs => .bN (ca σ vs)
 | .im b => .im (σ b)
 | .mp b => .mp (σ b)
 | .gn => .gn
 | .full rows => .full rows
def ca (σ : Nat → Nat) : List V → List V
 | [] => []
 | c :: r => bt σ c :: ca σ r
end
theorem cP (σ : Nat → Nat) : ∀ l : List V, ca σ l = l.map (bt σ)
 | [] => rfl
 | c :: r => by rw [ca, cP σ r]; rfl
def cq (σ : Nat → Nat) : aw → aw
 | .box cs => .box (ca σ cs)
 | .loop s p fr ps a b => .loop s p (ca σ fr) ps a b
 | .map aY c => .map (aY.map fun e => (e.1, e.2.1, bt σ e.2.2)) c
 | .dF m since seen last => .dF (σ m) since seen last
 | B => B
theorem th (σ : Nat → Nat) (B : aw) : (cq σ B).aC = B.aC := by cases B <;> rfl
theorem aW.zf {E : Env} {v : V} {x : Value} (h : aW E v x) : ∀ {n : Nat} {σ : Nat → Nat} {E2 : Env}, ai n v = true → (∀ ad y, E.F ad = some y → E2.F ad = some y) → (∀ k v t, k < n → E.aI k v = some t → E2.aI (σ k) v = some t) → aW E2 (bt σ v) x := by
 induction h with
 | undef => intros; exact .undef _ _
 | sc => intros; exact .sc _ _
 | slice E rows a cap nE ad xf ha ij hz hF h1 hR ih =>
  intro n σ E2 hb eO hk
  exact .slice _ _ _ _ nE ad xf ha ij hz (fun i row j c hi hj => eO _ _ (hF i row j c hi hj)) h1 fun i row j c hi hj => (hR i row j c hi hj).mono ⟨eO, fun _ _ _ h => by cases h⟩
 | ms E b v s l g e c a cap eX hl h0 CX =>
  intro n σ E2 hb eO hk
  exact .ms _ _ _ _ _ g e c _ _ (hk _ _ _ (by simpa [ai] using hb) eX) hl h0 CX
 | cZ => intros; exact .cZ _ _ _ _
 | ptr E b o g e c eX =>
  intro n σ E2 hb eO hk
  exact .ptr _ _ _ g e c (hk _ _ _ (by simpa [ai] using hb) eX)
 | im E b l e c eX =>
  intro n σ E2 hb eO hk
  exact .im _ _ l e c (hk _ _ _ (by simpa [ai] using hb) eX)
 | mp E b l e c eX =>
  intro n σ E2 hb eO hk
  exact .mp _ _ l e c (hk _ _ _ (by simpa [ai] using hb) eX)
 | dd E b v i o g e c eX =>
  intro n σ E2 hb eO hk
  exact .dd _ _ _ _ _ g e c (hk _ _ _ (by simpa [ai] using hb) eX)
 | cg E cs ad xf hF hR ih =>
  intro n σ E2 hb eO hk
  exact .cg _ _ _ xf (fun j c hj => eO _ _ (hF j c hj)) fun j c hj => (hR j c hj).mono ⟨eO, fun _ _ _ h => by cases h⟩
 | gn => intros; exact .gn _
 | full E rows a h ih =>
  intro n σ E2 hb eO hk
  exact .full _ _ _ (ih (n := n) (σ := σ) rfl eO hk)
 | agg E cs xs hl hh ih =>
  intro n σ E2 hb eO hk
  rw [ai, cw] at hb
  rw [bt, cP]
  refine .agg _ _ _ (by rw [List.length_map]; exact hl) fun i c x hc hx => ?_
  rw [List.getElem?_map, Option.map_eq_some_iff] at hc
  obtain ⟨c0, Bv, rfl⟩ := hc
  exact ih i c0 x Bv hx (List.all_eq_true.1 hb c0 (List.mem_of_getElem? Bv)) eO hk
 | bN E cs xs hl hh ih =>
  intro n σ E2 hb eO hk
  rw [ai, cw] at hb
  rw [bt, cP]
  refine .bN _ _ _ (by rw [List.length_map]; exact hl) fun i c x hc hx => ?_
  rw [List.getElem?_map, Option.map_eq_some_iff] at hc
  obtain ⟨c0, Bv, rfl⟩ := hc
  exact ih i c0 x Bv hx (List.all_eq_true.1 hb c0 (List.mem_of_getElem? Bv)) eO hk
 | fQ E f first cap xs ys hx hy h1 h2 NV NW =>
  intro n σ E2 hb eO hk
  rw [ai, cw, cw, Bool.and_eq_true] at hb
  rw [bt, cP, cP]
  refine .fQ _ _ _ _ _ _ (by rw [List.length_map]; exact hx) (by rw [List.length_map]; exact hy) (fun i c x hc hx => ?_) fun i c x hc hx => ?_
  ·rw [List.getElem?_map, Option.map_eq_some_iff] at hc
   obtain ⟨c0, Bv, rfl⟩ := hc
   exact NV i c0 x Bv hx (List.all_eq_true.1 hb.1 c0 (List.mem_of_getElem? Bv)) eO hk
  ·rw [List.getElem?_map, Option.map_eq_some_iff] at hc
   obtain ⟨c0, Bv, rfl⟩ := hc
   exact NW i c0 x Bv hx (List.all_eq_true.1 hb.2 c0 (List.mem_of_getElem? Bv)) eO hk
theorem aW.rf {E : Env} {u : V} {x : Value} (h : aW E u x) : ∀ {v : V} {n : Nat} {σ : Nat → Nat} {E2 : Env}, u = bt σ v → ai n v = true → (∀ ad y, E.F ad = some y → E2.F ad = some y) → (∀ k v t, k < n → E.aI (σ k) v = some t → E2.aI k v = some t) → aW E2 v x := by
 induction h with
 | undef =>
  intro v n σ E2 he hb eO hk
  cases v <;> simp only [bt,reduceCtorEq] at he
  exact .undef _ _
 | sc =>
  intro v n σ E2 he hb eO hk
  cases v <;> simp only [bt,reduceCtorEq,V.sc.injEq] at he
  subst he; exact .sc _ _
 | slice E rows a cap nE ad xf ha ij hz hF h1 hR ih =>
  intro v n σ E2 he hb eO hk
  cases v <;> simp only [bt,reduceCtorEq,V.slice.injEq] at he
  subst he
  exact .slice _ _ _ _ nE ad xf ha ij hz (fun i row j c hi hj => eO _ _ (hF i row j c hi hj)) h1 fun i row j c hi hj => (hR i row j c hi hj).mono ⟨eO, fun _ _ _ h => by cases h⟩
 | ms E b v s l g e c a cap eX hl h0 CX =>
  intro v n σ E2 he hb eO hk
  cases v <;> simp only [bt,reduceCtorEq,V.ms.injEq] at he
  obtain ⟨rfl, rfl, rfl, rfl⟩ := he
  exact .ms _ _ _ _ _ g e c _ _ (hk _ _ _ (by simpa [ai] using hb) eX) hl h0 CX
 | cZ =>
  intro v n σ E2 he hb eO hk
  cases v <;> simp only [bt,reduceCtorEq,V.ms.injEq] at he
  obtain ⟨rfl, rfl, rfl, rfl⟩ := he
  exact .cZ _ _ _ _
 | ptr E b o g e c eX =>
  intro v n σ E2 he hb eO hk
  cases v <;> simp only [bt,reduceCtorEq,V.ptr.injEq] at he
  obtain ⟨rfl, rfl⟩ := he
  exact .ptr _ _ _ g e c (hk _ _ _ (by simpa [ai] using hb) eX)
 | im E b l e c eX =>
  intro v n σ E2 he hb eO hk
  cases v <;> simp only [bt,reduceCtorEq,V.im.injEq] at he
  subst he
  exact .im _ _ l e c (hk _ _ _ (by simpa [ai] using hb) eX)
 | mp E b l e c eX =>
  intro v n σ E2 he hb eO hk
  cases v <;> simp only [bt,reduceCtorEq,V.mp.injEq] at he
  subst he
  exact .mp _ _ l e c (hk _ _ _ (by simpa [ai] using hb) eX)
 | dd E b v i o g e c eX =>
  intro v n σ E2 he hb eO hk
  cases v <;> simp only [bt,reduceCtorEq,V.dd.injEq] at he
  obtain ⟨rfl, rfl, rfl, rfl⟩ := he
  exact .dd _ _ _ _ _ g e c (hk _ _ _ (by simpa [ai] using hb) eX)
 | cg E cs ad xf hF hR ih =>
  intro v n σ E2 he hb eO hk
  cases v <;> simp only [bt,reduceCtorEq,V.cg.injEq] at he
  subst he
  exact .cg _ _ _ xf (fun j c hj => eO _ _ (hF j c hj)) fun j c hj => (hR j c hj).mono ⟨eO, fun _ _ _ h => by cases h⟩
 | full E rows a h ih =>
  intro v n σ E2 he hb eO hk
  cases v <;> simp only [bt,reduceCtorEq,V.full.injEq] at he
  subst he
  exact .full _ _ _ (ih (v := .slice rows) (n := n) (σ := σ) rfl rfl eO hk)
 | gn =>
  intro v n σ E2 he hb eO hk
  cases v <;> simp only [bt,reduceCtorEq] at he
  exact .gn _
 | agg E cs xs hl hh ih =>
  intro v n σ E2 he hb eO hk
  cases v <;> simp only [bt,reduceCtorEq,V.agg.injEq] at he
  subst he
  rw [ai, cw] at hb
  rw [cP, List.length_map] at hl
  refine .agg _ _ _ hl fun i c x hc hx => ?_
  exact ih i (bt σ c) x (by rw [cP, List.getElem?_map, hc]; rfl) hx rfl (List.all_eq_true.1 hb c (List.mem_of_getElem? hc)) eO hk
 | bN E cs xs hl hh ih =>
  intro v n σ E2 he hb eO hk
  cases v <;> simp only [bt,reduceCtorEq,V.bN.injEq] at he
  subst he
  rw [ai, cw] at hb
  rw [cP, List.length_map] at hl
  refine .bN _ _ _ hl fun i c x hc hx => ?_
  exact ih i (bt σ c) x (by rw [cP, List.getElem?_map, hc]; rfl) hx rfl (List.all_eq_true.1 hb c (List.mem_of_getElem? hc)) eO hk
 | fQ E f first cap xs ys hx hy h1 h2 NV NW =>
  intro v n σ E2 he hb eO hk
  cases v <;> simp only [bt,reduceCtorEq,V.fQ.injEq] at he
  obtain ⟨rfl, rfl, rfl⟩ := he
  rw [ai, cw, cw, Bool.and_eq_true] at hb
  rw [cP, List.length_map] at hx hy
  refine .fQ _ _ _ _ _ _ hx hy (fun i c x hc hx => ?_) fun i c x hc hx => ?_
  ·exact NV i (bt σ c) x (by rw [cP, List.getElem?_map, hc]; rfl) hx rfl (List.all_eq_true.1 hb.1 c (List.mem_of_getElem? hc)) eO hk
  ·exact NW i (bt σ c) x (by rw [cP, List.getElem?_map, hc]; rfl) hx rfl (List.all_eq_true.1 hb.2 c (List.mem_of_getElem? hc)) eO hk
theorem aP.zf {E E2 : Env} {vs : List V} {xs : List Value} {n : Nat} {σ : Nat → Nat} (h : aP E vs xs) (hb : vs.all (ai n) = true) (hF : ∀ ad y, E.F ad = some y → E2.F ad = some y) (hk : ∀ k v t, k < n → E.aI k v = some t → E2.aI (σ k) v = some t) : aP E2 (ca σ vs) xs := by
 rw [cP]
 refine ⟨by rw [List.length_map]; exact h.1, fun i v x hv hx => ?_⟩
 rw [List.getElem?_map, Option.map_eq_some_iff] at hv
 obtain ⟨c, hc, rfl⟩ := hv
 exact (h.2 i c x hc hx).zf (List.all_eq_true.1 hb c (List.mem_of_getElem? hc)) hF hk
theorem aP.rf {E E2 : Env} {vs : List V} {xs : List Value} {n : Nat} {σ : Nat → Nat} (h : aP E (ca σ vs) xs) (hb : vs.all (ai n) = true) (hF : ∀ ad y, E.F ad = some y → E2.F ad = some y) (hk : ∀ k v t, k < n → E.aI (σ k) v = some t → E2.aI k v = some t) : aP E2 vs xs := by
 rw [cP] at h
 refine ⟨by have := h.1; rwa [List.length_map] at this, fun i v x hv hx => ?_⟩
 exact (h.2 i (bt σ v) x (by rw [List.getElem?_map, hv]; rfl) hx).rf rfl (List.all_eq_true.1 hb v (List.mem_of_getElem? hv)) hF hk
theorem iB.zf {E E2 : Env} {w w2 : World} {k : Nat} {B : aw} {n : Nat} {σ : Nat → Nat} (h : iB E w k B) (eV : k < n) (hb : az n B = true) (hF : E2.F = E.F) (hk : ∀ k v, k < n → E2.aI (σ k) v = E.aI k v) (hw : w2.heap = w.heap) : iB E2 w2 (σ k) (cq σ B) := by
 have A6 : ∀ ad y, E.F ad = some y → E2.F ad = some y := fun ad y h => by rw [hF]; exact h
 have fH : ∀ k v t, k < n → E.aI k v = some t → E2.aI (σ k) v = some t := fun k v t hn h => by rw [hk k v hn]; exact h
 have hp : E2.pure = E.pure := Env.Eo hF rfl
 cases B with
 | hole => exact fun v => by rw [hk k v eV]; exact h v
 | dead => trivial
 | box cs =>
  obtain ⟨g, T, xs, h1, h2, h3, h4⟩ := h
  exact ⟨g, T, xs, fH _ _ _ eV h1, by rw [hw]; exact h2, h3.zf hb A6 fH, fun o => by rw [hF]; exact h4 o⟩
 | rows v e rs =>
  rcases h with ⟨h1, h2⟩ | ⟨g, T, xs, c, h1, h2, h3, h4, h5, h6⟩
  ·exact .inl ⟨h1, by rw [hk k v eV]; exact h2⟩
  ·exact .inr ⟨g, T, xs, c, fH _ _ _ eV h1, by rw [hw]; exact h2, h3, h4, by rw [hp]; exact h5, fun o => by rw [hF]; exact h6 o⟩
 | mX v e rs =>
  rcases h with ⟨h1, h2⟩ | ⟨g, c, h1, h2, h3⟩
  ·exact .inl ⟨h1, by rw [hk k v eV]; exact h2⟩
  ·exact .inr ⟨g, c, fH _ _ _ eV h1, h2, by rw [hp, hF]; exact h3⟩
 | loop s jx fr params assign body =>
  obtain ⟨l, fn, tmps, db, h1, h2, h3, h4⟩ := h
  exact ⟨l, fn, tmps, db, fH _ _ _ eV h1, by rw [hw]; exact h2, h3.zf hb A6 fH, fun o => by rw [hF]; exact h4 o⟩
 | map aY clock =>
  obtain ⟨g, es, h1, h2, h3, h4⟩ := h
  refine ⟨g, es, fH _ _ _ eV h1, by rw [hw]; exact h2, ⟨by rw [List.length_map]; exact h3.1, fun i kb e dC he => ?_⟩, fun o => by rw [hF]; exact h4 o⟩
  rw [List.getElem?_map, Option.map_eq_some_iff] at dC
  obtain ⟨q, hq, rfl⟩ := dC
  obtain ⟨p1, p2, p3⟩ := h3.2 i q e hq he
  exact ⟨p1, p2, p3.zf (List.all_eq_true.1 hb q (List.mem_of_getElem? hq)) A6 fH⟩
 | dF m since seen last =>
  obtain ⟨g, gm, e, c, h1, h2, h3, h4⟩ := h
  exact ⟨g, gm, e, c, fH _ _ _ eV h1, fH _ _ _ (by simpa [az] using hb) h2, by rw [hw]; exact h3, fun o => by rw [hF]; exact h4 o⟩
 | ia s pos =>
  obtain ⟨g, h1, h2, h3⟩ := h
  exact ⟨g, fH _ _ _ eV h1, by rw [hw]; exact h2, fun o => by rw [hF]; exact h3 o⟩
 | iA =>
  obtain ⟨g, h1, h2, h3⟩ := h
  exact ⟨g, fH _ _ _ eV h1, by rw [hw]; exact h2, fun o => by rw [hF]; exact h3 o⟩
theorem iB.rf {E E2 : Env} {w : World} {k : Nat} {B : aw} {n : Nat} {σ : Nat → Nat} (h : iB E w (σ k) (cq σ B)) (eV : k < n) (hb : az n B = true) (hF : E2.F = E.F) (hk : ∀ k v, k < n → E2.aI k v = E.aI (σ k) v) : iB E2 w k B := by
 have A6 : ∀ ad y, E.F ad = some y → E2.F ad = some y := fun ad y h => by rw [hF]; exact h
 have fH : ∀ k v t, k < n → E.aI (σ k) v = some t → E2.aI k v = some t := fun k v t hn h => by rw [hk k v hn]; exact h
 have hp : E2.pure = E.pure := Env.Eo hF rfl
 cases B with
 | hole => exact fun v => by rw [hk k v eV]; exact h v
 | dead => trivial
 | box cs =>
  obtain ⟨g, T, xs, h1, h2, h3, h4⟩ := h
  exact ⟨g, T, xs, fH _ _ _ eV h1, h2, h3.rf hb A6 fH, fun o => by rw [hF]; exact h4 o⟩
 | rows v e rs =>
  rcases h with ⟨h1, h2⟩ | ⟨g, T, xs, c, h1, h2, h3, h4, h5, h6⟩
  ·exact .inl ⟨h1, by rw [hk k v eV]; exact h2⟩
  ·exact .inr ⟨g, T, xs, c, fH _ _ _ eV h1, h2, h3, h4, by rw [hp]; exact h5, fun o => by rw [hF]; exact h6 o⟩
 | mX v e rs =>
  rcases h with ⟨h1, h2⟩ | ⟨g, c, h1, h2, h3⟩
  ·exact .inl ⟨h1, by rw [hk k v eV]; exact h2⟩
  ·exact .inr ⟨g, c, fH _ _ _ eV h1, h2, by rw [hp, hF]; exact h3⟩
 | loop s jx fr params assign body =>
  obtain ⟨l, fn, tmps, db, h1, h2, h3, h4⟩ := h
  exact ⟨l, fn, tmps, db, fH _ _ _ eV h1, h2, h3.rf hb A6 fH, fun o => by rw [hF]; exact h4 o⟩
 | map aY clock =>
  obtain ⟨g, es, h1, h2, h3, h4⟩ := h
  refine ⟨g, es, fH _ _ _ eV h1, h2, ⟨by have := h3.1; rwa [List.length_map] at this, fun i q e hq he => ?_⟩, fun o => by rw [hF]; exact h4 o⟩
  obtain ⟨p1, p2, p3⟩ := h3.2 i _ e (by rw [List.getElem?_map, hq]; rfl) he
  exact ⟨p1, p2, p3.rf rfl (List.all_eq_true.1 hb q (List.mem_of_getElem? hq)) A6 fH⟩
 | dF m since seen last =>
  obtain ⟨g, gm, e, c, h1, h2, h3, h4⟩ := h
  exact ⟨g, gm, e, c, fH _ _ _ eV h1, fH _ _ _ (by simpa [az] using hb) h2, h3, fun o => by rw [hF]; exact h4 o⟩
 | ia s pos =>
  obtain ⟨g, h1, h2, h3⟩ := h
  exact ⟨g, fH _ _ _ eV h1, h2, fun o => by rw [hF]; exact h3 o⟩
 | iA =>
  obtain ⟨g, h1, h2, h3⟩ := h
  exact ⟨g, fH _ _ _ eV h1, h2, fun o => by rw [hF]; exact h3 o⟩

def gj (σ : Nat → Nat) : Nat → List aw → List aw → List aw
 | _, [], M => M
 | i, B :: r, M => gj σ (i + 1) r (M.set (σ i) (cq σ B))
def mZ (σ : Nat → Nat) (n : Nat) (aE M : List aw) : List aw := gj σ 0 (aE.take n) M ++ (aE.drop n).map (cq σ)
theorem ec (σ : Nat → Nat) : ∀ (l : List aw) (i : Nat) (M : List aw), (gj σ i l M).length = M.length
 | [], _, _ => rfl
 | B :: r, i, M => by rw [gj, ec σ r]; simp
theorem qg (σ : Nat → Nat) : ∀ (l : List aw) (i : Nat) (M : List aw) (k : Nat), (∀ j, i ≤ j → j < i + l.length → σ j ≠ k) → (gj σ i l M)[k]? = M[k]?
 | [], _, _, _, _ => rfl
 | B :: r, i, M, k, h => by
  rw [gj, qg σ r (i + 1) _ k fun j h1 h2 => h j (by omega) (by simp; omega), List.getElem?_set_ne (h i (Nat.le_refl _) (by simp))]
theorem vz (σ : Nat → Nat) : ∀ (l : List aw) (i : Nat) (M : List aw) (j : Nat) (B : aw), (∀ a b, i ≤ a → a < i + l.length → i ≤ b → b < i + l.length → σ a = σ b → a = b) → i ≤ j → l[j - i]? = some B → σ j < M.length → (gj σ i l M)[σ j]? = some (cq σ B)
 | [], _, _, _, _, _, _, h, _ => by simp at h
 | C :: r, i, M, j, B, E9, pO, h, aD => by
  rw [gj]
  by_cases hj : j = i
  ·subst hj
   rw [Nat.sub_self] at h; cases h
   rw [qg σ r (j + 1) _ (σ j) fun a h1 h2 e => by have := E9 a j (by omega) (by simp; omega) (Nat.le_refl _) (by simp) e; omega]
   rw [List.getElem?_set]; simp [aD]
  ·refine vz σ r (i + 1) _ j B (fun a b h1 h2 h3 h4 => E9 a b (by omega) (by simp; omega) (by omega) (by simp; omega)) (by omega) ?_ (by simpa using aD)
   rw [show j - i = (j - (i + 1)) + 1 by omega] at h
   simpa using h
theorem aR.zf {P : Program} {f : FuncId} {vs : List V} {r : V} {mem aE : List aw} (h : aR P f vs mem r aE) (M : List aw) (σ : Nat → Nat) (n : Nat) (hn : n = mem.length) (hv : vs.all (ai n) = true) (hm : mem.all (az n) = true) (hr : ai aE.length r = true)
  (G4 : aE.all (az aE.length) = true) (hlen : n ≤ aE.length) (hσ : ∀ i B, mem[i]? = some B → M[σ i]? = some (cq σ B)) (E9 : ∀ i j, i < n → j < n → σ i = σ j → i = j) (fS : ∀ j, n ≤ j → σ j = M.length + (j - n)) :
  aR P f (ca σ vs) M (bt σ r) (mZ σ n aE M) := by
 subst hn
 have hold : ∀ i, i < mem.length → σ i < M.length := fun i hi => (List.getElem?_eq_some_iff.1 (hσ i _ (List.getElem?_eq_getElem hi))).1
 have hL : (mZ σ mem.length aE M).length = M.length + (aE.length - mem.length) := by
  unfold mZ
  rw [List.length_append, ec, List.length_map, List.length_drop]
 have Ko : ∀ i B, aE[i]? = some B → (mZ σ mem.length aE M)[σ i]? = some (cq σ B) := fun i B hi => by
  unfold mZ
  rcases Nat.lt_or_ge i mem.length with aD | c5
  ·rw [List.getElem?_append_left (by rw [ec]; exact hold i aD)]
   refine vz σ _ 0 M i B (fun a b _ h2 _ h4 he => ?_) (Nat.zero_le _) (by rw [Nat.sub_zero, List.getElem?_take_of_lt aD]; exact hi) (hold i aD)
   rw [List.length_take] at h2 h4
   exact E9 a b (by omega) (by omega) he
  ·rw [fS i c5, List.getElem?_append_right (by rw [ec]; omega), ec, Nat.add_sub_cancel_left, List.getElem?_map, List.getElem?_drop, show mem.length + (i - mem.length) = i by omega, hi]; rfl
 have bH : ∀ k, k < M.length → (∀ i, i < mem.length → σ i ≠ k) → (mZ σ mem.length aE M)[k]? = M[k]? := fun k hk h => by
  unfold mZ
  rw [List.getElem?_append_left (by rw [ec]; exact hk)]
  exact qg σ _ 0 M k fun j _ h2 => h j (by rw [List.length_take] at h2; omega)
 generalize mZ σ mem.length aE M = M' at hL Ko bH
 refine ⟨h.1, fun E w xs hs hx => ?_⟩
 have JQ : ∀ k v, k < mem.length → (⟨E.F, fun k v => if k < mem.length then E.aI (σ k) v else none, E.gl⟩ : Env).aI k v = E.aI (σ k) v := fun k v hk => if_pos hk
 have Pj : ∀ k v, mem.length ≤ k → (⟨E.F, fun k v => if k < mem.length then E.aI (σ k) v else none, E.gl⟩ : Env).aI k v = none := fun k v hk => if_neg (by omega)
 have BM : (⟨E.F, fun k v => if k < mem.length then E.aI (σ k) v else none, E.gl⟩ : Env).F = E.F := rfl
 generalize (⟨E.F, fun k v => if k < mem.length then E.aI (σ k) v else none, E.gl⟩ : Env) = E0 at JQ Pj BM
 have gJ : ∀ k v t, E0.aI k v = some t → k < mem.length ∧ E.aI (σ k) v = some t := fun k v t h => by
  rcases Nat.lt_or_ge k mem.length with hk | hk
  ·exact ⟨hk, by rw [← JQ k v hk]; exact h⟩
  ·rw [Pj k v hk] at h; cases h
 have Gc : bc E0 w { tmps := #[], defers := [] } { fr := [], mem := mem } :=
  ⟨fun ad y hy => hs.F ad y (by rw [← BM]; exact hy), fun k v g e c hk => hs.lt _ _ _ _ _ (gJ _ _ _ hk).2,
   fun k B hk => (hs.mem _ _ (hσ k B hk)).rf (List.getElem?_eq_some_iff.1 hk).1 (List.all_eq_true.1 hm B (List.mem_of_getElem? hk)) BM JQ,
   fun k hk v => Pj k v hk, fun k B hk v hv => by
    rw [JQ k v (List.getElem?_eq_some_iff.1 hk).1]
    exact hs.aC _ _ (hσ k B hk) v (by rw [th]; exact hv),
   fun k k' v v' g e c e' c' h1 h2 => by
    obtain ⟨p1, p2⟩ := gJ _ _ _ h1
    obtain ⟨q1, q2⟩ := gJ _ _ _ h2
    exact E9 k k' p1 q1 (hs.apart _ _ _ _ _ _ _ _ _ p2 q2), .nil _⟩
 have nH : aP E0 vs xs.toList := hx.rf hv (fun ad y hy => by rw [BM]; exact hy) fun k v t hk h => by rw [JQ k v hk]; exact h
 refine (h.2 E0 w xs Gc nH).mono ?_
 rintro en w1 ⟨E1, x, rfl, du, lr, uu⟩
 have HD : ∀ i v, i < mem.length → (⟨E1.F, fun K v => match (List.range mem.length).find? (fun i => σ i == K) with | some i => E1.aI i v | none => if K < M.length then E.aI K v else E1.aI (K - M.length + mem.length) v, E1.gl⟩ : Env).aI (σ i) v = E1.aI i v := fun i v hi => by
  show (match (List.range mem.length).find? (fun j => σ j == σ i) with | some i => E1.aI i v | none => _) = _
  have : (List.range mem.length).find? (fun j => σ j == σ i) = some i := by
   cases hf : (List.range mem.length).find? (fun j => σ j == σ i) with
   | none =>
    have := List.find?_eq_none.1 hf i (List.mem_range.2 hi)
    simp at this
   | some j =>
    have h1 := List.find?_some hf
    have h2 := List.mem_range.1 (List.mem_of_find?_eq_some hf)
    rw [E9 j i h2 hi (by simpa using h1)]
  rw [this]
 have dW : ∀ K, (∀ i, i < mem.length → σ i ≠ K) → (List.range mem.length).find? (fun i => σ i == K) = none := fun K h => List.find?_eq_none.2 fun i hi => by
  have := h i (List.mem_range.1 hi)
  simpa using this
 have hB : ∀ K v, K < M.length → (∀ i, i < mem.length → σ i ≠ K) → (⟨E1.F, fun K v => match (List.range mem.length).find? (fun i => σ i == K) with | some i => E1.aI i v | none => if K < M.length then E.aI K v else E1.aI (K - M.length + mem.length) v, E1.gl⟩ : Env).aI K v = E.aI K v := fun K v hK h => by
  show (match (List.range mem.length).find? (fun j => σ j == K) with | some i => E1.aI i v | none => _) = _
  rw [dW K h]
  exact if_pos hK
 have J5 : ∀ i v, mem.length ≤ i → (⟨E1.F, fun K v => match (List.range mem.length).find? (fun i => σ i == K) with | some i => E1.aI i v | none => if K < M.length then E.aI K v else E1.aI (K - M.length + mem.length) v, E1.gl⟩ : Env).aI (σ i) v = E1.aI i v := fun i v hi => by
  show (match (List.range mem.length).find? (fun j => σ j == σ i) with | some i => E1.aI i v | none => _) = _
  have jd := fS i hi
  rw [dW (σ i) fun j hj e => by have := hold j hj; omega]
  show (if σ i < M.length then E.aI (σ i) v else E1.aI (σ i - M.length + mem.length) v) = _
  rw [if_neg (by omega), jd, show M.length + (i - mem.length) - M.length + mem.length = i by omega]
 have BN : (⟨E1.F, fun K v => match (List.range mem.length).find? (fun i => σ i == K) with | some i => E1.aI i v | none => if K < M.length then E.aI K v else E1.aI (K - M.length + mem.length) v, E1.gl⟩ : Env).F = E1.F := rfl
 generalize (⟨E1.F, fun K v => match (List.range mem.length).find? (fun i => σ i == K) with | some i => E1.aI i v | none => if K < M.length then E.aI K v else E1.aI (K - M.length + mem.length) v, E1.gl⟩ : Env) = E2 at HD hB J5 BN
 have hA : ∀ i v, E2.aI (σ i) v = E1.aI i v := fun i v => by
  rcases Nat.lt_or_ge i mem.length with hi | hi
  ·exact HD i v hi
  ·exact J5 i v hi
 have cl : ∀ K, (∃ i, K = σ i) ∨ (K < M.length ∧ ∀ i, i < mem.length → σ i ≠ K) := fun K => by
  rcases Nat.lt_or_ge K M.length with hK | hK
  ·by_cases h : ∃ i, i < mem.length ∧ σ i = K
   ·obtain ⟨i, -, hi⟩ := h
    exact .inl ⟨i, hi.symm⟩
   ·exact .inr ⟨hK, fun i hi e => h ⟨i, hi, e⟩⟩
  ·exact .inl ⟨K - M.length + mem.length, by rw [fS _ (by omega)]; omega⟩
 have sG : ∀ K v g e c, (∀ i, i < mem.length → σ i ≠ K) → E.aI K v = some (g, e, c) → ∀ k0 v0 e0 c0, E0.aI k0 v0 ≠ some (g, e0, c0) := fun K v g e c hK hb k0 v0 e0 c0 h => by
  obtain ⟨h1, h2⟩ := gJ _ _ _ h
  exact hK k0 h1 (hs.apart _ _ _ _ _ _ _ _ _ h2 hb)
 have hle : E.le E2 := ⟨fun ad y hy => by rw [BN]; exact du.le.F _ _ (by rw [BM]; exact hy), fun K v t hk => by
  rcases cl K with ⟨i, rfl⟩ | ⟨hK, o6⟩
  ·rw [hA i v]
   rcases Nat.lt_or_ge i mem.length with hi | hi
   ·exact du.le.aI _ _ _ (by rw [JQ i v hi]; exact hk)
   ·rw [hs.top (σ i) (by rw [fS i hi]; dsimp only; omega) v] at hk; cases hk
  ·rw [hB K v hK o6]; exact hk⟩
 refine ⟨E2, x, rfl, ⟨hle, fun K v g e c hk => ?_, fun ad y hy => ?_, du.os, du.tape, du.output, du.size, fun b hb bH => du.heap b hb fun k v e c h => bH _ _ _ _ (gJ _ _ _ h).2⟩,
  ⟨fun ad y hy => lr.F _ _ (by rw [← BN]; exact hy), fun K v g e c hk => ?_, fun K B hk => ?_, fun K hk v => ?_, fun K B hk v hv => ?_, fun K K' v v' g e1 c1 e2 c2 h5 h6 => ?_, .nil _⟩, uu.zf hr (fun ad y hy => by rw [BN]; exact hy) fun k v t _ hk => by rw [hA]; exact hk⟩
 ·rcases cl K with ⟨i, rfl⟩ | ⟨hK, o6⟩
  ·rw [hA i v] at hk
   rcases du.aI _ _ _ _ _ hk with ⟨k0, v0, e0, c0, h⟩ | h
   ·exact .inl ⟨_, _, _, _, (gJ _ _ _ h).2⟩
   ·exact .inr h
  ·rw [hB K v hK o6] at hk; exact .inl ⟨_, _, _, _, hk⟩
 ·rw [BN] at hy
  rcases du.F _ _ hy with h | h | ⟨k0, v0, e0, c0, h⟩
  ·exact .inl (by rw [← BM]; exact h)
  ·exact .inr (.inl h)
  ·exact .inr (.inr ⟨_, _, _, _, (gJ _ _ _ h).2⟩)
 ·rcases cl K with ⟨i, rfl⟩ | ⟨hK, o6⟩
  ·rw [hA i v] at hk; exact lr.lt _ _ _ _ _ hk
  ·rw [hB K v hK o6] at hk; exact Nat.lt_of_lt_of_le (hs.lt _ _ _ _ _ hk) du.size
 ·rcases cl K with ⟨i, rfl⟩ | ⟨hK, o6⟩
  ·have hi : i < aE.length := by
    have h1 := (List.getElem?_eq_some_iff.1 hk).1
    rcases Nat.lt_or_ge i mem.length with h2 | h2
    ·omega
    ·have h3 := fS i h2
     dsimp only at h1; omega
   have eS := Ko i _ (List.getElem?_eq_getElem hi)
   rw [hk] at eS
   cases eS
   exact (lr.mem i _ (List.getElem?_eq_getElem hi)).zf hi (List.all_eq_true.1 G4 _ (List.getElem_mem hi)) BN (fun k v _ => hA k v) rfl
  ·dsimp only at hk
   rw [bH K hK o6] at hk
   refine (hs.mem K B hk).mono hle (fun v hv => by rw [hB K v hK o6]; exact hv) (fun g e c hb => du.heap g (hs.lt _ _ _ _ _ hb) fun k0 v0 e0 c0 h => sG _ _ _ _ _ o6 hb _ _ _ _ h) fun g e c o hb hn => ?_
   rw [BN]
   cases hy : E1.F ⟨g, o, none⟩ with
   | none => rfl
   | some y =>
    rcases du.F _ _ hy with h | h | ⟨k0, v0, e0, c0, h⟩
    ·rw [BM, hn] at h; cases h
    ·have := hs.lt _ _ _ _ _ hb; simp at h; omega
    ·exact absurd h (sG _ _ _ _ _ o6 hb _ _ _ _)
 ·rcases cl K with ⟨i, rfl⟩ | ⟨hK, o6⟩
  ·rw [hA i v]
   refine lr.top i ?_ v
   dsimp only at hk ⊢
   rcases Nat.lt_or_ge i mem.length with h2 | h2
   ·have := hold i h2; omega
   ·have h3 := fS i h2; omega
  ·dsimp only at hk; omega
 ·rcases cl K with ⟨i, rfl⟩ | ⟨hK, o6⟩
  ·rw [hA i v]
   have hi : i < aE.length := by
    have h1 := (List.getElem?_eq_some_iff.1 hk).1
    rcases Nat.lt_or_ge i mem.length with h2 | h2
    ·omega
    ·have h3 := fS i h2
     dsimp only at h1; omega
   have eS := Ko i _ (List.getElem?_eq_getElem hi)
   rw [hk] at eS
   cases eS
   rw [th] at hv
   exact lr.aC i _ (List.getElem?_eq_getElem hi) v hv
  ·rw [hB K v hK o6]
   dsimp only at hk
   rw [bH K hK o6] at hk
   exact hs.aC K B hk v hv
 ·have mixed : ∀ i K' v v' g e1 c1 e2 c2, (∀ i, i < mem.length → σ i ≠ K') → E1.aI i v = some (g, e1, c1) → E.aI K' v' = some (g, e2, c2) → False := fun i K' v v' g e1 c1 e2 c2 UY h h' => by
   rcases du.aI _ _ _ _ _ h with ⟨k0, v0, e0, c0, h0⟩ | h0
   ·exact absurd h0 (sG _ _ _ _ _ UY h' _ _ _ _)
   ·have := hs.lt _ _ _ _ _ h'; omega
  rcases cl K with ⟨i, rfl⟩ | ⟨hK, Pk⟩ <;> rcases cl K' with ⟨j, rfl⟩ | ⟨UY, BO⟩
  ·rw [hA] at h5 h6
   rw [lr.apart _ _ _ _ _ _ _ _ _ h5 h6]
  ·rw [hA] at h5; rw [hB K' _ UY BO] at h6
   exact (mixed _ _ _ _ _ _ _ _ _ BO h5 h6).elim
  ·rw [hB K _ hK Pk] at h5; rw [hA] at h6
   exact (mixed _ _ _ _ _ _ _ _ _ Pk h6 h5).elim
  ·rw [hB K _ hK Pk] at h5; rw [hB K' _ UY BO] at h6
   exact hs.apart _ _ _ _ _ _ _ _ _ h5 h6
theorem Fa (σ : Nat → Nat) : ∀ {v : V}, ai 0 v = true → bt σ v = v := fun {v} => by
 exact V.rec (motive_1 := fun v => ai 0 v = true → bt σ v = v) (motive_2 := fun l => dp 0 l = true → ca σ l = l)
  (fun _ => rfl) (fun _ _ => rfl) (fun cs ih h => by rw [bt, ih (by simpa [ai] using h)]) (fun _ _ _ => rfl) (fun b v s l h => by simp [ai] at h) (fun b o h => by simp [ai] at h)
  (fun b v i o h => by simp [ai] at h) (fun _ _ _ => rfl) (fun f a c i1 i2 h => by simp only [ai,Bool.and_eq_true] at h; rw [bt, i1 h.1, i2 h.2]) (fun vs ih h => by rw [bt, ih (by simpa [ai] using h)])
  (fun b h => by simp [ai] at h) (fun b h => by simp [ai] at h) (fun _ => rfl) (fun _ _ _ => rfl) (fun _ => rfl) (fun c r i1 i2 h => by simp only [dp,Bool.and_eq_true] at h; rw [ca, i1 h.1, i2 h.2]) v
end Go.Eng
end

section
namespace Go.Eng
variable [aH]
def swp (A B k : Nat) : Nat := if k = A then B else if k = B then A else k
theorem r6 (A B k : Nat) : swp A B (swp A B k) = k := by
 unfold swp
 by_cases h1 : k = A
 ·subst h1
  by_cases h2 : B = k
  ·simp [h2]
  ·simp [h2]
 ·by_cases h2 : k = B
  ·subst h2; simp [h1]
  ·simp [h1, h2]
def rh (A B : Nat) (mem : List aw) : List aw := ((mem.set A (mem.getD B .dead)).set B (mem.getD A .dead)).map (cq (swp A B))
section
variable {P : Program} {ρ : Option Nat} {n0 : Nat} {c : Code} {st : St} {Q : Exit → St → Prop}
theorem xe (A B : Nat) (mem : List aw) : (rh A B mem).length = mem.length := by simp [rh]
theorem vA {A B : Nat} {mem : List aw} (hA : A < mem.length) (hB : B < mem.length) (k : Nat) : (rh A B mem)[k]? = (mem[swp A B k]?).map (cq (swp A B)) := by
 unfold rh
 rw [List.getElem?_map]
 congr 1
 rw [List.getElem?_set, List.getElem?_set, List.length_set]
 unfold swp
 by_cases h1 : B = k
 ·subst h1
  rw [if_pos rfl, if_pos hB]
  by_cases h2 : B = A
  ·subst h2; rw [if_pos rfl, List.getD_eq_getElem?_getD, List.getElem?_eq_getElem hB]; rfl
  ·rw [if_neg h2, if_pos rfl, List.getD_eq_getElem?_getD, List.getElem?_eq_getElem hA]; rfl
 ·rw [if_neg h1]
  by_cases h2 : A = k
  ·subst h2; rw [if_pos rfl, if_pos hA, if_pos rfl, List.getD_eq_getElem?_getD, List.getElem?_eq_getElem hB]; rfl
  ·rw [if_neg h2, if_neg (fun e => h2 e.symm), if_neg (fun e => h1 e.symm)]
theorem zg (A B : Nat) (HD : n0 ≤ A) (vd : n0 ≤ B) (hA : A < st.mem.length) (hB : B < st.mem.length) (hf : st.fr.all (ai st.mem.length) = true) (hm : st.mem.all (az st.mem.length) = true)
  (h : eL P ρ n0 c { fr := ca (swp A B) st.fr, mem := rh A B st.mem } Q) : eL P ρ n0 c st Q := fun E0 w0 JO E w a he hs uK => by
 obtain ⟨E', hE⟩ : ∃ E' : Env, E' = { F := E.F, aI := fun k v => E.aI (swp A B k) v, gl := E.gl } := ⟨_, rfl⟩
 have eF : E'.F = E.F := by rw [hE]
 have eb : ∀ k v, E'.aI k v = E.aI (swp A B k) v := fun k v => by rw [hE]
 have UB : ∀ k v, E'.aI (swp A B k) v = E.aI k v := fun k v => by rw [eb, r6]
 have aD : ∀ k, k < st.mem.length → swp A B k < st.mem.length := fun k hk => by unfold swp; split <;> (try split) <;> assumption
 have c5 : ∀ k, st.mem.length ≤ k → swp A B k = k := fun k hk => by unfold swp; rw [if_neg (by omega), if_neg (by omega)]
 have du : dt E0 w0 E' w := by
  refine ⟨⟨fun ad x hx => by rw [eF]; exact he.le.F _ _ hx, fun k v t hk => ?_⟩, fun k v g e c hk => he.aI _ _ _ _ _ (by rw [← eb]; exact hk), fun ad x hx => he.F _ _ (by rw [← eF]; exact hx), he.os, he.tape, he.output, he.size, he.heap⟩
  rcases Nat.lt_or_ge k n0 with JM | JM
  ·rw [eb, show swp A B k = k by unfold swp; rw [if_neg (by omega), if_neg (by omega)]]; exact he.le.aI _ _ _ hk
  ·rw [JO k JM] at hk; cases hk
 refine h E0 w0 JO E' w a du ⟨fun ad x hx => hs.F _ _ (by rw [← eF]; exact hx), fun k v g e c hk => hs.lt _ _ _ _ _ (by rw [← eb]; exact hk), fun k Bk hk => ?_, fun k hk v => ?_, fun k Bk hk v hv => ?_, fun k k' v v' g e c e' c' q1 q2 => ?_, ?_⟩ ?_
 ·dsimp only at hk
  rw [vA hA hB, Option.map_eq_some_iff] at hk
  obtain ⟨B0, HE, rfl⟩ := hk
  have h1 := (hs.mem _ _ HE).zf (σ := swp A B) (E2 := E') (w2 := w) (n := st.mem.length) (List.getElem?_eq_some_iff.1 HE).1 (List.all_eq_true.1 hm _ (List.mem_of_getElem? HE)) eF (fun k v _ => UB k v) rfl
  rwa [r6] at h1
 ·dsimp only at hk
  rw [xe] at hk
  rw [eb, c5 k hk]
  exact hs.top k hk v
 ·dsimp only at hk
  rw [vA hA hB, Option.map_eq_some_iff] at hk
  obtain ⟨B0, HE, rfl⟩ := hk
  rw [eb]
  rw [th] at hv
  exact hs.aC _ _ HE v hv
 ·rw [eb] at q1 q2
  have := hs.apart _ _ _ _ _ _ _ _ _ q1 q2
  rw [← r6 A B k, this, r6]
 ·exact hs.fr.zf hf (fun ad y hy => by rw [eF]; exact hy) fun k v t _ hk => by rw [UB]; exact hk
 ·obtain ⟨rs, h1, h2, h3⟩ := uK
  exact ⟨rs, h1, h2, fun r hr => ⟨(h3 r hr).1, (h3 r hr).2.1, fun k v e c hk => (h3 r hr).2.2 _ _ _ _ (by rw [← eb]; exact hk)⟩⟩
theorem KX (A B : Nat) (HD : n0 ≤ A) (vd : n0 ≤ B) (hA : A < st.mem.length) (hB : B < st.mem.length) (hf : st.fr.all (ai st.mem.length) = true) (hm : st.mem.all (az st.mem.length) = true)
  (h : Ex P ρ n0 c { fr := ca (swp A B) st.fr, mem := rh A B st.mem } Q) : Ex P ρ n0 c st Q := by
 obtain ⟨e, s2, hq, h2⟩ := h
 exact ⟨e, s2, hq, fun Q' h' => zg A B HD vd hA hB hf hm (h2 Q' h')⟩
def ti (aY : List (Value × Nat × V)) (vs : List V) : List (Value × Nat × V) := List.zipWith (fun e v => (e.1, e.2.1, v)) aY vs
theorem tj (mem : List aw) (keys : List (Nat × Nat)) (k : Nat) {aY : List (Value × Nat × V)} {cl : Nat} (h : mem[k]? = some (.map aY cl)) : (bS mem keys)[k]? = some (.map aY cl) := by
 unfold bS
 induction keys generalizing mem with
 | nil => exact h
 | cons q r ih =>
  rw [List.foldl_cons]
  refine ih _ ?_
  rw [yy, h]; rfl
theorem bc.Pm {E : Env} {w : World} {a : Act} (hs : bc E w a st) {k : Nat} {aY : List (Value × Nat × V)} {cl : Nat} {vs' : List V} (hk : st.mem[k]? = some (.map aY cl)) (hp : cy st.mem (aY.map fun e => e.2.2) = some vs') :
  ∃ E', bc E' w a { st with mem := (bS st.mem ((aY.map fun e => e.2.2).flatMap cn)).set k (.map (ti aY vs') cl) } ∧ dt E w E' w := by
 obtain ⟨E', h1, h2, h3⟩ := hs.freeze hp
 refine ⟨E', ⟨h1.F, h1.lt, fun k' B hB => ?_, fun k' eS => h1.top k' (by simpa using eS), fun k' B hB v hv => ?_, h1.apart, h1.fr⟩, h2⟩
 ·dsimp only at hB
  rw [List.getElem?_set] at hB
  split at hB
  ·rename_i he; subst he
   split at hB
   ·cases hB
    obtain ⟨g, es, q1, q2, q3, q4⟩ := hs.mem k _ hk
    obtain ⟨g', es', p1, p2, p3, p4⟩ := h1.mem k _ (tj _ _ _ hk)
    rw [h2.le.aI _ _ _ q1] at p1
    cases p1
    rw [q2] at p2
    cases p2
    refine ⟨g, es, h2.le.aI _ _ _ q1, q2, ?_, p4⟩
    have hR : aP E (aY.map fun e => e.2.2) (es.toList.map fun e => e.val) := by
     refine ⟨by simpa using q3.1, fun i v x hv hx => ?_⟩
     rw [List.getElem?_map, Option.map_eq_some_iff] at hv hx
     obtain ⟨e1, ZS, rfl⟩ := hv
     obtain ⟨e2, UZ, rfl⟩ := hx
     exact (q3.2 i _ _ ZS UZ).2.2
    have Yl := h3 _ hR
    have hl : vs'.length = aY.length := by have h5 := Yl.1; have h6 := hR.1; simp only [List.length_map] at h5 h6; omega
    refine ⟨by unfold ti; rw [List.length_zipWith, hl, Nat.min_self]; exact q3.1, fun i kb e dC he => ?_⟩
    unfold ti at dC
    rw [List.getElem?_zipWith] at dC
    cases h7 : aY[i]? with
    | none => rw [h7] at dC; simp at dC
    | some e1 =>
     cases h8 : vs'[i]? with
     | none => rw [h7, h8] at dC; simp at dC
     | some v1 =>
      rw [h7, h8] at dC
      simp at dC
      subst dC
      obtain ⟨r1, r2, r3⟩ := q3.2 i _ _ h7 he
      exact ⟨r1, r2, Yl.2 i _ _ h8 (by rw [List.getElem?_map, he]; rfl)⟩
   ·cases hB
  ·exact h1.mem k' B hB
 ·dsimp only at hB
  rw [List.getElem?_set] at hB
  split at hB
  ·rename_i he; subst he
   split at hB
   ·cases hB
    exact h1.aC k _ (tj _ _ _ hk) v hv
   ·cases hB
  ·exact h1.aC k' B hB v hv
end
end Go.Eng
end

section
namespace Go.Eng
variable [aH]
theorem BP (mem : List aw) (keys : List (Nat × Nat)) (k : Nat) {cs : List V} (h : mem[k]? = some (.box cs)) : (bS mem keys)[k]? = some (.box cs) := by
 rw [kz, h]
 have : ∀ (ks : List (Nat × Nat)), jn ks k (some (.box cs)) = some (.box cs) := fun ks => by
  unfold jn; rfl
 exact this keys
section
variable {P : Program} {ρ : Option Nat} {n0 : Nat} {Q : Exit → St → Prop} {c : Code} {st : St}
theorem bc.HF {E : Env} {w : World} {a : Act} (hs : bc E w a st) {k : Nat} {cs vs' : List V} (hk : st.mem[k]? = some (.box cs)) (hp : cy st.mem cs = some vs') :
  ∃ E', bc E' w a { st with mem := (bS st.mem (cs.flatMap cn)).set k (.box vs') } ∧ dt E w E' w := by
 obtain ⟨E', h1, h2, h3⟩ := hs.freeze hp
 have hb := BP st.mem (cs.flatMap cn) k hk
 refine ⟨E', ⟨h1.F, h1.lt, fun k' B hB => ?_, fun k' eS => h1.top k' (by simpa using eS), fun k' B hB v hv => ?_, h1.apart, h1.fr⟩, h2⟩
 ·dsimp only at hB
  rw [List.getElem?_set] at hB
  split at hB
  ·rename_i he; subst he
   split at hB
   ·cases hB
    obtain ⟨g, T, xs, q1, q2, q3, q4⟩ := hs.mem k _ hk
    obtain ⟨g', T', om, p1, p2, p3, p4⟩ := h1.mem k _ hb
    rw [h2.le.aI _ _ _ q1] at p1
    cases p1
    rw [q2] at p2
    cases p2
    exact ⟨g, T, xs, h2.le.aI _ _ _ q1, q2, h3 _ q3, p4⟩
   ·cases hB
  ·exact h1.mem k' B hB
 ·dsimp only at hB
  rw [List.getElem?_set] at hB
  split at hB
  ·rename_i he; subst he
   split at hB
   ·cases hB
    exact h1.aC k _ hb v hv
   ·cases hB
  ·exact h1.aC k' B hB v hv
end
end Go.Eng
end

section
namespace Go.Eng
variable [aH]
section
variable {k_ : Tk} {m : Bool} {P : Program} {ρ : Option Nat} {n0 : Nat} {st : St} {Q : Exit → St → Prop} {n : Nat} {ws : List (Nat × V)} {mem : List aw} {c : Code}
theorem S6 {st' : St} (hw : ∀ E w a, bc E w a st → ∃ E', bc E' w a st' ∧ dt E w E' w) (h : X k_ m P ρ n0 c st' Q) : X k_ m P ρ n0 c st Q := by
 have key : ∀ Q' : Exit → St → Prop, eL P ρ n0 c st' Q' → eL P ρ n0 c st Q' := fun Q' h E0 w0 JO E w a he hs hm => by
  obtain ⟨E', h3, h4⟩ := hw E w a hs
  exact h E0 w0 JO E' w a (he.trans h4) h3 (hm.Gb h4)
 cases m
 ·obtain ⟨e, s2, hq, h2⟩ := h
  exact ⟨e, s2, hq, fun Q' h' => key Q' (h2 Q' h')⟩
 ·exact key Q h
theorem WQ {t : Nat} {v : V} (hn : t < n) (h : lk t ws = v) : (W n ws)[t]? = some v := by rw [ny, if_pos hn, h]
theorem zh (t v e : Nat) (hn : t < n) (h0 : lk t ws = .sc (.slice none 0 0)) (h : X k_ m P ρ n0 c ⟨W n ((t, .ms mem.length v 0 0) :: ws), mem ++ [.rows v e []]⟩ Q) : X k_ m P ρ n0 c ⟨W n ws, mem⟩ Q := by
 rw [← Dv] at h
 exact te (st' := ⟨(W n ws).set t (.ms mem.length v 0 0), mem ++ [.rows v e []]⟩) (fun E w a hs => (hs.yS (i := t) mem.length v (WQ hn h0)).lQ v e) h
theorem HG (v e : Nat) (h : X k_ m P ρ n0 c ⟨W n ws, mem ++ [.rows v e []]⟩ Q) : X k_ m P ρ n0 c ⟨W n ws, mem⟩ Q :=
 te (st' := ⟨W n ws, mem ++ [.rows v e []]⟩) (fun E w a hs => hs.lQ v e) h
theorem xg {cs : List V} (k j v e : Nat) (hk : mem[k]? = some (.box cs)) (hj : cs[j]? = some (.sc (.slice none 0 0))) (h : X k_ m P ρ n0 c ⟨W n ws, mem.set k (.box (cs.set j (.ms mem.length v 0 0))) ++ [.rows v e []]⟩ Q) : X k_ m P ρ n0 c ⟨W n ws, mem⟩ Q :=
 te (st' := ⟨W n ws, mem.set k (.box (cs.set j (.ms mem.length v 0 0))) ++ [.rows v e []]⟩) (fun E w a hs => (hs.OZ hk hj mem.length v).lQ v e) h
theorem qh {k : Nat} {cs vs' : List V} (hk : mem[k]? = some (.box cs)) (hp : cy mem cs = some vs') (h : X k_ m P ρ n0 c ⟨W n ws, (bS mem (cs.flatMap cn)).set k (.box vs')⟩ Q) : X k_ m P ρ n0 c ⟨W n ws, mem⟩ Q :=
 S6 (fun _ _ _ hs => bc.HF hs hk hp) h
theorem DB {k : Nat} {aY : List (Value × Nat × V)} {cl : Nat} {vs' : List V} (hk : mem[k]? = some (.map aY cl)) (hp : cy mem (aY.map fun e => e.2.2) = some vs')
  (h : X k_ m P ρ n0 c ⟨W n ws, (bS mem ((aY.map fun e => e.2.2).flatMap cn)).set k (.map (ti aY vs') cl)⟩ Q) : X k_ m P ρ n0 c ⟨W n ws, mem⟩ Q := S6 (fun _ _ _ hs => hs.Pm hk hp) h
theorem zi {t : Nat} {v : V} (h : lk t ws = v) : (W n ws).set t v = W n ws := by
 apply List.ext_getElem?
 intro i
 rw [List.getElem?_set, ny, jT]
 by_cases e : t = i
 ·subst e
  rw [if_pos rfl]
  by_cases h2 : t < n
  ·rw [if_pos h2, if_pos h2, h]
  ·rw [if_neg h2, if_neg h2]
 ·rw [if_neg e]
theorem HH {f : Nat → Nat} (i : Nat) : ∀ ws : List (Nat × V), lk i (ws.map fun p => (p.1, bt f p.2)) = bt f (lk i ws)
 | [] => rfl
 | p :: r => by
  simp only [List.map_cons,lk]
  split
  ·rfl
  ·exact HH i r
theorem WR {f : Nat → Nat} : ca f (W n ws) = W n (ws.map fun p => (p.1, bt f p.2)) := by
 rw [cP]
 unfold W
 rw [List.map_map]
 exact List.map_congr_left fun i _ => (HH i ws).symm
theorem HI {v' : V} (t : Nat) (h0 : lk t ws = v') (h : X k_ m P ρ n0 c ⟨W n ((t, v') :: ws), mem⟩ Q) : X k_ m P ρ n0 c ⟨W n ws, mem⟩ Q := by
 rw [← Dv, zi h0] at h
 exact h
theorem S7 (A B : Nat) (HD : n0 ≤ A) (vd : n0 ≤ B) (hA : A < mem.length) (hB : B < mem.length) (hf : Gd mem.length ws = true) (hm : mem.all (az mem.length) = true)
  (h : X k_ m P ρ n0 c ⟨W n (ws.map fun p => (p.1, bt (swp A B) p.2)), rh A B mem⟩ Q) : X k_ m P ρ n0 c ⟨W n ws, mem⟩ Q := by
 rw [← WR] at h
 cases m
 ·exact KX A B HD vd hA hB (Ht hf) hm h
 ·exact zg A B HD vd hA hB (Ht hf) hm h
end
end Go.Eng
end

section
namespace Go.Proofs.YtnfeacnbgbggfaaGreatDoor
open Go.Eng
attribute [go_sem] cL aS cj fO St.eval St.put dx fF wy List.all_cons List.all_nil Bool.and_true Bool.true_and Bool.and_self Value.oneCell' if_true if_false ba List.length_cons List.length_nil Nat.lt_irrefl List.nil_append List.cons_append List.append_nil List.set_cons_zero List.set_cons_succ List.getD_cons_zero List.getD_cons_succ pM dG jh lA mr List.map_nil List.map_cons Nat.zero_mul wi JX fieldAt kW dy List.drop_zero List.drop_succ_cons List.take_succ_cons List.take_zero List.getElem?_cons_zero List.getElem?_cons_succ List.head?_cons Nat.zero_add Nat.add_zero Nat.zero_le Nat.le_refl true_and and_true and_self dv lB rowsOf cu Bool.false_eq_true rC Om On Oo Oq Ot Ou Ov Ow Ox Oy Oz OA Gm Ke Kf Kg Kh Int.natCast_nonneg iC indexAt so CZ wq pK Int.toNat_natCast V.cells xW sk NY aX Option.map_some Option.map_none Option.bind_some List.size_toArray List.getElem?_toArray beq_self_eq_true decide_true decide_false Bool.not_true Bool.not_false jC lI kA gY cB jL J2 ku rowOf eM ne_eq not_true_eq_false not_false_eq_true gZ gO oH V.sc.injEq Value.bool.injEq oT List.flatMap_cons List.flatMap_nil cn ej Sl Sm Kq Kr Ks CY ZI ZJ ZK ZL V6 V7 Sz V8 V9 Wa Wb Wc Wd We Wf Wg Wh Wi Wj Wk Wl Wm SA SB SC SD List.toList_toArray List.append_eq Gu Gv A5 MI k8 cV lM vj ic hZ BG oI jm eo vu gG mC gT Hl OP KF qd qe AM cy dO cK bu runM dz uM rI ee oO rJ isHole dk yI aw.aC nO O0 ny Dv jT lk lg bo bF pk zk gQ bS sE List.foldl_cons List.foldl_nil tg ai dp az O2 O3 O4 O5 KP w6 Wx Hy Pd zG eG Hz Pf Pg sP Hv SX SY SZ S0 S2 Wy Wz WA WB WC WD WE WG WH WI WJ WK WL WM HB E6 HC E8 E7 jO gh jN lL yv List.replicate List.take_length
attribute [go_sem ↓] BK E5 O7 E4 O6 OW OX KS Dy
end Go.Proofs.YtnfeacnbgbggfaaGreatDoor
end

section
namespace Go.Eng
variable [aH]
open Go.RowKit (Below)
theorem bc.below {E : Env} {w w' : World} {a : Act} {st : St} (hs : bc E w a st) (hb : Below w.heap.size w w') : bc E w' a st ∧ dt E w E w' := by
 refine ⟨⟨fun ad y hy => ?_, fun k v g e c h => Nat.lt_of_lt_of_le (hs.lt _ _ _ _ _ h) hb.size, fun k B hk => ?_, hs.top, hs.aC, hs.apart, hs.fr⟩,
  ⟨E.le_refl, fun k v g e c h => .inl ⟨k, v, e, c, h⟩, fun _ _ h => .inl h, hb.os, hb.tape, hb.output, hb.size, fun b aD _ => hb.block b aD⟩⟩
 ·rw [hb.cell (World.block_lt_of_cell? w ad (hs.F ad y hy))]; exact hs.F ad y hy
 ·exact (hs.mem k B hk).mono E.le_refl (fun _ h => h) (fun g e c h => hb.block _ (hs.lt _ _ _ _ _ h)) fun _ _ _ _ _ h => h
end Go.Eng
end

section
namespace Go.Eng
variable [aH]
theorem bc.S8 {E : Env} {w w' : World} {a : Act} {st : St} (hs : bc E w a st) {b v e g c : Nat} {rs rs' : List V} {T : TypeId} {ys : Array Value} (hm : st.mem[b]? = some (.rows v e rs)) (hb : E.aI b v = some (g, e, c)) (hF : ∀ o, E.F ⟨g, o, none⟩ = none)
  (ZT : w'.os = w.os) (S9 : w'.tape = w.tape) (WS : w'.output = w.output) (jH : w.heap.size ≤ w'.heap.size) (hh : w'.heap[g]? = some (.cells ys T (0, 0))) (sw : ∀ k, k < w.heap.size → k ≠ g → w'.heap[k]? = w.heap[k]?)
  (Pn : ys.size = c * e) (Po : rs'.length ≤ c) (ZU : fA E.pure e rs' (fun o => ys[o]?)) : bc E w' a { st with mem := st.mem.set b (.rows v e rs') } ∧ dt E w E w' := by
 have aD := (List.getElem?_eq_some_iff.1 hm).1
 have ZV : ∀ ad x, E.F ad = some x → ad.block ≠ g := fun ad x h e => by
  have hc := hs.F ad x h
  obtain ⟨aI, off, spot⟩ := ad
  obtain rfl : aI = g := e
  have uo : spot = none := by
   unfold World.cell? at hc
   split at hc
   ·dsimp only at hc
    cases spot with
    | none => rfl
    | some s => simp at hc
   ·cases hc
  subst uo
  rw [hF] at h; cases h
 refine ⟨⟨fun ad x h => ?_, fun k v g e c h => Nat.lt_of_lt_of_le (hs.lt _ _ _ _ _ h) jH, fun k B hk => ?_, fun k hk => hs.top k (by simpa using hk), fun k B hk v hv => ?_, hs.apart, hs.fr⟩,
  ⟨E.le_refl, fun k v g e c h => .inl ⟨k, v, e, c, h⟩, fun _ _ h => .inl h, ZT, S9, WS, jH, fun k hk bH => sw k hk fun e => by subst e; exact bH _ _ _ _ hb⟩⟩
 ·have h1 := hs.F ad x h
  have h2 := World.block_lt_of_cell? w ad h1
  rw [← h1]
  unfold World.cell?
  rw [sw _ h2 (ZV ad x h)]
 ·rw [List.getElem?_set] at hk
  split at hk
  ·rename_i he; subst he
   cases hk
   exact .inr ⟨g, T, ys, c, hb, hh, Pn, Po, ZU, hF⟩
  ·rename_i bH
   refine (hs.mem k B hk).mono E.le_refl (fun _ h => h) (fun g' e' c' h => sw g' (hs.lt _ _ _ _ _ h) fun e => ?_) fun _ _ _ _ _ h => h
   subst e
   exact bH (hs.apart _ _ _ _ _ _ _ _ _ hb h)
 ·rw [List.getElem?_set] at hk
  split at hk
  ·rename_i he; subst he
   cases hk
   exact hs.aC b _ hm v hv
  ·exact hs.aC k B hk v hv
theorem aO.vB {P : Program} {f : FuncId} {args : List V} {m : List aw} {b v : Nat} (h : aO P f (.slice [] :: args) (.bN [])) (hp : ∀ E xs, aP E args xs → aP E.pure args xs) : aR P f (.ms b v 0 0 :: args) m (.sc (.tuple #[])) m := by
 refine ⟨h.1, fun E w xs hs hx => ?_⟩
 obtain ⟨x, ys, mq, hr, o7⟩ := hx.of_cons
 have uu : aW E.pure (.slice []) x := by
  cases hr with
  | ms _ _ _ _ _ g e c a cap hb hl h0 hc => exact .slice _ [] a cap 0 ⟨0, 0, none⟩ (fun _ _ => undef) (fun h => absurd rfl h) (Nat.zero_le _) (fun i row h => by simp at h) (fun i row j c h => by simp at h) (fun i row j c h => by simp at h) (fun i row j c h => by simp at h)
  | cZ => exact .slice _ [] none 0 0 ⟨0, 0, none⟩ (fun _ _ => undef) (fun h => absurd rfl h) (Nat.le_refl _) (fun i row h => by simp at h) (fun i row j c h => by simp at h) (fun i row j c h => by simp at h) (fun i row j c h => by simp at h)
 have F9 : aP E.pure (.slice [] :: args) xs.toList := by rw [mq]; exact aP.cons uu (hp E _ o7)
 refine (h.2 E.F E.gl w xs hs.F F9).mono ?_
 rintro e w' ⟨F', y, rfl, -, -, -, ⟨J7, hy⟩, zj⟩
 have hy : y = .tuple #[] := by
  cases hy with
  | bN _ _ zs hl hh => exact congrArg Value.tuple (Array.eq_empty_of_size_eq_zero (xs := zs) (by simpa using hl.symm))
 obtain ⟨h1, h2⟩ := hs.below zj
 exact ⟨E, y, rfl, h2, h1, by rw [hy]; exact .sc _ _⟩
end Go.Eng
end
