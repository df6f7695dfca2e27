/-
  THE ENGINE, W: cuts in regions, and frames that are written lazily: a region's writes are kept as a list, and only what is read behind the region is laid into the frame.
  THE ENGINE, X: outcomes that the data settle: a form of Tri under which cases may be made while the code is walked, and a result need not be named ahead.
  THE ENGINE, Y: regions that draw their order, with outcomes that the data settle.
  THE ENGINE, Z: loops over families of states; regions by the plain run.
  THE ENGINE, MP: maps with keys that are compared at once: what reading and writing come to.
  THE ENGINE, AG: two contracts of one call speak of one result; stores of which one map alone counts.
-/
import Derived.Test.YtnfeacnbgbggfaaGreatDoorE5
import Derived.Lib.Agree
set_option linter.all false
section
namespace Go.Eng
variable [aH]

def AM (t : Nat) (b : V) : List (Nat × V) → V
 | [] => b
 | p :: ws => if p.1 = t then p.2 else AM t b ws
def wr (n : Nat) (l : List V) (ws : List (Nat × V)) : List V := (List.range n).map fun i => AM i (l.getD i .undef) ws
theorem qd (n : Nat) (l : List V) (ws : List (Nat × V)) (t : Nat) : (wr n l ws)[t]? = if t < n then some (AM t (l.getD t .undef) ws) else none := by
 unfold wr
 rw [List.getElem?_map]
 by_cases h : t < n
 ·rw [if_pos h, List.getElem?_range h]; rfl
 ·rw [if_neg h, List.getElem?_eq_none (by simp; omega)]; rfl
theorem KF (n : Nat) (l : List V) (ws : List (Nat × V)) (t : Nat) : (wr n l ws).getD t .undef = if t < n then AM t (l.getD t .undef) ws else .undef := by
 rw [List.getD_eq_getElem?_getD, qd]; split <;> rfl
theorem qe (n : Nat) (l : List V) (ws : List (Nat × V)) : (wr n l ws).length = n := by simp [wr]
theorem OP (n : Nat) (l : List V) (ws : List (Nat × V)) (d : Nat) (v : V) : (wr n l ws).set d v = wr n l ((d, v) :: ws) := by
 apply List.ext_getElem?
 intro i
 rw [List.getElem?_set, qd, qd, qe]
 simp only [AM]
 by_cases h : d = i
 ·subst h; simp
 ·simp [h]
theorem OQ {n : Nat} {l : List V} (h : l.length = n) : wr n l [] = l := by
 apply List.ext_getElem?
 intro i
 rw [qd]
 simp only [AM]
 split
 ·rename_i hi
  rw [List.getD_eq_getElem?_getD, List.getElem?_eq_getElem (by omega)]; rfl
 ·rw [List.getElem?_eq_none (by omega)]
def rY (ws : List (Nat × V)) : Nat → List Nat → List V → List V
 | _, _, [] => []
 | _, [], v :: l => v :: l
 | i, c :: cs, v :: l => (match c with | 0 => v | 1 => .undef | _ => AM i v ws) :: rY ws (i + 1) cs l
def vt (cs : List Nat) (ws : List (Nat × V)) : Bool := ws.all fun p => match cs[p.1]? with | some 0 => false | none => false | _ => true
theorem y9 {t : Nat} {b : V} : ∀ {ws : List (Nat × V)}, (∀ p ∈ ws, p.1 ≠ t) → AM t b ws = b
 | [], _ => rfl
 | p :: ws, h => by
  simp only [AM,if_neg (h p (by simp))]
  exact y9 fun q hq => h q (by simp [hq])
theorem s8 {cs : List Nat} {ws : List (Nat × V)} (h : vt cs ws = true) {i : Nat} (hi : cs[i]? = some 0 ∨ cs[i]? = none) (b : V) : AM i b ws = b := by
 refine y9 fun p hp e => ?_
 have := List.all_eq_true.1 h p hp
 rw [e] at this
 rcases hi with hi | hi <;> rw [hi] at this <;> cases this
theorem Ds (ws : List (Nat × V)) : ∀ (l : List V) (cs : List Nat) (k i : Nat), (rY ws k cs l)[i]? = l[i]?.map fun v => match cs[i]? with | none => v | some 0 => v | some 1 => .undef | _ => AM (k + i) v ws
 | [], cs, k, i => by simp [rY]
 | v :: l, [], k, i => by simp [rY]
 | v :: l, c :: cs, k, 0 => by
  simp only [rY,List.getElem?_cons_zero,Option.map_some,Nat.add_zero]
  rcases c with _ | _ | c <;> rfl
 | v :: l, c :: cs, k, i + 1 => by
  simp only [rY,List.getElem?_cons_succ]
  rw [Ds ws l cs (k + 1) i, show k + 1 + i = k + (i + 1) by omega]
theorem Hk {ws : List (Nat × V)} {l : List V} {cs : List Nat} (hk : vt cs ws = true) {i : Nat} {v : V} (h : (rY ws 0 cs l)[i]? = some v) : v = .undef ∨ (wr l.length l ws)[i]? = some v := by
 rw [Ds, Option.map_eq_some_iff] at h
 obtain ⟨b, hb, hv⟩ := h
 have hi := (List.getElem?_eq_some_iff.1 hb).1
 have hd : l.getD i .undef = b := by rw [List.getD_eq_getElem?_getD, hb]; rfl
 rw [qd, if_pos hi, hd]
 rw [Nat.zero_add] at hv
 revert hv
 cases hc : cs[i]? with
 | none => intro hv; right; rw [s8 hk (.inr hc)]; exact congrArg some hv
 | some c =>
  rcases c with _ | _ | c
  ·intro hv; right; rw [s8 hk (.inl hc)]; exact congrArg some hv
  ·intro hv; left; exact hv.symm
  ·intro hv; right; exact congrArg some hv
theorem s9 (ws : List (Nat × V)) : ∀ (l : List V) (cs : List Nat) (k : Nat), (rY ws k cs l).length = l.length
 | [], cs, k => by simp [rY]
 | v :: l, [], k => by simp [rY]
 | v :: l, c :: cs, k => by simp [rY, s9 ws l cs (k + 1)]
theorem KG {E : Env} {ws : List (Nat × V)} {l : List V} {cs : List Nat} {xs : List Value} (hk : vt cs ws = true) (h : aP E (wr l.length l ws) xs) : aP E (rY ws 0 cs l) xs := by
 refine ⟨by rw [s9, ← h.1, qe], fun i v x hv hx => ?_⟩
 rcases Hk hk hv with rfl | h1
 ·exact .undef _ _
 ·exact h.2 i v x h1 hx

def gT (j : Nat) : List (Nat × Nat) → Option Nat
 | [] => none
 | p :: r => if p.1 = j then some p.2 else gT j r
def SK (all : Array Oper) (gl : List (Nat × Nat)) : Bool := gl.all fun p => (match (all[p.1]?).bind (·.dst) with | some d => decide (d = p.2) | none => false)
def Hl (want : Bool) : Option V → Option Bool
 | some (.sc (.bool b)) => some (b == want)
 | some (.sc _) => some false
 | some _ => none
 | none => some false
def mC (gl : List (Nat × Nat)) (all : Array Oper) (fr : List V) (o : Oper) : Option Bool :=
 match o.guard with
 | none => some true
 | some (j, want) => match gT j gl with
  | none => cj all fr o
  | some d => Hl want fr[d]?
theorem Na {all : Array Oper} : ∀ {gl : List (Nat × Nat)}, SK all gl = true → ∀ {j d : Nat}, gT j gl = some d → (all[j]?).bind (·.dst) = some d
 | [], _, j, d, h => by cases h
 | p :: r, hg, j, d, h => by
  have h1 := List.all_eq_true.1 hg p (by simp)
  simp only [gT] at h
  split at h
  ·rename_i e
   cases h
   rw [e] at h1
   cases hd : (all[j]?).bind (·.dst) with
   | none => rw [hd] at h1; cases h1
   | some d => rw [hd] at h1; exact congrArg some (of_decide_eq_true h1)
  ·exact Na (List.all_eq_true.2 fun q hq => List.all_eq_true.1 hg q (by simp [hq])) h
theorem BE {all : Array Oper} {gl : List (Nat × Nat)} (hg : SK all gl = true) (fr : List V) (o : Oper) : mC gl all fr o = cj all fr o := by
 unfold mC
 cases ho : o.guard with
 | none => unfold cj; rw [ho]
 | some g =>
  obtain ⟨j, want⟩ := g
  simp only
  cases ht : gT j gl with
  | none => rfl
  | some d =>
   have := Na hg ht
   unfold cj
   rw [ho]
   simp only [this]
   unfold Hl
   cases fr[d]? with
   | none => rfl
   | some v =>
    cases v with
    | sc x => cases x <;> rfl
    | _ => rfl
def gG (P : Program) (tt : Table) (gl : List (Nat × Nat)) (all : Array Oper) : List Oper → St → (St → Prop) → Prop
 | [], st, Q => Q st
 | o :: r, st, Q => match mC gl all st.fr o with
  | some true => aS P tt st.mem.length o st fun st' => gG P tt gl all r st' Q
  | some false => gG P tt gl all r (st.put o.dst (.sc undef)) Q
  | none => False
theorem ta {P : Program} {tt : Table} {gl : List (Nat × Nat)} {all : Array Oper} (hg : SK all gl = true) {Q : St → Prop} : ∀ (l : List Oper) (st : St), gG P tt gl all l st Q = cL P tt all l st Q
 | [], st => rfl
 | o :: r, st => by
  have ih := fun s => ta (P := P) (tt := tt) (Q := Q) hg r s
  simp only [gG,cL,BE hg,ih]
  rfl
section
variable {P : Program} {tt : Table} {ρ : Option Nat} {n0 : Nat} {Q : Exit → St → Prop} {l : List V} {mem : List aw}
theorem KH {c : Code} {cs : List Nat} {ws : List (Nat × V)} (hk : vt cs ws = true) (h : eL P ρ n0 c { fr := rY ws 0 cs l, mem := mem } Q) : eL P ρ n0 c { fr := wr l.length l ws, mem := mem } Q :=
 lK (st' := { fr := rY ws 0 cs l, mem := mem }) (fun E w a hs => ⟨hs.F, hs.lt, hs.mem, hs.top, hs.aC, hs.apart, KG hk hs.fr⟩) h
theorem qf (ht : TT P tt) (n : Nat) (cs : List Nat) (gl : List (Nat × Nat)) (hn : l.length = n) {id : Nat} {ops : Array Oper} {y : Code} (hg : SK ops gl = true)
  (h : ∀ K : St → Prop, (∀ ws aE, vt cs ws = true → eL P ρ n0 y { fr := rY ws 0 cs l, mem := aE } Q → K { fr := wr n l ws, mem := aE }) → gG P tt gl ops ops.toList { fr := wr n l [], mem := mem } K) :
  eL P ρ n0 (.seq (.region id ops false) y) { fr := l, mem := mem } Q := by
 subst hn
 refine bz ht fun K hK => ?_
 have := h K fun ws aE hk ht => hK _ (KH hk ht)
 rw [ta hg, OQ rfl] at this
 exact this
end
attribute [irreducible] gG
end Go.Eng
end

section
namespace Go.Eng
variable [aH]
def Ex (P : Program) (ρ : Option Nat) (n0 : Nat) (c : Code) (st : St) (Q : Exit → St → Prop) : Prop :=
  ∃ (e : Exit) (s : St), Q e s ∧ ∀ Q' : Exit → St → Prop, Q' e s → eL P ρ n0 c st Q'
section
variable {P : Program} {tt : Table} {ρ : Option Nat} {n0 : Nat} {st : St} {Q : Exit → St → Prop}
theorem Ex.mono {c : Code} {Q2 : Exit → St → Prop} (h : Ex P ρ n0 c st Q) (hq : ∀ e s, Q e s → Q2 e s) : Ex P ρ n0 c st Q2 := by
  obtain ⟨e, s, h1, h⟩ := h
  exact ⟨e, s, hq _ _ h1, h⟩
theorem Dt (h : Q .normal st) : Ex P ρ n0 .skip st Q := ⟨_, _, h, fun _ h => iJ h⟩
theorem OR (h : Q .ret st) : Ex P ρ n0 .ret st Q := ⟨_, _, h, fun _ h => jo h⟩
theorem KI {id : Nat} (h : Q (.exit id) st) : Ex P ρ n0 (.exit id) st Q := ⟨_, _, h, fun _ h => oK h⟩
theorem Hm {x y : Code} (h : Ex P ρ n0 x st (dI (fun st' => Ex P ρ n0 y st' Q) Q)) : Ex P ρ n0 (.seq x y) st Q := by
  obtain ⟨e, s, hq, h⟩ := h
  cases e with
  | normal =>
    obtain ⟨e2, s2, N4, h2⟩ := hq
    exact ⟨e2, s2, N4, fun Q' h' => fI (h _ (h2 Q' h'))⟩
  | _ => exact ⟨_, s, hq, fun Q' h' => fI (h (dI (fun st' => eL P ρ n0 y st' Q') Q') h')⟩
theorem KJ {c : Operand} {x y : Code} {b : Bool} (hc : st.eval c = .sc (.bool b)) (h : Ex P ρ n0 (if b = true then x else y) st Q) : Ex P ρ n0 (.cond c x y) st Q := by
  obtain ⟨e, s, hq, h⟩ := h
  exact ⟨e, s, hq, fun Q' h' => fJ hc (h Q' h')⟩
theorem Hn {id : Nat} {c : Code} (h : Ex P ρ n0 c st (eC id Q)) : Ex P ρ n0 (.block id c) st Q := by
  obtain ⟨e, s, hq, h⟩ := h
  cases e with
  | exit j =>
    by_cases hj : j = id
    · simp only [eC,if_pos hj] at hq
      exact ⟨_, s, hq, fun Q' h' => gf (h (eC id Q') (by simpa only [eC, if_pos hj] using h'))⟩
    · simp only [eC,if_neg hj] at hq
      exact ⟨_, s, hq, fun Q' h' => gf (h (eC id Q') (by simpa only [eC, if_neg hj] using h'))⟩
  | _ => exact ⟨_, s, hq, fun Q' h' => gf (h (eC id Q') h')⟩

def za (P : Program) (f : FuncId) (vs vs' : List V) (keys : List (Nat × Nat)) (st : St) (dst : Option Tmp) (Q : St → Prop) : Prop :=
  ∃ v, (aO P f vs' v ∧ Q ({ st with mem := cp st.mem keys v }.put dst v)) ∨ (sI P f vs v ∧ Q (st.put dst v)) ∨ ∃ m', aR P f vs st.mem v m' ∧ Q ({ st with mem := m' }.put dst v)
def Nb (P : Program) (f : FuncId) (vs : List V) (st : St) (dst : Option Tmp) (Q : St → Prop) : Prop :=
  ∃ v m', aR P f vs st.mem v m' ∧ Q ({ st with mem := m' }.put dst v)
def vu (P : Program) (f : FuncId) (vs : List V) (st : St) (dst : Option Tmp) (Q : St → Prop) : Prop :=
  match cy st.mem vs with
  | some vs' => za P f vs vs' (vs.flatMap cn) st dst Q
  | none => Nb P f vs st dst Q
@[congr] theorem Nc {f f' : FuncId} {us GD vs vs' : List V} {keys Nd : List (Nat × Nat)} {st st' : St} {dst : Option Tmp} {Q : St → Prop} (hf : f = f') (hu : us = GD) (hv : vs = vs') (hk : keys = Nd) (h : st = st') : za P f us vs keys st dst Q = za P f' GD vs' Nd st' dst Q := by rw [hf, hu, hv, hk, h]
def eo (P : Program) (tt : Table) (key : Nat) (o : Oper) (st : St) (Q : St → Prop) : Prop :=
  match o.op with
  | .alloc T => match tt T with
    | some i => Q ({ st with mem := ba st.mem key (.box (i.zero.map V.sc)) }.put o.dst (.ptr key 0))
    | none => False
  | .box _ x => match fF (st.eval x) with
    | some cs => Q ({ st with mem := ba st.mem key (.box cs) }.put o.dst (.ptr key 0))
    | none => False
  | .build T parts => match gZ P tt T parts.toList st.eval with
    | some v => Q (st.put o.dst v)
    | none => False
  | .buildSlice T len parts => match pM tt T len parts.toList st.eval with
    | some (size, rs) => Q ({ st with mem := ba st.mem key (.rows 0 size rs) }.put o.dst (.ms key 0 0 len))
    | none => False
  | .store T p x => match gY tt st.mem T (st.eval p) (st.eval x) with
    | some aE => Q ({ st with mem := aE }.put o.dst (.sc undef))
    | none => False
  | .call c => match c.callee with
    | .value f => match aX (st.eval f) (c.args.toList.map st.eval) with
      | some (g, vs) => vu P g vs st o.dst Q
      | none => False
    | .builtin .append => match c.args.toList.map st.eval with
      | [s, x] => match dv tt st.mem c.argTypes.toList s x with
        | some (size, nt, rows) => Q ({ st with mem := (cu st.mem key size rows nt).1 }.put o.dst (cu st.mem key size rows nt).2)
        | none => False
      | _ => False
    | .builtin .len => match fO P tt st o with
      | some v => Q (st.put o.dst v)
      | none => False
    | .builtin .max => match fO P tt st o with
      | some v => Q (st.put o.dst v)
      | none => False
    | .builtin .min => match fO P tt st o with
      | some v => Q (st.put o.dst v)
      | none => False
    | _ => False
  | .makeMap _ none => Q ({ st with mem := ba st.mem key (.map [] 0) }.put o.dst (.mp key))
  | .makeSlice T l c => match qN tt T (st.eval l) (st.eval c) with
    | some (size, rs, _) => Q ({ st with mem := ba st.mem key (.rows 0 size rs) }.put o.dst (.ms key 0 0 rs.length))
    | none => False
  | .mapUpdate T m k x => match ch P st.mem T (st.eval m) (st.eval k) (st.eval x) with
    | some aE => Q ({ st with mem := aE }.put o.dst (.sc undef))
    | none => False
  | .insert T m k x => match ch P st.mem T (st.eval m) (st.eval k) (st.eval x) with
    | some aE => Q ({ st with mem := aE }.put o.dst (.sc undef))
    | none => False
  | .binOp op T x y _ => match jC tt op T (st.eval x) (st.eval y) with
    | some _ => False
    | none => match fO P tt st o with
      | some v => Q (st.put o.dst v)
      | none => False
  | .move _ => match fO P tt st o with
    | some v => Q (st.put o.dst v)
    | none => False
  | .assign _ => match fO P tt st o with
    | some v => Q (st.put o.dst v)
    | none => False
  | .pick _ _ _ => match fO P tt st o with
    | some v => Q (st.put o.dst v)
    | none => False
  | .load _ _ => match fO P tt st o with
    | some v => Q (st.put o.dst v)
    | none => False
  | .nilCheck _ => match fO P tt st o with
    | some v => Q (st.put o.dst v)
    | none => False
  | .unOp _ _ _ => match fO P tt st o with
    | some v => Q (st.put o.dst v)
    | none => False
  | .convert _ _ _ => match fO P tt st o with
    | some v => Q (st.put o.dst v)
    | none => False
  | .makeFunc _ _ _ => match fO P tt st o with
    | some v => Q (st.put o.dst v)
    | none => False
  | .slice _ _ _ _ _ => match fO P tt st o with
    | some v => Q (st.put o.dst v)
    | none => False
  | .fieldAddr _ _ _ => match fO P tt st o with
    | some v => Q (st.put o.dst v)
    | none => False
  | .indexAddr _ _ _ => match fO P tt st o with
    | some v => Q (st.put o.dst v)
    | none => False
  | .field _ _ _ => match fO P tt st o with
    | some v => Q (st.put o.dst v)
    | none => False
  | .index _ _ _ => match fO P tt st o with
    | some v => Q (st.put o.dst v)
    | none => False
  | .extract _ _ => match fO P tt st o with
    | some v => Q (st.put o.dst v)
    | none => False
  | .lookup _ _ _ _ => match fO P tt st o with
    | some v => Q (st.put o.dst v)
    | none => False
  | _ => False
theorem Ho {key : Nat} {o : Oper} {Q : St → Prop} (h : eo P tt key o st Q) : ∃ s, Q s ∧ ∀ K : St → Prop, K s → aS P tt key o st K := by
  obtain ⟨dst, op, type, pos, after, guard⟩ := o
  cases op
  case call c =>
    obtain ⟨callee, args, UT⟩ := c
    cases callee
    case value f =>
      simp only [eo] at h
      split at h
      · rename_i g vs hg
        unfold vu at h
        split at h
        · rename_i vs' hp
          obtain ⟨v, ⟨h1, h2⟩ | ⟨h1, h2⟩ | ⟨m', h1, h2⟩⟩ := h
          · refine ⟨_, h2, fun K hK => ?_⟩
            simp only [aS]
            split
            · rename_i k hy; rw [hy] at hg; simp [aX] at hg
            · rw [hg]; exact .inl ⟨vs', v, hp, h1, hK⟩
          · refine ⟨_, h2, fun K hK => ?_⟩
            simp only [aS]
            split
            · rename_i k hy; rw [hy] at hg; simp [aX] at hg
            · rw [hg]; exact .inr (.inr (.inr ⟨v, h1, hK⟩))
          · refine ⟨_, h2, fun K hK => ?_⟩
            simp only [aS]
            split
            · rename_i k hy; rw [hy] at hg; simp [aX] at hg
            · rw [hg]; exact .inr (.inl ⟨v, m', h1, hK⟩)
        · obtain ⟨v, m', h1, h2⟩ := h
          refine ⟨_, h2, fun K hK => ?_⟩
          simp only [aS]
          split
          · rename_i k hy; rw [hy] at hg; simp [aX] at hg
          · rw [hg]; exact .inr (.inl ⟨v, m', h1, hK⟩)
      · exact h.elim
    case builtin b =>
      cases b
      case append =>
        simp only [eo] at h
        split at h
        · rename_i s x Da
          split at h
          · rename_i size nt rows ha
            refine ⟨_, h, fun K hK => ?_⟩
            simp only [aS,Da,ha]
            exact hK
          · exact h.elim
        · exact h.elim
      all_goals first
        | exact h.elim
        | (simp only [eo] at h
           split at h
           · rename_i v hv
             refine ⟨_, h, fun K hK => ?_⟩
             simp only [aS,hv]
             exact hK
           · exact h.elim)
    all_goals exact h.elim
  case binOp =>
    simp only [eo] at h
    split at h
    · exact h.elim
    · rename_i hn
      split at h
      · rename_i v hv
        refine ⟨_, h, fun K hK => ?_⟩
        simp only [aS,hn,hv]
        exact hK
      · exact h.elim
  case buildSlice =>
    simp only [eo] at h
    split at h
    · rename_i size rs hl
      refine ⟨_, h, fun K hK => ?_⟩
      simp only [aS,hl]
      exact hK
    · exact h.elim
  case store =>
    simp only [eo] at h
    split at h
    · rename_i m hl
      refine ⟨_, h, fun K hK => ?_⟩
      simp only [aS,hl]
      exact hK
    · exact h.elim
  case makeSlice T l c =>
    simp only [eo] at h
    split at h
    · rename_i size rs c' hl
      refine ⟨_, h, fun K hK => ?_⟩
      simp only [aS,hl]
      exact hK
    · exact h.elim
  case makeMap T l =>
    cases l with
    | none => exact ⟨_, h, fun K hK => hK⟩
    | some l => exact h.elim
  all_goals first
    | exact h.elim
    | (simp only [eo] at h
       split at h
       · rename_i v hv
         refine ⟨_, h, fun K hK => ?_⟩
         simp only [aS,hv]
         exact hK
       · exact h.elim)
def OS (P : Program) (tt : Table) (gl : List (Nat × Nat)) (all : Array Oper) : List Oper → St → (St → Prop) → Prop
  | [], st, Q => Q st
  | o :: r, st, Q => match mC gl all st.fr o with
    | some true => eo P tt st.mem.length o st fun st' => OS P tt gl all r st' Q
    | some false => OS P tt gl all r (st.put o.dst (.sc undef)) Q
    | none => False
theorem KK {R : V → List aw → Prop} {f : FuncId} {vs vs' : List V} {keys : List (Nat × Nat)} {dst : Option Tmp} {Q : St → Prop} (hr : ∃ v m', R v m' ∧ aR P f vs st.mem v m') (h : ∀ v m', R v m' → Q ({ st with mem := m' }.put dst v)) : za P f vs vs' keys st dst Q := by
  obtain ⟨v, m', h1, h2⟩ := hr
  exact ⟨v, .inr (.inr ⟨m', h2, h v m' h1⟩)⟩
attribute [irreducible] OS
def intOf : V → Int
  | .sc (.int _ n) => n
  | _ => 0
theorem Hp (P : Program) (T : TypeId) (x y : Operand) (k k' : IntKind) (a b : Int) (hb : ¬ b < 0) : aQ P (fC .shr T x y) (.sc (.int k a)) (.sc (.int k' b)) = some (.sc (.int k (a.fdiv (2 ^ min b.toNat k.bits)))) := by
  simp [aQ, bA, fC, binOp, Op.shift, eqGuard, aG, dx, bind, pure, Sem.bind, hb]
def Hq (k : IntKind) (a b : Int) : Int := k.wrap (BitVec.ofInt k.bits a &&& BitVec.ofInt k.bits b).toNat
theorem OT (P : Program) (T : TypeId) (x y : Operand) (k : IntKind) (a b : Int) : aQ P (fC .and T x y) (.sc (.int k a)) (.sc (.int k b)) = some (.sc (.int k (Hq k a b))) := by
  simp [aQ, bA, fC, binOp, eqGuard, aG, bind, pure, Sem.bind, Op.intBits, dx, Hq]
end
end Go.Eng
end

section
namespace Go.Eng
variable [aH]
section
variable {P : Program} {tt : Table} {ρ : Option Nat} {n0 : Nat} {Q : Exit → St → Prop}
theorem EW {o : Oper} {st : St} {Q : St → Prop} (h : lM P o st Q) : ∃ s, Q s ∧ ∀ K : St → Prop, K s → lM P o st K := by
 unfold lM at h
 split at h
 ·rename_i f xs heq
  split at h
  ·rename_i g vs hg
   obtain ⟨vs', r, h1, h2, h3⟩ := h
   refine ⟨_, h3, fun K hK => ?_⟩
   unfold lM
   rw [heq]
   dsimp only
   rw [hg]
   exact ⟨vs', r, h1, h2, hK⟩
  ·exact h.elim
 ·exact h.elim
theorem rZ {all : Array Oper} {base : Nat} {Q : St → Prop} : ∀ (l : List Oper) (ps : List Pl) (st : St), runM P tt all base l ps st Q → ∃ s, Q s ∧ ∀ K : St → Prop, K s → runM P tt all base l ps st K
 | [], ps, st, h => ⟨st, h, fun K hK => hK⟩
 | o :: r, [], st, h => h.elim
 | o :: r, p :: ps, st, h => by
  rw [runM] at h
  by_cases hz : p.cls = .z
  ·unfold dz at h
   split at h
   ·rename_i hw
    rw [hz] at h
    obtain ⟨s0, h1, h2⟩ := EW h
    obtain ⟨s, h3, h4⟩ := rZ r ps _ h1
    exact ⟨s, h3, fun K hK => by rw [runM]; unfold dz; simp only [hw,hz]; exact h2 _ (h4 K hK)⟩
   ·rename_i hw
    obtain ⟨s, h3, h4⟩ := rZ r ps _ h
    exact ⟨s, h3, fun K hK => by rw [runM]; unfold dz; simp only [hw]; exact h4 K hK⟩
   ·exact h.elim
  ·obtain ⟨v, m, h1, h2⟩ := (dY hz).1 h
   obtain ⟨s, h3, h4⟩ := rZ r ps _ h2
   exact ⟨s, h3, fun K hK => by rw [runM]; exact (dY hz).2 ⟨v, m, h1, h4 K hK⟩⟩
end
theorem EX {P : Program} {R : V → aw → Prop} {g : FuncId} {vs : List V} {k : Nat} {st : St} {dst : Option Tmp} {Q : St → Prop} {B0 : aw} (hv : st.mem[k]? = some B0) (h0 : B0.aC = 0)
  (hr : ∃ v B, R v B ∧ B.aC = 0 ∧ ∀ mem : List aw, mem[k]? = some B0 → aR P g vs mem v (mem.set k B)) (h : ∀ v B, R v B → Q ({ st with mem := st.mem.set k B }.put dst v)) : Bd P g vs k st dst Q := by
 obtain ⟨v, B, h1, h2, h3⟩ := hr
 exact ⟨v, B0, B, h0, h2, hv, h3, h v B h1⟩
end Go.Eng
end

section
namespace Go.Eng
variable [aH]
section
variable {P : Program} {tt : Table} {ρ : Option Nat} {n0 : Nat} {Q : Exit → St → Prop}
end
end Go.Eng
end

section
namespace Go.Eng
variable [aH]
theorem tb (n : Nat) (cs : List V) : az n (.box cs) = cs.all (ai n) := rfl
theorem nS (n : Nat) (aY : List (Value × Nat × V)) (c : Nat) : az n (.map aY c) = aY.all fun e => ai n e.2.2 := rfl
theorem KL (n v e : Nat) (rs : List V) : az n (.rows v e rs) = true := rfl
theorem KM (n : Nat) : az n .dead = true := rfl
theorem KN (n : Nat) : az n .hole = true := rfl
theorem iv (a b : ByteArray) : (a == b) = true ↔ a = b := by
 show ByteArray.beq a b = true ↔ _
 unfold ByteArray.beq
 constructor
 ·intro h
  have : a.data = b.data := by simpa using h
  exact ByteArray.ext this
 ·rintro rfl; simp
structure ZO (P : Program) (T kt et : TypeId) (K : Value → Prop) : Prop where
 map : cU P T = some (kt, et)
 desc : ∃ d, P.underlying kt = some d ∧ ∀ a b, K a → K b → ∃ q : Bool, Instr.sameNow d a b = some q ∧ (q = true ↔ a = b)
 ok : ∀ a, K a → nk P kt a = true
 bits : ∀ a, K a → Instr.sameBits 10000 a a = true
section
variable {P : Program} {T kt et : TypeId} {K : Value → Prop}
end
end Go.Eng
end

section
namespace Go.Eng
variable [aH]
end Go.Eng
end
