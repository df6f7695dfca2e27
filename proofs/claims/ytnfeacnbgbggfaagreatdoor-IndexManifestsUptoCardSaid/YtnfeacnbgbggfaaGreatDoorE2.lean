/-
  THE ENGINE, K: regions, code, functions.
-/
import Derived.Test.YtnfeacnbgbggfaaGreatDoorE1
import Derived.LoopNIn
import Derived.RangeFuncLeaves
import Derived.RangeFuncCalls
set_option linter.all false
section
namespace Go.Eng
variable [aE]
open Go.RowKit (Below)

def aR (P : Program) (f : FuncId) (args : List V) (mem : List au) (r : V) (aA : List au) : Prop :=
 (∀ (xs : Array Value) (w : World), (callFunc f xs).run P w = .ok (.enter f xs) w) ∧
 ∀ (E : Env) (w : World) (xs : Array Value), aV E w { tmps := #[], defers := [] } { fr := [], mem := mem } → aO E args xs.toList →
  Calls P f xs w fun e w' => ∃ E' x, e = .returned x ∧ dk E w E' w' ∧ aV E' w' { tmps := #[], defers := [] } { fr := [], mem := aA } ∧ aT E' r x

def gH (P : Program) (f : FuncId) (args : List V) (mem : List au) (R : V → List au → Prop) : Prop :=
 (∀ (xs : Array Value) (w : World), (callFunc f xs).run P w = .ok (.enter f xs) w) ∧
 ∀ (E : Env) (w : World) (xs : Array Value), aV E w { tmps := #[], defers := [] } { fr := [], mem := mem } → aO E args xs.toList →
  Calls P f xs w fun e w' => ∃ E' x r aA, e = .returned x ∧ R r aA ∧ dk E w E' w' ∧ aV E' w' { tmps := #[], defers := [] } { fr := [], mem := aA } ∧ aT E' r x
theorem gH.Xs {P : Program} {f : FuncId} {args : List V} {mem : List au} {r : V} {aA : List au} (h : gH P f args mem fun r' m' => r' = r ∧ m' = aA) : aR P f args mem r aA :=
 ⟨h.1, fun E w xs hs hx => (h.2 E w xs hs hx).mono fun e w' ⟨E', x, r', m', h1, ⟨h2, h3⟩, h4, h5, h6⟩ => by subst h2; subst h3; exact ⟨E', x, h1, h4, h5, h6⟩⟩
theorem aR.rel {P : Program} {f : FuncId} {args : List V} {mem : List au} {r : V} {aA : List au} (h : aR P f args mem r aA) : gH P f args mem fun r' m' => r' = r ∧ m' = aA :=
 ⟨h.1, fun E w xs hs hx => (h.2 E w xs hs hx).mono fun e w' ⟨E', x, h1, h4, h5, h6⟩ => ⟨E', x, _, _, h1, ⟨rfl, rfl⟩, h4, h5, h6⟩⟩
theorem gH.mono {P : Program} {f : FuncId} {args : List V} {mem : List au} {R R' : V → List au → Prop} (h : gH P f args mem R) (hR : ∀ r m, R r m → R' r m) : gH P f args mem R' :=
 ⟨h.1, fun E w xs hs hx => (h.2 E w xs hs hx).mono fun e w' ⟨E', x, r', m', h1, h2, h4⟩ => ⟨E', x, r', m', h1, hR _ _ h2, h4⟩⟩

theorem aV.bare {E : Env} {w : World} {a : Act} {st : St} (hs : aV E w a st) : aV E w { tmps := #[], defers := [] } { fr := [], mem := st.mem } :=
 ⟨hs.F, hs.lt, hs.mem, hs.top, hs.ay, hs.apart, .nil _⟩
theorem aV.yz {E E' : Env} {w w' : World} {a : Act} {st : St} {aA : List au} (hs : aV E w a st) (h : aV E' w' { tmps := #[], defers := [] } { fr := [], mem := aA }) (hle : E.le E') : aV E' w' a { st with mem := aA } :=
 ⟨h.F, h.lt, h.mem, h.top, h.ay, h.apart, hs.fr.mono hle⟩

def ba (fv : V) (args : List V) : Option (FuncId × List V) :=
 match fv with
 | .sc (.func (.func g) first cap) => some (g, first.toList.map V.sc ++ args ++ cap.toList.map V.sc)
 | .fU (.func g) first cap => some (g, first ++ args ++ cap)
 | _ => none

def sI (P : Program) (f : FuncId) (vs : List V) (r : V) : Prop :=
 ∀ (E : Env) (w : World) (xs : Array Value), (∀ ad x, E.F ad = some x → w.cell? ad = some x) → aO E vs xs.toList → ∃ x, (callFunc f xs).run P w = .ok (.value x) w ∧ aT E r x
def NV (P : Program) (f : FuncId) (vs : List V) : Option V :=
 match js vs with
 | some l => match aD P (callFunc f l.toArray) with | some (.value v) => some (dj v) | _ => none
 | none => none
theorem J8 {P : Program} {f : FuncId} {vs : List V} {r : V} (h : NV P f vs = some r) : sI P f vs r := fun E w xs hF hx => by
 unfold NV at h
 split at h
 ·rename_i l hl
  have := np hx hl
  split at h
  ·rename_i v hv
   cases h
   exact ⟨v, cz _ (by rw [← this] at hv; simpa using hv) w, fE E v⟩
  ·cases h
 ·cases h

def vg (P : Program) (f : FuncId) (vs : List V) (st : St) (dst : Option Tmp) (Q : St → Prop) : Prop :=
 (∃ vs' r, cj st.mem vs = some vs' ∧ aP P f vs' r ∧ Q ({ st with mem := cI st.mem (vs.flatMap ck) r }.put dst r)) ∨
 (∃ r aA, aR P f vs st.mem r aA ∧ Q ({ st with mem := aA }.put dst r)) ∨
 (∃ R, gH P f vs st.mem R ∧ ∀ r aA, R r aA → Q ({ st with mem := aA }.put dst r)) ∨
 (∃ r, sI P f vs r ∧ Q (st.put dst r))

def QM (P : Program) (k : Nat) (vs : List V) (mem : List au) (b : Bool) (aA : List au) : Prop :=
 ∀ (E : Env) (w : World) (xs : Array Value) (l e c : Nat), aV E w { tmps := #[], defers := [] } { fr := [], mem := mem } → aO E vs xs.toList → E.aG k 0 = some (l, e, c) →
  ∃ fn tmps assign body, (Instr.yield l xs).run P w = .ok (.round l fn tmps assign body) w ∧ RoundIn Fence.wide 0 P l fn tmps assign body w fun e w' => ∃ E', e = .returned (.bool b) ∧ dk E w E' w' ∧
   aV E' w' { tmps := #[], defers := [] } { fr := [], mem := aA }

def Eu (P : Program) (k : Nat) (vs : List V) (mem : List au) (R : Bool → List au → Prop) : Prop :=
 ∀ (E : Env) (w : World) (xs : Array Value) (l e c : Nat), aV E w { tmps := #[], defers := [] } { fr := [], mem := mem } → aO E vs xs.toList → E.aG k 0 = some (l, e, c) →
  ∃ fn tmps assign body, (Instr.yield l xs).run P w = .ok (.round l fn tmps assign body) w ∧ RoundIn Fence.wide 0 P l fn tmps assign body w fun e w' => ∃ E' b aA, e = .returned (.bool b) ∧ R b aA ∧ dk E w E' w' ∧
   aV E' w' { tmps := #[], defers := [] } { fr := [], mem := aA }
theorem Eu.Xs {P : Program} {k : Nat} {vs : List V} {mem aA : List au} {b : Bool} (h : Eu P k vs mem fun b' m' => b' = b ∧ m' = aA) : QM P k vs mem b aA := fun E w xs l e c hs hx hb => by
 obtain ⟨fn, tmps, assign, body, h1, h2⟩ := h E w xs l e c hs hx hb
 exact ⟨fn, tmps, assign, body, h1, h2.mono fun e w' ⟨E', b', m', h3, ⟨h4, h5⟩, h6, h7⟩ => by subst h4; subst h5; exact ⟨E', h3, h6, h7⟩⟩

def ow (bm : List (Nat × Nat)) (ev : Operand → V) : List (Nat × Operand) → List V → Option (List V)
 | [], cs => some cs
 | (i, x) :: r, cs => match bm[i]? with
  | some p => match fH (ev x) with
   | some new => if new.length = p.2 ∧ p.1 + p.2 ≤ cs.length then ow bm ev r (cA cs p.1 new) else none
   | none => none
  | none => none
def gI (ev : Operand → V) : List (Nat × Operand) → Option (List (Nat × Value))
 | [] => some []
 | (i, x) :: r => match ev x with
  | .sc v => match gI ev r with | some l => some ((i, v) :: l) | none => none
  | _ => none
def A0 (P : Program) (T : TypeId) (l : List (Nat × Value)) : Option V := match aD P (Instr.build T l.toArray) with
 | some (.agg cs) => some (.agg (cs.toList.map V.sc))
 | _ => none
def gV (P : Program) (tt : Table) (T : TypeId) (parts : List (Nat × Operand)) (ev : Operand → V) : Option V :=
 match tt T with
 | some i => if i.bm ≠ [] then (match ow i.bm ev parts (i.zero.map V.sc) with | some cs => some (.agg cs) | none => none) else
  match gI ev parts with | some l => A0 P T l | none => none
 | none => none
theorem lF {E : Env} {st : St} {a : Act} (dm : ∀ x, aT E (st.eval x) (a.eval x)) : ∀ {ps : List (Nat × Operand)} {l : List (Nat × Value)}, gI st.eval ps = some l → (ps.map fun p => (p.1, a.eval p.2)) = l
 | [], l, h => by cases h; rfl
 | (i, x) :: r, l, h => by
  simp only [gI] at h
  split at h
  ·rename_i v hv
   split at h
   ·rename_i l' hl
    cases h
    have hx := dm x
    rw [hv] at hx
    have : a.eval x = v := by cases hx; rfl
    simp only [List.map_cons,this,lF dm hl]
   ·cases h
  ·cases h

def lG (tt : Table) (T : TypeId) : V → Option Nat
 | .slice rows => match dA tt T with | some _ => some rows.length | none => none
 | .ms _ _ _ l => match dA tt T with | some _ => some l | none => none
 | _ => none
def jv (tt : Table) (op : BinOp) (T : TypeId) (x y : V) : Option Nat :=
 match op, y with
 | .eql, .sc (.slice none 0 0) => lG tt T x
 | .neq, .sc (.slice none 0 0) => lG tt T x
 | _, _ => none
def kq (op : BinOp) (b : Bool) : Bool := match op with | .neq => !b | _ => b
theorem nx {P : Program} {tt : Table} (ht : TT P tt) {T e : TypeId} (he : dA tt T = some e) (w : World) (xo yo : Operand) {op : BinOp} (kh : op = .eql ∨ op = .neq) (a : Option Addr) (l c : Nat) :
  (do eqGuard op T xo yo (.slice a l c) (.slice none 0 0); binOp op T (.slice a l c) (.slice none 0 0) : Sem Value).run P w = .ok (.bool (kq op a.isNone)) w := by
 unfold dA at he
 split at he
 ·rename_i i hi
  obtain ⟨d, hd, -, hZ, -⟩ := ht.desc T i hi
  obtain rfl := hZ e he
  have heq : (Op.equal T (.slice a l c) (.slice none 0 0)).run P w = .ok a.isNone w := by
   show (Op.equalIn (9999 + 1) T (.slice a l c) (.slice none 0 0)).run P w = _
   rw [Op.equalIn]
   simp only [Sem.run_bind,ao hd,Result.andThen_ok]
   cases a <;> rfl
  have hg : (eqGuard op T xo yo (.slice a l c) (.slice none 0 0)).run P w = .ok () w := by rcases kh with rfl | rfl <;> rfl
  rw [Sem.run_bind, hg, Result.andThen_ok]
  rcases kh with rfl | rfl
  ·show (do pure (Value.bool (← Op.equal T (.slice a l c) (.slice none 0 0))) : Sem Value).run P w = _
   rw [Sem.run_bind, heq]; rfl
  ·show (do pure (Value.bool (!(← Op.equal T (.slice a l c) (.slice none 0 0)))) : Sem Value).run P w = _
   rw [Sem.run_bind, heq]; rfl
 ·cases he
theorem wI {P : Program} {tt : Table} (ht : TT P tt) {E : Env} {w : World} {T : TypeId} {op : BinOp} {vx vy : V} {x y : Value} (xo yo : Operand) (hx : aT E vx x) (hy : aT E vy y) {n : Nat} (h : jv tt op T vx vy = some n) :
  ∃ b : Bool, (n ≠ 0 → b = false) ∧ (do eqGuard op T xo yo x y; binOp op T x y : Sem Value).run P w = .ok (.bool (kq op b)) w := by
 have gen : (op = .eql ∨ op = .neq) → y = .slice none 0 0 → lG tt T vx = some n → ∃ b : Bool, (n ≠ 0 → b = false) ∧ (do eqGuard op T xo yo x y; binOp op T x y : Sem Value).run P w = .ok (.bool (kq op b)) w := by
  intro kh YJ h
  subst YJ
  unfold lG at h
  split at h
  ·split at h
   ·rename_i e he
    cases h
    cases hx with
    | slice _ _ a cap nj ad xf ha hX hs hF h1 h2 =>
     refine ⟨a.isNone, fun hn => ?_, nx ht he w xo yo kh _ _ _⟩
     rw [ha (fun e => hn (by rw [e]; rfl))]; rfl
   ·cases h
  ·split at h
   ·rename_i e he
    cases h
    cases hx with
    | ms _ b v s l g e c a cap hb hl h0 hc =>
     refine ⟨a.isNone, fun hn => ?_, nx ht he w xo yo kh _ _ _⟩
     rw [hl (by omega)]; rfl
    | cZ => exact ⟨true, fun hn => absurd rfl hn, nx ht he w xo yo kh _ _ _⟩
   ·cases h
  ·cases h
 unfold jv at h
 split at h
 ·exact gen (.inl rfl) (bN hy) h
 ·exact gen (.inr rfl) (bN hy) h
 ·cases h

def C1 (mem : List au) (ev : Operand → V) (x : Operand) : V := match er mem (ev x) with | some v => v | none => ev x
def fh (ev : Operand → V) (parts : List (Nat × Operand)) : List (Nat × Nat) := (parts.map fun p => ev p.2).flatMap ck
def ny (tt : Table) (T : TypeId) (len : Nat) (parts : List (Nat × Operand)) (st : St) : Option (Nat × List V) :=
 match cj st.mem (parts.map fun p => st.eval p.2) with
 | some _ => pE tt T len parts (C1 st.mem st.eval)
 | none => none
def wJ (tt : Table) (mem : List au) (T : TypeId) (p v : V) : Option (List au) :=
 match er mem v with
 | some v' => gU tt (bL mem (ck v)) T p v'
 | none => none
def qH (tt : Table) (st : St) (ts : List TypeId) (s x : V) (dst : Option Tmp) (Q : St → Prop) : Prop :=
 match jj tt st.mem ts s x with
 | some (size, b, v, l, rs, xs) => ∀ (o : Nat) (rs' : List V), rs'.drop o = rs ++ xs → o + (l + xs.length) = rs'.length → Q ({ st with mem := st.mem.set b (.rows (v + 1) size rs') }.put dst (.ms b (v + 1) o (l + xs.length)))
 | none => False
def bx (P : Program) (tt : Table) (key : Nat) (o : Oper) (st : St) (Q : St → Prop) : Prop :=
 match o.op with
 | .alloc T => match tt T with
  | some i => Q ({ st with mem := aX st.mem key (.box (i.zero.map V.sc)) }.put o.dst (.ptr key 0))
  | none => False
 | .box _ x => match fH (st.eval x) with
  | some cs => Q ({ st with mem := aX st.mem key (.box cs) }.put o.dst (.ptr key 0))
  | none => False
 | .build T parts => match gV P tt T parts.toList st.eval with
  | some v => Q (st.put o.dst v)
  | none => False
 | .buildSlice T len parts => match pE tt T len parts.toList st.eval with
  | some (size, rs) => Q ({ st with mem := aX st.mem key (.rows 0 size rs) }.put o.dst (.ms key 0 0 len))
  | none => match ny tt T len parts.toList st with
   | some (size, rs) => Q ({ st with mem := aX (bL st.mem (fh st.eval parts.toList)) key (.rows 0 size rs) }.put o.dst (.ms key 0 0 len))
   | none => False
 | .store T p x => match gU tt st.mem T (st.eval p) (st.eval x) with
  | some aA => Q ({ st with mem := aA }.put o.dst (.sc undef))
  | none => match wJ tt st.mem T (st.eval p) (st.eval x) with
   | some aA => Q ({ st with mem := aA }.put o.dst (.sc undef))
   | none => False
 | .call { callee := .builtin .append, args := xs, argTypes := ts } => match xs.toList.map st.eval with
  | [s, x] => match dn tt st.mem ts.toList s x with
   | some (size, nZ, rows) => Q ({ st with mem := (ct st.mem key size rows nZ).1 }.put o.dst (ct st.mem key size rows nZ).2)
   | none => qH tt st ts.toList s x o.dst Q
  | _ => False
 | .call { callee := .value f, args := xs, .. } => match st.eval f with
  | .ik k => (∃ b aA, QM P k (xs.toList.map st.eval) st.mem b aA ∧ Q ({ st with mem := aA }.put o.dst (.sc (.bool b)))) ∨
    (∃ R, Eu P k (xs.toList.map st.eval) st.mem R ∧ ∀ b aA, R b aA → Q ({ st with mem := aA }.put o.dst (.sc (.bool b))))
  | fv => match ba fv (xs.toList.map st.eval) with
   | some (g, vs) => vg P g vs st o.dst Q
   | none => False
 | .makeSlice T l c => match qF tt T (st.eval l) (st.eval c) with
  | some (size, rs, _) => Q ({ st with mem := aX st.mem key (.rows 0 size rs) }.put o.dst (.ms key 0 0 rs.length))
  | none => False
 | .makeMap _ none => Q ({ st with mem := aX st.mem key (.map [] 0) }.put o.dst (.mp key))
 | .mapUpdate T m k x => match ch P st.mem T (st.eval m) (st.eval k) (st.eval x) with
  | some aA => Q ({ st with mem := aA }.put o.dst (.sc undef))
  | none => False
 | .insert T m k x => match ch P st.mem T (st.eval m) (st.eval k) (st.eval x) with
  | some aA => Q ({ st with mem := aA }.put o.dst (.sc undef))
  | none => False
 | .mapEntry T m k => match pF P st.mem T (st.eval m) (st.eval k) with
  | some (aA, v) => Q ({ st with mem := aA }.put o.dst v)
  | none => False
 | .entryStore _ m s x => match pG st.mem (st.eval m) (st.eval s) (st.eval x) with
  | some aA => Q ({ st with mem := aA }.put o.dst (.sc undef))
  | none => False
 | .call { callee := .builtin .delete, args := xs, argTypes := ts } => match ml P st.mem ts (xs.toList.map st.eval) with
  | some aA => Q ({ st with mem := aA }.put o.dst (.sc (.tuple #[])))
  | none => False
 | .range T x => match jI P st.mem T (st.eval x) with
  | some B => Q ({ st with mem := aX st.mem key B }.put o.dst (.ptr key 0))
  | none => False
 | .next it str => ov st o.dst (st.eval it) str Q
 | .binOp op T x y _ => match jv tt op T (st.eval x) (st.eval y) with
  | some n => ∀ b : Bool, (n ≠ 0 → b = false) → Q (st.put o.dst (.sc (.bool (kq op b))))
  | none => match fR P tt st o with
   | some v => Q (st.put o.dst v)
   | none => False
 | _ => match fR P tt st o with
  | some v => Q (st.put o.dst v)
  | none => False

theorem sJ {P : Program} {E : Env} {w : World} {fv : V} {fx : Value} {args : List V} {xs : Array Value} {g : FuncId} {vs : List V} (hf : aT E fv fx) (ha : aO E args xs.toList) (h : ba fv args = some (g, vs)) :
  ∃ d, ∃ ys : Array Value, aO E vs ys.toList ∧ (Deferred.ofValue fx xs).run P w = .ok d w ∧ (invoke d.target d.args).run P w = (callFunc g ys).run P w := by
 unfold ba at h
 split at h
 ·simp only [Option.some.injEq,Prod.mk.injEq] at h
  obtain ⟨rfl, rfl⟩ := h
  obtain rfl := bN hf
  rename_i g first cap
  have A1 : ∀ zs : Array Value, aO E (zs.toList.map V.sc) zs.toList := fun zs => ⟨by simp, fun i c x hc hx => iy E zs i c x hc (by simpa using hx)⟩
  exact ⟨{ target := .fn (.func g) cap, args := first ++ xs }, first ++ xs ++ cap, by simp only [Array.toList_append]; exact ((A1 first).append ha).append (A1 cap), rfl, by simp [invoke]⟩
 ·simp only [Option.some.injEq,Prod.mk.injEq] at h
  obtain ⟨rfl, rfl⟩ := h
  rename_i g _ _
  cases hf with
  | fU _ _ first cap ys zs h1 h2 h3 h4 =>
   refine ⟨{ target := .fn (.func g) zs, args := ys ++ xs }, ys ++ xs ++ zs, ?_, rfl, by simp [invoke]⟩
   simp only [Array.toList_append]
   exact (aO.append (aO.append ⟨by simpa using h1, fun i c x hc hx => h3 i c x hc (by simpa using hx)⟩ ha) ⟨by simpa using h2, fun i c x hc hx => h4 i c x hc (by simpa using hx)⟩)
 ·cases h

theorem lH {P : Program} {E : Env} {w : World} {fv : V} {fx : Value} {args : List V} {xs : Array Value} {g : FuncId} {vs : List V} (hf : aT E fv fx) (ha : aO E args xs.toList) (h : ba fv args = some (g, vs)) :
  ∃ ys : Array Value, aO E vs ys.toList ∧ (do let d ← Deferred.ofValue fx xs; invoke d.target d.args : Sem Next).run P w = (callFunc g ys).run P w := by
 unfold ba at h
 split at h
 ·simp only [Option.some.injEq,Prod.mk.injEq] at h
  obtain ⟨rfl, rfl⟩ := h
  obtain rfl := bN hf
  rename_i first cap
  have A1 : ∀ zs : Array Value, aO E (zs.toList.map V.sc) zs.toList := fun zs => ⟨by simp, fun i c x hc hx => iy E zs i c x hc (by simpa using hx)⟩
  refine ⟨first ++ xs ++ cap, by simp only [Array.toList_append]; exact ((A1 first).append ha).append (A1 cap), ?_⟩
  simp [Deferred.ofValue, invoke]
 ·simp only [Option.some.injEq,Prod.mk.injEq] at h
  obtain ⟨rfl, rfl⟩ := h
  cases hf with
  | fU _ _ first cap ys zs h1 h2 h3 h4 =>
   refine ⟨ys ++ xs ++ zs, ?_, ?_⟩
   ·simp only [Array.toList_append]
    exact (aO.append (aO.append ⟨by simpa using h1, fun i c x hc hx => h3 i c x hc (by simpa using hx)⟩ ha) ⟨by simpa using h2, fun i c x hc hx => h4 i c x hc (by simpa using hx)⟩)
   ·simp [Deferred.ofValue, invoke]
 ·cases h

theorem yA {P : Program} {tt : Table} {E : Env} {bm : List (Nat × Nat)} {ev : Operand → V} {av : Operand → Value} (ot : ∀ o, aT E (ev o) (av o)) : ∀ (parts : List (Nat × Operand)) (cs : List V) (xs : Array Value) (out : List V),
  aO E cs xs.toList → ow bm ev parts cs = some out → ∃ ys, Instr.fill (bm[·]?) xs (parts.map fun p => (p.1, av p.2)) = some ys ∧ aO E out ys.toList := by
 intro parts
 induction parts with
 | nil => intro cs xs out hr h; simp only [ow,Option.some.injEq] at h; subst h; exact ⟨xs, rfl, hr⟩
 | cons p r ih =>
  intro cs xs out hr h
  obtain ⟨i, x⟩ := p
  simp only [ow] at h
  split at h
  ·rename_i p hp
   split at h
   ·rename_i new iD
    split at h
    ·rename_i hc
     obtain ⟨h1, h2⟩ := kn (ot x) iD
     have kd : (av x).cells.size = p.2 := by have := h1.1; simp at this; omega
     have na : xs.size = cs.length := by have := hr.1; simp at this; omega
     obtain ⟨ys, h3, h4⟩ := ih _ _ out (qz new _ cs xs p.1 h1 hr) h
     refine ⟨ys, ?_, h4⟩
     simp only [List.map_cons,Instr.fill,hp,kd]
     rw [if_neg (by simp; omega), ← h3]
     congr 1
     rw [← Array.foldl_toList, Array.toList_zipIdx]
     exact qB p.1 (av x).cells.toList 0 xs
    ·cases h
   ·cases h
  ·cases h

theorem ox {P : Program} {tt : Table} (ht : TT P tt) {E : Env} {w : World} {a : Act} {st : St} (hs : aV E w a st) {T : TypeId} {parts : Array (Nat × Operand)} {v : V} (h : gV P tt T parts.toList st.eval = some v) :
  ∃ x, (Instr.build T (parts.map fun (i, x) => (i, a.eval x))).run P w = .ok x w ∧ aT E v x := by
 unfold gV at h
 split at h
 ·rename_i i hi
  split at h
  ·rename_i bD
   split at h
   ·rename_i cs uj
    simp only [Option.some.injEq] at h; subst h
    obtain ⟨info, qC, -, -, z, hz, El⟩ := ht.size T i hi
    obtain ⟨d, hd, -, -, QN⟩ := ht.desc T i hi
    obtain ⟨ys, h1, h2⟩ := yA (P := P) (tt := tt) hs.eval parts.toList _ z.cells cs (by rw [El]; exact ⟨by simp, fun i c x hc hx => by
     simp only [List.getElem?_map,hx,Option.map_some,Option.some.injEq] at hc; subst hc; exact .sc _ _⟩) uj
    have YK : ∃ fs, d = .struct fs ∧ fs.size = i.bm.length ∧ ∀ k (hk : k < fs.size), ∃ inf, P.info? fs[k].type = some inf ∧ i.bm[k]? = some (fs[k].offset, inf.size) := by
     have iF : 0 < i.bm.length := List.length_pos_iff.2 bD
     obtain ⟨fs, fd, inf, rfl, hlen, -⟩ := QN 0 (i.bm[0]).1 (i.bm[0]).2 (List.getElem?_eq_getElem iF)
     refine ⟨fs, rfl, hlen, fun k hk => ?_⟩
     obtain ⟨Xt, fd, inf, he, -, QO, RC, Uf, Xu, -⟩ := QN k (i.bm[k]'(by omega)).1 (i.bm[k]'(by omega)).2 (List.getElem?_eq_getElem (by omega))
     cases he
     rw [Array.getElem?_eq_getElem hk] at QO; cases QO
     exact ⟨inf, Uf, by rw [List.getElem?_eq_getElem (by omega), RC, Xu]⟩
    obtain ⟨fs, rfl, hlen, bn⟩ := YK
    have A1 : (fs.mapM fun f => do pure (f.offset, ← sizeOf f.type) : Sem (Array (Nat × Nat))).run P w = .ok i.bm.toArray w := by
     have gen : ∀ (l : List Field) (fl : List (Nat × Nat)), l.length = fl.length → (∀ k (hk : k < l.length), ∃ inf, P.info? l[k].type = some inf ∧ fl[k]? = some (l[k].offset, inf.size)) →
       (l.mapM fun f => do pure (f.offset, ← sizeOf f.type) : Sem (List (Nat × Nat))).run P w = .ok fl w := by
      intro l
      induction l with
      | nil => intro fl hl _; have : fl = [] := List.length_eq_zero_iff.1 hl.symm; subst this; rfl
      | cons f r ih =>
       intro fl hl hk
       cases fl with
       | nil => simp at hl
       | cons p fl =>
        obtain ⟨inf, h1, h2⟩ := hk 0 (by simp)
        simp only [List.getElem_cons_zero,List.getElem?_cons_zero,Option.some.injEq] at h1 h2
        subst h2
        have := ih fl (by simpa using hl) fun k bS => hk (k + 1) (Nat.succ_lt_succ bS)
        simp only [List.mapM_cons,Sem.run_bind,c5 h1,Result.andThen_ok,Sem.run_pure,this]
     have := gen fs.toList i.bm hlen fun k hk => bn k hk
     rw [Array.mapM_eq_mapM_toList]
     simp only [Sem.run_map,this,Result.andThen_ok]
    have nt : (parts.map fun (i, x) => (i, a.eval x)).toList = parts.toList.map fun p => (p.1, a.eval p.2) := by simp
    refine ⟨.agg ys, ?_, .agg _ _ _ (by simpa using h2.1) fun i c x hc hx => h2.2 i c x hc (by simpa using hx)⟩
    unfold Instr.build
    have RA : (zeroValue T).run P w = .ok z w := by simp [zeroValue, cD qC, hz]
    simp only [Sem.run_bind,RA,Result.andThen_ok,ao hd,A1,nt]
    have RD : (fun (k : Nat) => i.bm.toArray[k]?) = (fun (k : Nat) => i.bm[k]?) := by funext k; simp
    simp only [RD,h1]
    simp
   ·cases h
  ·split at h
   ·rename_i l hl
    have hp := lF hs.eval hl
    unfold A0 at h
    split at h
    ·rename_i cs uj
     cases h
     refine ⟨.agg cs, ?_, .agg _ _ _ (by simp) (iy E cs)⟩
     have nt : (parts.map fun (i, x) => (i, a.eval x)) = l.toArray := by rw [← hp]; apply Array.toList_inj.1; simp
     rw [nt]
     exact cz _ uj w
    ·cases h
   ·cases h
 ·cases h
end Go.Eng
end
