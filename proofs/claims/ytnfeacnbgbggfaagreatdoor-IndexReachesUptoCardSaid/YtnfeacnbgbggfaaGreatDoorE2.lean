/-
  THE ENGINE, K: regions, code, functions.
-/
import Derived.Test.YtnfeacnbgbggfaaGreatDoorE1
import Derived.LoopNIn
import Derived.RangeFuncLeaves
import Derived.RangeFuncCalls
set_option linter.all false
section
namespace Go.Eng
variable [aG]
open Go.RowKit (Below)

def aU (P : Program) (f : FuncId) (args : List V) (mem : List ay) (r : V) (aF : List ay) : Prop :=
 (∀ (xs : Array Value) (w : World), (callFunc f xs).run P w = .ok (.enter f xs) w) ∧
 ∀ (E : Env) (w : World) (xs : Array Value), bd E w { tmps := #[], defers := [] } { fr := [], mem := mem } → aQ E args xs.toList →
  Calls P f xs w fun e w' => ∃ E' x, e = .returned x ∧ dt E w E' w' ∧ bd E' w' { tmps := #[], defers := [] } { fr := [], mem := aF } ∧ aX E' r x

def gH (P : Program) (f : FuncId) (args : List V) (mem : List ay) (R : V → List ay → Prop) : Prop :=
 (∀ (xs : Array Value) (w : World), (callFunc f xs).run P w = .ok (.enter f xs) w) ∧
 ∀ (E : Env) (w : World) (xs : Array Value), bd E w { tmps := #[], defers := [] } { fr := [], mem := mem } → aQ E args xs.toList →
  Calls P f xs w fun e w' => ∃ E' x r aF, e = .returned x ∧ R r aF ∧ dt E w E' w' ∧ bd E' w' { tmps := #[], defers := [] } { fr := [], mem := aF } ∧ aX E' r x
theorem gH.XB {P : Program} {f : FuncId} {args : List V} {mem : List ay} {r : V} {aF : List ay} (h : gH P f args mem fun r' m' => r' = r ∧ m' = aF) : aU P f args mem r aF :=
 ⟨h.1, fun E w xs hs hx => (h.2 E w xs hs hx).mono fun e w' ⟨E', x, r', m', h1, ⟨h2, h3⟩, h4, h5, h6⟩ => by subst h2; subst h3; exact ⟨E', x, h1, h4, h5, h6⟩⟩
theorem aU.rel {P : Program} {f : FuncId} {args : List V} {mem : List ay} {r : V} {aF : List ay} (h : aU P f args mem r aF) : gH P f args mem fun r' m' => r' = r ∧ m' = aF :=
 ⟨h.1, fun E w xs hs hx => (h.2 E w xs hs hx).mono fun e w' ⟨E', x, h1, h4, h5, h6⟩ => ⟨E', x, _, _, h1, ⟨rfl, rfl⟩, h4, h5, h6⟩⟩
theorem gH.mono {P : Program} {f : FuncId} {args : List V} {mem : List ay} {R R' : V → List ay → Prop} (h : gH P f args mem R) (hR : ∀ r m, R r m → R' r m) : gH P f args mem R' :=
 ⟨h.1, fun E w xs hs hx => (h.2 E w xs hs hx).mono fun e w' ⟨E', x, r', m', h1, h2, h4⟩ => ⟨E', x, r', m', h1, hR _ _ h2, h4⟩⟩

theorem bd.bare {E : Env} {w : World} {a : Act} {st : St} (hs : bd E w a st) : bd E w { tmps := #[], defers := [] } { fr := [], mem := st.mem } :=
 ⟨hs.F, hs.lt, hs.mem, hs.top, hs.aC, hs.apart, .nil _⟩
theorem bd.xX {E E' : Env} {w w' : World} {a : Act} {st : St} {aF : List ay} (hs : bd E w a st) (h : bd E' w' { tmps := #[], defers := [] } { fr := [], mem := aF }) (hle : E.le E') : bd E' w' a { st with mem := aF } :=
 ⟨h.F, h.lt, h.mem, h.top, h.aC, h.apart, hs.fr.mono hle⟩

def bn (fv : V) (args : List V) : Option (FuncId × List V) :=
 match fv with
 | .sc (.func (.func g) first cap) => some (g, first.toList.map V.sc ++ args ++ cap.toList.map V.sc)
 | .fS (.func g) first cap => some (g, first ++ args ++ cap)
 | _ => none

def sr (P : Program) (f : FuncId) (vs : List V) (r : V) : Prop :=
 ∀ (E : Env) (w : World) (xs : Array Value), (∀ ad x, E.F ad = some x → w.cell? ad = some x) → aQ E vs xs.toList → ∃ x, (callFunc f xs).run P w = .ok (.value x) w ∧ aX E r x
def ND (P : Program) (f : FuncId) (vs : List V) : Option V :=
 match jn vs with
 | some l => match aH P (callFunc f l.toArray) with | some (.value v) => some (dH v) | _ => none
 | none => none
theorem JF {P : Program} {f : FuncId} {vs : List V} {r : V} (h : ND P f vs = some r) : sr P f vs r := fun E w xs hF hx => by
 unfold ND at h
 split at h
 ·rename_i l hl
  have := nr hx hl
  split at h
  ·rename_i v hv
   cases h
   exact ⟨v, cI _ (by rw [← this] at hv; simpa using hv) w, fC E v⟩
  ·cases h
 ·cases h

def uM (P : Program) (f : FuncId) (vs : List V) (st : St) (dst : Option Tmp) (Q : St → Prop) : Prop :=
 (∃ vs' r, cD st.mem vs = some vs' ∧ aP P f vs' r ∧ Q ({ st with mem := cP st.mem (vs.flatMap cr) r }.put dst r)) ∨
 (∃ r aF, aU P f vs st.mem r aF ∧ Q ({ st with mem := aF }.put dst r)) ∨
 (∃ R, gH P f vs st.mem R ∧ ∀ r aF, R r aF → Q ({ st with mem := aF }.put dst r)) ∨
 (∃ r, sr P f vs r ∧ Q (st.put dst r))

def QB (P : Program) (k : Nat) (vs : List V) (mem : List ay) (b : Bool) (aF : List ay) : Prop :=
 ∀ (E : Env) (w : World) (xs : Array Value) (l e c : Nat), bd E w { tmps := #[], defers := [] } { fr := [], mem := mem } → aQ E vs xs.toList → E.aK k 0 = some (l, e, c) →
  ∃ fn tmps assign body, (Instr.yield l xs).run P w = .ok (.round l fn tmps assign body) w ∧ RoundIn Fence.wide 0 P l fn tmps assign body w fun e w' => ∃ E', e = .returned (.bool b) ∧ dt E w E' w' ∧
   bd E' w' { tmps := #[], defers := [] } { fr := [], mem := aF }

def D1 (P : Program) (k : Nat) (vs : List V) (mem : List ay) (R : Bool → List ay → Prop) : Prop :=
 ∀ (E : Env) (w : World) (xs : Array Value) (l e c : Nat), bd E w { tmps := #[], defers := [] } { fr := [], mem := mem } → aQ E vs xs.toList → E.aK k 0 = some (l, e, c) →
  ∃ fn tmps assign body, (Instr.yield l xs).run P w = .ok (.round l fn tmps assign body) w ∧ RoundIn Fence.wide 0 P l fn tmps assign body w fun e w' => ∃ E' b aF, e = .returned (.bool b) ∧ R b aF ∧ dt E w E' w' ∧
   bd E' w' { tmps := #[], defers := [] } { fr := [], mem := aF }
theorem D1.XB {P : Program} {k : Nat} {vs : List V} {mem aF : List ay} {b : Bool} (h : D1 P k vs mem fun b' m' => b' = b ∧ m' = aF) : QB P k vs mem b aF := fun E w xs l e c hs hx hb => by
 obtain ⟨fn, tmps, assign, body, h1, h2⟩ := h E w xs l e c hs hx hb
 exact ⟨fn, tmps, assign, body, h1, h2.mono fun e w' ⟨E', b', m', h3, ⟨h4, h5⟩, h6, h7⟩ => by subst h4; subst h5; exact ⟨E', h3, h6, h7⟩⟩

def oz (bz : List (Nat × Nat)) (ev : Operand → V) : List (Nat × Operand) → List V → Option (List V)
 | [], cs => some cs
 | (i, x) :: r, cs => match bz[i]? with
  | some p => match fH (ev x) with
   | some new => if new.length = p.2 ∧ p.1 + p.2 ≤ cs.length then oz bz ev r (cb cs p.1 new) else none
   | none => none
  | none => none
def gI (ev : Operand → V) : List (Nat × Operand) → Option (List (Nat × Value))
 | [] => some []
 | (i, x) :: r => match ev x with
  | .sc v => match gI ev r with | some l => some ((i, v) :: l) | none => none
  | _ => none
def Ap (P : Program) (T : TypeId) (l : List (Nat × Value)) : Option V := match aH P (Instr.build T l.toArray) with
 | some (.agg cs) => some (.agg (cs.toList.map V.sc))
 | _ => none
def gU (P : Program) (tt : Table) (T : TypeId) (parts : List (Nat × Operand)) (ev : Operand → V) : Option V :=
 match tt T with
 | some i => if i.bz ≠ [] then (match oz i.bz ev parts (i.zero.map V.sc) with | some cs => some (.agg cs) | none => none) else
  match gI ev parts with | some l => Ap P T l | none => none
 | none => none
theorem lx {E : Env} {st : St} {a : Act} (du : ∀ x, aX E (st.eval x) (a.eval x)) : ∀ {ps : List (Nat × Operand)} {l : List (Nat × Value)}, gI st.eval ps = some l → (ps.map fun p => (p.1, a.eval p.2)) = l
 | [], l, h => by cases h; rfl
 | (i, x) :: r, l, h => by
  simp only [gI] at h
  split at h
  ·rename_i v hv
   split at h
   ·rename_i l' hl
    cases h
    have hx := du x
    rw [hv] at hx
    have : a.eval x = v := by cases hx; rfl
    simp only [List.map_cons,this,lx du hl]
   ·cases h
  ·cases h

def ly (tt : Table) (T : TypeId) : V → Option Nat
 | .slice rows => match dz tt T with | some _ => some rows.length | none => none
 | .ms _ _ _ l => match dz tt T with | some _ => some l | none => none
 | _ => none
def jt (tt : Table) (op : BinOp) (T : TypeId) (x y : V) : Option Nat :=
 match op, y with
 | .eql, .sc (.slice none 0 0) => ly tt T x
 | .neq, .sc (.slice none 0 0) => ly tt T x
 | _, _ => none
def kn (op : BinOp) (b : Bool) : Bool := match op with | .neq => !b | _ => b
theorem nx {P : Program} {tt : Table} (ht : TT P tt) {T e : TypeId} (he : dz tt T = some e) (w : World) (xo yo : Operand) {op : BinOp} (kd : op = .eql ∨ op = .neq) (a : Option Addr) (l c : Nat) :
  (do eqGuard op T xo yo (.slice a l c) (.slice none 0 0); binOp op T (.slice a l c) (.slice none 0 0) : Sem Value).run P w = .ok (.bool (kn op a.isNone)) w := by
 unfold dz at he
 split at he
 ·rename_i i hi
  obtain ⟨d, hd, -, lb, -⟩ := ht.desc T i hi
  obtain rfl := lb e he
  have heq : (Op.equal T (.slice a l c) (.slice none 0 0)).run P w = .ok a.isNone w := by
   show (Op.equalIn (9999 + 1) T (.slice a l c) (.slice none 0 0)).run P w = _
   rw [Op.equalIn]
   simp only [Sem.run_bind,au hd,Result.andThen_ok]
   cases a <;> rfl
  have hg : (eqGuard op T xo yo (.slice a l c) (.slice none 0 0)).run P w = .ok () w := by rcases kd with rfl | rfl <;> rfl
  rw [Sem.run_bind, hg, Result.andThen_ok]
  rcases kd with rfl | rfl
  ·show (do pure (Value.bool (← Op.equal T (.slice a l c) (.slice none 0 0))) : Sem Value).run P w = _
   rw [Sem.run_bind, heq]; rfl
  ·show (do pure (Value.bool (!(← Op.equal T (.slice a l c) (.slice none 0 0)))) : Sem Value).run P w = _
   rw [Sem.run_bind, heq]; rfl
 ·cases he
theorem v7 {P : Program} {tt : Table} (ht : TT P tt) {E : Env} {w : World} {T : TypeId} {op : BinOp} {vx vy : V} {x y : Value} (xo yo : Operand) (hx : aX E vx x) (hy : aX E vy y) {n : Nat} (h : jt tt op T vx vy = some n) :
  ∃ b : Bool, (n ≠ 0 → b = false) ∧ (do eqGuard op T xo yo x y; binOp op T x y : Sem Value).run P w = .ok (.bool (kn op b)) w := by
 have gen : (op = .eql ∨ op = .neq) → y = .slice none 0 0 → ly tt T vx = some n → ∃ b : Bool, (n ≠ 0 → b = false) ∧ (do eqGuard op T xo yo x y; binOp op T x y : Sem Value).run P w = .ok (.bool (kn op b)) w := by
  intro kd YQ h
  subst YQ
  unfold ly at h
  split at h
  ·split at h
   ·rename_i e he
    cases h
    cases hx with
    | slice _ _ a cap nn ad xf ha hD hs hF h1 h2 =>
     refine ⟨a.isNone, fun hn => ?_, nx ht he w xo yo kd _ _ _⟩
     rw [ha (fun e => hn (by rw [e]; rfl))]; rfl
   ·cases h
  ·split at h
   ·rename_i e he
    cases h
    cases hx with
    | ms _ b v s l g e c a cap hb hl h0 hc =>
     refine ⟨a.isNone, fun hn => ?_, nx ht he w xo yo kd _ _ _⟩
     rw [hl (by omega)]; rfl
    | df => exact ⟨true, fun hn => absurd rfl hn, nx ht he w xo yo kd _ _ _⟩
   ·cases h
  ·cases h
 unfold jt at h
 split at h
 ·exact gen (.inl rfl) (b9 hy) h
 ·exact gen (.inr rfl) (b9 hy) h
 ·cases h

def Ct (mem : List ay) (ev : Operand → V) (x : Operand) : V := match eA mem (ev x) with | some v => v | none => ev x
def fg (ev : Operand → V) (parts : List (Nat × Operand)) : List (Nat × Nat) := (parts.map fun p => ev p.2).flatMap cr
def ny (tt : Table) (T : TypeId) (len : Nat) (parts : List (Nat × Operand)) (st : St) : Option (Nat × List V) :=
 match cD st.mem (parts.map fun p => st.eval p.2) with
 | some _ => po tt T len parts (Ct st.mem st.eval)
 | none => none
def v8 (tt : Table) (mem : List ay) (T : TypeId) (p v : V) : Option (List ay) :=
 match eA mem v with
 | some v' => gR tt (bY mem (cr v)) T p v'
 | none => none
def qz (tt : Table) (st : St) (ts : List TypeId) (s x : V) (dst : Option Tmp) (Q : St → Prop) : Prop :=
 match ja tt st.mem ts s x with
 | some (size, b, v, l, rs, xs) => ∀ (o : Nat) (rs' : List V), rs'.drop o = rs ++ xs → o + (l + xs.length) = rs'.length → Q ({ st with mem := st.mem.set b (.rows (v + 1) size rs') }.put dst (.ms b (v + 1) o (l + xs.length)))
 | none => False
def bH (P : Program) (tt : Table) (key : Nat) (o : Oper) (st : St) (Q : St → Prop) : Prop :=
 match o.op with
 | .alloc T => match tt T with
  | some i => Q ({ st with mem := bg st.mem key (.box (i.zero.map V.sc)) }.put o.dst (.ptr key 0))
  | none => False
 | .box _ x => match fH (st.eval x) with
  | some cs => Q ({ st with mem := bg st.mem key (.box cs) }.put o.dst (.ptr key 0))
  | none => False
 | .build T parts => match gU P tt T parts.toList st.eval with
  | some v => Q (st.put o.dst v)
  | none => False
 | .buildSlice T len parts => match po tt T len parts.toList st.eval with
  | some (size, rs) => Q ({ st with mem := bg st.mem key (.rows 0 size rs) }.put o.dst (.ms key 0 0 len))
  | none => match ny tt T len parts.toList st with
   | some (size, rs) => Q ({ st with mem := bg (bY st.mem (fg st.eval parts.toList)) key (.rows 0 size rs) }.put o.dst (.ms key 0 0 len))
   | none => False
 | .store T p x => match gR tt st.mem T (st.eval p) (st.eval x) with
  | some aF => Q ({ st with mem := aF }.put o.dst (.sc undef))
  | none => match v8 tt st.mem T (st.eval p) (st.eval x) with
   | some aF => Q ({ st with mem := aF }.put o.dst (.sc undef))
   | none => False
 | .call { callee := .builtin .append, args := xs, argTypes := ts } => match xs.toList.map st.eval with
  | [s, x] => match dv tt st.mem ts.toList s x with
   | some (size, ob, rows) => Q ({ st with mem := (cy st.mem key size rows ob).1 }.put o.dst (cy st.mem key size rows ob).2)
   | none => qz tt st ts.toList s x o.dst Q
  | _ => False
 | .call { callee := .value f, args := xs, .. } => match st.eval f with
  | .ia k => (∃ b aF, QB P k (xs.toList.map st.eval) st.mem b aF ∧ Q ({ st with mem := aF }.put o.dst (.sc (.bool b)))) ∨
    (∃ R, D1 P k (xs.toList.map st.eval) st.mem R ∧ ∀ b aF, R b aF → Q ({ st with mem := aF }.put o.dst (.sc (.bool b))))
  | fv => match bn fv (xs.toList.map st.eval) with
   | some (g, vs) => uM P g vs st o.dst Q
   | none => False
 | .makeSlice T l c => match nc tt T (st.eval l) (st.eval c) with
  | some (size, rs, _) => Q ({ st with mem := bg st.mem key (.rows 0 size rs) }.put o.dst (.ms key 0 0 rs.length))
  | none => False
 | .makeMap _ none => Q ({ st with mem := bg st.mem key (.map [] 0) }.put o.dst (.mp key))
 | .mapUpdate T m k x => match cp P st.mem T (st.eval m) (st.eval k) (st.eval x) with
  | some aF => Q ({ st with mem := aF }.put o.dst (.sc undef))
  | none => False
 | .insert T m k x => match cp P st.mem T (st.eval m) (st.eval k) (st.eval x) with
  | some aF => Q ({ st with mem := aF }.put o.dst (.sc undef))
  | none => False
 | .mapEntry T m k => match pq P st.mem T (st.eval m) (st.eval k) with
  | some (aF, v) => Q ({ st with mem := aF }.put o.dst v)
  | none => False
 | .entryStore _ m s x => match pw st.mem (st.eval m) (st.eval s) (st.eval x) with
  | some aF => Q ({ st with mem := aF }.put o.dst (.sc undef))
  | none => False
 | .call { callee := .builtin .delete, args := xs, argTypes := ts } => match mf P st.mem ts (xs.toList.map st.eval) with
  | some aF => Q ({ st with mem := aF }.put o.dst (.sc (.tuple #[])))
  | none => False
 | .range T x => match jH P st.mem T (st.eval x) with
  | some B => Q ({ st with mem := bg st.mem key B }.put o.dst (.ptr key 0))
  | none => False
 | .next it str => oy st o.dst (st.eval it) str Q
 | .binOp op T x y _ => match jt tt op T (st.eval x) (st.eval y) with
  | some n => ∀ b : Bool, (n ≠ 0 → b = false) → Q (st.put o.dst (.sc (.bool (kn op b))))
  | none => match fP P tt st o with
   | some v => Q (st.put o.dst v)
   | none => False
 | _ => match fP P tt st o with
  | some v => Q (st.put o.dst v)
  | none => False

theorem ss {P : Program} {E : Env} {w : World} {fv : V} {fx : Value} {args : List V} {xs : Array Value} {g : FuncId} {vs : List V} (hf : aX E fv fx) (ha : aQ E args xs.toList) (h : bn fv args = some (g, vs)) :
  ∃ d, ∃ ys : Array Value, aQ E vs ys.toList ∧ (Deferred.ofValue fx xs).run P w = .ok d w ∧ (invoke d.target d.args).run P w = (callFunc g ys).run P w := by
 unfold bn at h
 split at h
 ·simp only [Option.some.injEq,Prod.mk.injEq] at h
  obtain ⟨rfl, rfl⟩ := h
  obtain rfl := b9 hf
  rename_i g first cap
  have Aq : ∀ zs : Array Value, aQ E (zs.toList.map V.sc) zs.toList := fun zs => ⟨by simp, fun i c x hc hx => ir E zs i c x hc (by simpa using hx)⟩
  exact ⟨{ target := .fn (.func g) cap, args := first ++ xs }, first ++ xs ++ cap, by simp only [Array.toList_append]; exact ((Aq first).append ha).append (Aq cap), rfl, by simp [invoke]⟩
 ·simp only [Option.some.injEq,Prod.mk.injEq] at h
  obtain ⟨rfl, rfl⟩ := h
  rename_i g _ _
  cases hf with
  | fS _ _ first cap ys zs h1 h2 h3 h4 =>
   refine ⟨{ target := .fn (.func g) zs, args := ys ++ xs }, ys ++ xs ++ zs, ?_, rfl, by simp [invoke]⟩
   simp only [Array.toList_append]
   exact (aQ.append (aQ.append ⟨by simpa using h1, fun i c x hc hx => h3 i c x hc (by simpa using hx)⟩ ha) ⟨by simpa using h2, fun i c x hc hx => h4 i c x hc (by simpa using hx)⟩)
 ·cases h

theorem lz {P : Program} {E : Env} {w : World} {fv : V} {fx : Value} {args : List V} {xs : Array Value} {g : FuncId} {vs : List V} (hf : aX E fv fx) (ha : aQ E args xs.toList) (h : bn fv args = some (g, vs)) :
  ∃ ys : Array Value, aQ E vs ys.toList ∧ (do let d ← Deferred.ofValue fx xs; invoke d.target d.args : Sem Next).run P w = (callFunc g ys).run P w := by
 unfold bn at h
 split at h
 ·simp only [Option.some.injEq,Prod.mk.injEq] at h
  obtain ⟨rfl, rfl⟩ := h
  obtain rfl := b9 hf
  rename_i first cap
  have Aq : ∀ zs : Array Value, aQ E (zs.toList.map V.sc) zs.toList := fun zs => ⟨by simp, fun i c x hc hx => ir E zs i c x hc (by simpa using hx)⟩
  refine ⟨first ++ xs ++ cap, by simp only [Array.toList_append]; exact ((Aq first).append ha).append (Aq cap), ?_⟩
  simp [Deferred.ofValue, invoke]
 ·simp only [Option.some.injEq,Prod.mk.injEq] at h
  obtain ⟨rfl, rfl⟩ := h
  cases hf with
  | fS _ _ first cap ys zs h1 h2 h3 h4 =>
   refine ⟨ys ++ xs ++ zs, ?_, ?_⟩
   ·simp only [Array.toList_append]
    exact (aQ.append (aQ.append ⟨by simpa using h1, fun i c x hc hx => h3 i c x hc (by simpa using hx)⟩ ha) ⟨by simpa using h2, fun i c x hc hx => h4 i c x hc (by simpa using hx)⟩)
   ·simp [Deferred.ofValue, invoke]
 ·cases h

theorem xY {P : Program} {tt : Table} {E : Env} {bz : List (Nat × Nat)} {ev : Operand → V} {av : Operand → Value} (ow : ∀ o, aX E (ev o) (av o)) : ∀ (parts : List (Nat × Operand)) (cs : List V) (xs : Array Value) (out : List V),
  aQ E cs xs.toList → oz bz ev parts cs = some out → ∃ ys, Instr.fill (bz[·]?) xs (parts.map fun p => (p.1, av p.2)) = some ys ∧ aQ E out ys.toList := by
 intro parts
 induction parts with
 | nil => intro cs xs out hr h; simp only [oz,Option.some.injEq] at h; subst h; exact ⟨xs, rfl, hr⟩
 | cons p r ih =>
  intro cs xs out hr h
  obtain ⟨i, x⟩ := p
  simp only [oz] at h
  split at h
  ·rename_i p hp
   split at h
   ·rename_i new iz
    split at h
    ·rename_i hc
     obtain ⟨h1, h2⟩ := ki (ow x) iz
     have ka : (av x).cells.size = p.2 := by have := h1.1; simp at this; omega
     have nt : xs.size = cs.length := by have := hr.1; simp at this; omega
     obtain ⟨ys, h3, h4⟩ := ih _ _ out (qu new _ cs xs p.1 h1 hr) h
     refine ⟨ys, ?_, h4⟩
     simp only [List.map_cons,Instr.fill,hp,ka]
     rw [if_neg (by simp; omega), ← h3]
     congr 1
     rw [← Array.foldl_toList, Array.toList_zipIdx]
     exact qw p.1 (av x).cells.toList 0 xs
    ·cases h
   ·cases h
  ·cases h

theorem oA {P : Program} {tt : Table} (ht : TT P tt) {E : Env} {w : World} {a : Act} {st : St} (hs : bd E w a st) {T : TypeId} {parts : Array (Nat × Operand)} {v : V} (h : gU P tt T parts.toList st.eval = some v) :
  ∃ x, (Instr.build T (parts.map fun (i, x) => (i, a.eval x))).run P w = .ok x w ∧ aX E v x := by
 unfold gU at h
 split at h
 ·rename_i i hi
  split at h
  ·rename_i bO
   split at h
   ·rename_i cs tV
    simp only [Option.some.injEq] at h; subst h
    obtain ⟨info, oa, -, -, z, hz, DU⟩ := ht.size T i hi
    obtain ⟨d, hd, -, -, Uf⟩ := ht.desc T i hi
    obtain ⟨ys, h1, h2⟩ := xY (P := P) (tt := tt) hs.eval parts.toList _ z.cells cs (by rw [DU]; exact ⟨by simp, fun i c x hc hx => by
     simp only [List.getElem?_map,hx,Option.map_some,Option.some.injEq] at hc; subst hc; exact .sc _ _⟩) tV
    have Ve : ∃ fs, d = .struct fs ∧ fs.size = i.bz.length ∧ ∀ k (hk : k < fs.size), ∃ inf, P.info? fs[k].type = some inf ∧ i.bz[k]? = some (fs[k].offset, inf.size) := by
     have iB : 0 < i.bz.length := List.length_pos_iff.2 bO
     obtain ⟨fs, fd, inf, rfl, hlen, -⟩ := Uf 0 (i.bz[0]).1 (i.bz[0]).2 (List.getElem?_eq_getElem iB)
     refine ⟨fs, rfl, hlen, fun k hk => ?_⟩
     obtain ⟨XC, fd, inf, he, -, Ry, Ug, Vf, YR, -⟩ := Uf k (i.bz[k]'(by omega)).1 (i.bz[k]'(by omega)).2 (List.getElem?_eq_getElem (by omega))
     cases he
     rw [Array.getElem?_eq_getElem hk] at Ry; cases Ry
     exact ⟨inf, Vf, by rw [List.getElem?_eq_getElem (by omega), Ug, YR]⟩
    obtain ⟨fs, rfl, hlen, aS⟩ := Ve
    have Aq : (fs.mapM fun f => do pure (f.offset, ← sizeOf f.type) : Sem (Array (Nat × Nat))).run P w = .ok i.bz.toArray w := by
     have gen : ∀ (l : List Field) (fl : List (Nat × Nat)), l.length = fl.length → (∀ k (hk : k < l.length), ∃ inf, P.info? l[k].type = some inf ∧ fl[k]? = some (l[k].offset, inf.size)) →
       (l.mapM fun f => do pure (f.offset, ← sizeOf f.type) : Sem (List (Nat × Nat))).run P w = .ok fl w := by
      intro l
      induction l with
      | nil => intro fl hl _; have : fl = [] := List.length_eq_zero_iff.1 hl.symm; subst this; rfl
      | cons f r ih =>
       intro fl hl hk
       cases fl with
       | nil => simp at hl
       | cons p fl =>
        obtain ⟨inf, h1, h2⟩ := hk 0 (by simp)
        simp only [List.getElem_cons_zero,List.getElem?_cons_zero,Option.some.injEq] at h1 h2
        subst h2
        have := ih fl (by simpa using hl) fun k bR => hk (k + 1) (Nat.succ_lt_succ bR)
        simp only [List.mapM_cons,Sem.run_bind,dg h1,Result.andThen_ok,Sem.run_pure,this]
     have := gen fs.toList i.bz hlen fun k hk => aS k hk
     rw [Array.mapM_eq_mapM_toList]
     simp only [Sem.run_map,this,Result.andThen_ok]
    have nu : (parts.map fun (i, x) => (i, a.eval x)).toList = parts.toList.map fun p => (p.1, a.eval p.2) := by simp
    refine ⟨.agg ys, ?_, .agg _ _ _ (by simpa using h2.1) fun i c x hc hx => h2.2 i c x hc (by simpa using hx)⟩
    unfold Instr.build
    have Rw : (zeroValue T).run P w = .ok z w := by simp [zeroValue, cL oa, hz]
    simp only [Sem.run_bind,Rw,Result.andThen_ok,au hd,Aq,nu]
    have Rz : (fun (k : Nat) => i.bz.toArray[k]?) = (fun (k : Nat) => i.bz[k]?) := by funext k; simp
    simp only [Rz,h1]
    simp
   ·cases h
  ·split at h
   ·rename_i l hl
    have hp := lx hs.eval hl
    unfold Ap at h
    split at h
    ·rename_i cs tV
     cases h
     refine ⟨.agg cs, ?_, .agg _ _ _ (by simp) (ir E cs)⟩
     have nu : (parts.map fun (i, x) => (i, a.eval x)) = l.toArray := by rw [← hp]; apply Array.toList_inj.1; simp
     rw [nu]
     exact cI _ tV w
    ·cases h
   ·cases h
 ·cases h
end Go.Eng
end
