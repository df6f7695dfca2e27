/-
  THE ENGINE, K: regions, code, functions.
-/
import Derived.Test.YtefbaladomfccaaGreatDoorE1
import Derived.LoopNIn
import Derived.RangeFuncLeaves
import Derived.RangeFuncCalls
set_option linter.all false
section
namespace Go.Eng
variable [aK]
open Go.RowKit (Below)

def bF (P : Program) (f : FuncId) (args : List V) (mem : List aC) (r : V) (aF : List aC) : Prop :=
 (∀ (xs : Array Value) (w : World), (callFunc f xs).run P w = .ok (.enter f xs) w) ∧
 ∀ (E : Env) (w : World) (xs : Array Value), bc E w { tmps := #[], defers := [] } { fr := [], mem := mem } → aV E args xs.toList →
  Calls P f xs w fun e w' => ∃ E' x, e = .returned x ∧ dO E w E' w' ∧ bc E' w' { tmps := #[], defers := [] } { fr := [], mem := aF } ∧ a8 E' r x

def fm (P : Program) (f : FuncId) (args : List V) (mem : List aC) (R : V → List aC → Prop) : Prop :=
 (∀ (xs : Array Value) (w : World), (callFunc f xs).run P w = .ok (.enter f xs) w) ∧
 ∀ (E : Env) (w : World) (xs : Array Value), bc E w { tmps := #[], defers := [] } { fr := [], mem := mem } → aV E args xs.toList →
  Calls P f xs w fun e w' => ∃ E' x r aF, e = .returned x ∧ R r aF ∧ dO E w E' w' ∧ bc E' w' { tmps := #[], defers := [] } { fr := [], mem := aF } ∧ a8 E' r x
theorem fm.VM {P : Program} {f : FuncId} {args : List V} {mem : List aC} {r : V} {aF : List aC} (h : fm P f args mem fun r' m' => r' = r ∧ m' = aF) : bF P f args mem r aF :=
 ⟨h.1, fun E w xs hs hx => (h.2 E w xs hs hx).mono fun e w' ⟨E', x, r', m', h1, ⟨h2, h3⟩, h4, h5, h6⟩ => by subst h2; subst h3; exact ⟨E', x, h1, h4, h5, h6⟩⟩
theorem bF.rel {P : Program} {f : FuncId} {args : List V} {mem : List aC} {r : V} {aF : List aC} (h : bF P f args mem r aF) : fm P f args mem fun r' m' => r' = r ∧ m' = aF :=
 ⟨h.1, fun E w xs hs hx => (h.2 E w xs hs hx).mono fun e w' ⟨E', x, h1, h4, h5, h6⟩ => ⟨E', x, _, _, h1, ⟨rfl, rfl⟩, h4, h5, h6⟩⟩
theorem fm.mono {P : Program} {f : FuncId} {args : List V} {mem : List aC} {R R' : V → List aC → Prop} (h : fm P f args mem R) (hR : ∀ r m, R r m → R' r m) : fm P f args mem R' :=
 ⟨h.1, fun E w xs hs hx => (h.2 E w xs hs hx).mono fun e w' ⟨E', x, r', m', h1, h2, h4⟩ => ⟨E', x, r', m', h1, hR _ _ h2, h4⟩⟩

theorem bc.bare {E : Env} {w : World} {a : Act} {st : St} (hs : bc E w a st) : bc E w { tmps := #[], defers := [] } { fr := [], mem := st.mem } :=
 ⟨hs.F, hs.lt, hs.mem, hs.top, hs.bW, hs.apart, .nil _⟩
theorem bc.x7 {E E' : Env} {w w' : World} {a : Act} {st : St} {aF : List aC} (hs : bc E w a st) (h : bc E' w' { tmps := #[], defers := [] } { fr := [], mem := aF }) (hle : E.le E') : bc E' w' a { st with mem := aF } :=
 ⟨h.F, h.lt, h.mem, h.top, h.bW, h.apart, hs.fr.mono hle⟩

def bw (fv : V) (args : List V) : Option (FuncId × List V) :=
 match fv with
 | .sc (.func (.func g) first cap) => some (g, first.toList.map V.sc ++ args ++ cap.toList.map V.sc)
 | .iw (.func g) first cap => some (g, first ++ args ++ cap)
 | _ => none

def r8 (P : Program) (f : FuncId) (vs : List V) (r : V) : Prop :=
 ∀ (E : Env) (w : World) (xs : Array Value), (∀ ad x, E.F ad = some x → w.cell? ad = some x) → aV E vs xs.toList → ∃ x, (callFunc f xs).run P w = .ok (.value x) w ∧ a8 E r x
def Nx (P : Program) (f : FuncId) (vs : List V) : Option V :=
 match jY vs with
 | some l => match aU P (callFunc f l.toArray) with | some (.value v) => some (fg v) | _ => none
 | none => none
theorem JZ {P : Program} {f : FuncId} {vs : List V} {r : V} (h : Nx P f vs = some r) : r8 P f vs r := fun E w xs hF hx => by
 unfold Nx at h
 split at h
 ·rename_i l hl
  have := nD hx hl
  split at h
  ·rename_i v hv
   cases h
   exact ⟨v, cX _ (by rw [← this] at hv; simpa using hv) w, fR E v⟩
  ·cases h
 ·cases h

def uL (P : Program) (f : FuncId) (vs : List V) (st : St) (dst : Option Tmp) (Q : St → Prop) : Prop :=
 (∃ vs' r, dx st.mem vs = some vs' ∧ aR P f vs' r ∧ Q ({ st with mem := eH st.mem (vs.flatMap de) r }.put dst r)) ∨
 (∃ r aF, bF P f vs st.mem r aF ∧ Q ({ st with mem := aF }.put dst r)) ∨
 (∃ R, fm P f vs st.mem R ∧ ∀ r aF, R r aF → Q ({ st with mem := aF }.put dst r)) ∨
 (∃ r, r8 P f vs r ∧ Q (st.put dst r))

def Jz (P : Program) (k : Nat) (vs : List V) (mem : List aC) (b : Bool) (aF : List aC) : Prop :=
 ∀ (E : Env) (w : World) (xs : Array Value) (l e c : Nat), bc E w { tmps := #[], defers := [] } { fr := [], mem := mem } → aV E vs xs.toList → E.aM k 0 = some (l, e, c) →
  ∃ fn tmps assign body, (Instr.yield l xs).run P w = .ok (.round l fn tmps assign body) w ∧ RoundIn Fence.wide 0 P l fn tmps assign body w fun e w' => ∃ E', e = .returned (.bool b) ∧ dO E w E' w' ∧
   bc E' w' { tmps := #[], defers := [] } { fr := [], mem := aF }

def Eg (P : Program) (k : Nat) (vs : List V) (mem : List aC) (R : Bool → List aC → Prop) : Prop :=
 ∀ (E : Env) (w : World) (xs : Array Value) (l e c : Nat), bc E w { tmps := #[], defers := [] } { fr := [], mem := mem } → aV E vs xs.toList → E.aM k 0 = some (l, e, c) →
  ∃ fn tmps assign body, (Instr.yield l xs).run P w = .ok (.round l fn tmps assign body) w ∧ RoundIn Fence.wide 0 P l fn tmps assign body w fun e w' => ∃ E' b aF, e = .returned (.bool b) ∧ R b aF ∧ dO E w E' w' ∧
   bc E' w' { tmps := #[], defers := [] } { fr := [], mem := aF }
theorem Eg.VM {P : Program} {k : Nat} {vs : List V} {mem aF : List aC} {b : Bool} (h : Eg P k vs mem fun b' m' => b' = b ∧ m' = aF) : Jz P k vs mem b aF := fun E w xs l e c hs hx hb => by
 obtain ⟨fn, tmps, assign, body, h1, h2⟩ := h E w xs l e c hs hx hb
 exact ⟨fn, tmps, assign, body, h1, h2.mono fun e w' ⟨E', b', m', h3, ⟨h4, h5⟩, h6, h7⟩ => by subst h4; subst h5; exact ⟨E', h3, h6, h7⟩⟩

def oB (aO : List (Nat × Nat)) (ev : Operand → V) : List (Nat × Operand) → List V → Option (List V)
 | [], cs => some cs
 | (i, x) :: r, cs => match aO[i]? with
  | some p => match fU (ev x) with
   | some new => if new.length = p.2 ∧ p.1 + p.2 ≤ cs.length then oB aO ev r (cg cs p.1 new) else none
   | none => none
  | none => none
def ia (ev : Operand → V) : List (Nat × Operand) → Option (List (Nat × Value))
 | [] => some []
 | (i, x) :: r => match ev x with
  | .sc v => match ia ev r with | some l => some ((i, v) :: l) | none => none
  | _ => none
def AL (P : Program) (T : TypeId) (l : List (Nat × Value)) : Option V := match aU P (Instr.build T l.toArray) with
 | some (.agg cs) => some (.agg (cs.toList.map V.sc))
 | _ => none
def iD (P : Program) (tt : Table) (T : TypeId) (parts : List (Nat × Operand)) (ev : Operand → V) : Option V :=
 match tt T with
 | some i => if i.aO ≠ [] then (match oB i.aO ev parts (i.zero.map V.sc) with | some cs => some (.agg cs) | none => none) else
  match ia ev parts with | some l => AL P T l | none => none
 | none => none
theorem lU {E : Env} {st : St} {a : Act} (dX : ∀ x, a8 E (st.eval x) (a.eval x)) : ∀ {ps : List (Nat × Operand)} {l : List (Nat × Value)}, ia st.eval ps = some l → (ps.map fun p => (p.1, a.eval p.2)) = l
 | [], l, h => by cases h; rfl
 | (i, x) :: r, l, h => by
  simp only [ia] at h
  split at h
  ·rename_i v hv
   split at h
   ·rename_i l' hl
    cases h
    have hx := dX x
    rw [hv] at hx
    have : a.eval x = v := by cases hx; rfl
    simp only [List.map_cons,this,lU dX hl]
   ·cases h
  ·cases h

def lV (tt : Table) (T : TypeId) : V → Option Nat
 | .slice rows => match dT tt T with | some _ => some rows.length | none => none
 | .ms _ _ _ l => match dT tt T with | some _ => some l | none => none
 | _ => none
def j1 (tt : Table) (op : BinOp) (T : TypeId) (x y : V) : Option Nat :=
 match op, y with
 | .eql, .sc (.slice none 0 0) => lV tt T x
 | .neq, .sc (.slice none 0 0) => lV tt T x
 | _, _ => none
def jj (op : BinOp) (b : Bool) : Bool := match op with | .neq => !b | _ => b
theorem nG {P : Program} {tt : Table} (ht : TT P tt) {T e : TypeId} (he : dT tt T = some e) (w : World) (xo yo : Operand) {op : BinOp} (lq : op = .eql ∨ op = .neq) (a : Option Addr) (l c : Nat) :
  (do eqGuard op T xo yo (.slice a l c) (.slice none 0 0); binOp op T (.slice a l c) (.slice none 0 0) : Sem Value).run P w = .ok (.bool (jj op a.isNone)) w := by
 unfold dT at he
 split at he
 ·rename_i i hi
  obtain ⟨d, hd, -, qp, -⟩ := ht.desc T i hi
  obtain rfl := qp e he
  have heq : (Op.equal T (.slice a l c) (.slice none 0 0)).run P w = .ok a.isNone w := by
   show (Op.equalIn (9999 + 1) T (.slice a l c) (.slice none 0 0)).run P w = _
   rw [Op.equalIn]
   simp only [Sem.run_bind,ao hd,Result.andThen_ok]
   cases a <;> rfl
  have hg : (eqGuard op T xo yo (.slice a l c) (.slice none 0 0)).run P w = .ok () w := by rcases lq with rfl | rfl <;> rfl
  rw [Sem.run_bind, hg, Result.andThen_ok]
  rcases lq with rfl | rfl
  ·show (do pure (Value.bool (← Op.equal T (.slice a l c) (.slice none 0 0))) : Sem Value).run P w = _
   rw [Sem.run_bind, heq]; rfl
  ·show (do pure (Value.bool (!(← Op.equal T (.slice a l c) (.slice none 0 0)))) : Sem Value).run P w = _
   rw [Sem.run_bind, heq]; rfl
 ·cases he
theorem wv {P : Program} {tt : Table} (ht : TT P tt) {E : Env} {w : World} {T : TypeId} {op : BinOp} {vx vy : V} {x y : Value} (xo yo : Operand) (hx : a8 E vx x) (hy : a8 E vy y) {n : Nat} (h : j1 tt op T vx vy = some n) :
  ∃ b : Bool, (n ≠ 0 → b = false) ∧ (do eqGuard op T xo yo x y; binOp op T x y : Sem Value).run P w = .ok (.bool (jj op b)) w := by
 have gen : (op = .eql ∨ op = .neq) → y = .slice none 0 0 → lV tt T vx = some n → ∃ b : Bool, (n ≠ 0 → b = false) ∧ (do eqGuard op T xo yo x y; binOp op T x y : Sem Value).run P w = .ok (.bool (jj op b)) w := by
  intro lq hyy h
  subst hyy
  unfold lV at h
  split at h
  ·split at h
   ·rename_i e he
    cases h
    cases hx with
    | slice _ _ a cap nB ad xf ha iS hs hF h1 h2 =>
     refine ⟨a.isNone, fun hn => ?_, nG ht he w xo yo lq _ _ _⟩
     rw [ha (fun e => hn (by rw [e]; rfl))]; rfl
   ·cases h
  ·split at h
   ·rename_i e he
    cases h
    cases hx with
    | ms _ b v s l g e c a cap hb hl h0 hc =>
     refine ⟨a.isNone, fun hn => ?_, nG ht he w xo yo lq _ _ _⟩
     rw [hl (by omega)]; rfl
    | dg => exact ⟨true, fun hn => absurd rfl hn, nG ht he w xo yo lq _ _ _⟩
   ·cases h
  ·cases h
 unfold j1 at h
 split at h
 ·exact gen (.inl rfl) (bS hy) h
 ·exact gen (.inr rfl) (bS hy) h
 ·cases h

def VN (mem : List aC) (ev : Operand → V) (x : Operand) : V := match dR mem (ev x) with | some v => v | none => ev x
def wx (ev : Operand → V) (parts : List (Nat × Operand)) : List (Nat × Nat) := (parts.map fun p => ev p.2).flatMap de
def J0 (tt : Table) (T : TypeId) (len : Nat) (parts : List (Nat × Operand)) (st : St) : Option (Nat × List V) :=
 match dx st.mem (parts.map fun p => st.eval p.2) with
 | some _ => pH tt T len parts (VN st.mem st.eval)
 | none => none
def wy (tt : Table) (mem : List aC) (T : TypeId) (p v : V) : Option (List aC) :=
 match dR mem v with
 | some v' => iC tt (cL mem (de v)) T p v'
 | none => none
def qy (tt : Table) (st : St) (ts : List TypeId) (s x : V) (dst : Option Tmp) (Q : St → Prop) : Prop :=
 match jM tt st.mem ts s x with
 | some (size, b, v, l, rs, xs) => ∀ (o : Nat) (rs' : List V), rs'.drop o = rs ++ xs → o + (l + xs.length) = rs'.length → Q ({ st with mem := st.mem.set b (.rows (v + 1) size rs') }.put dst (.ms b (v + 1) o (l + xs.length)))
 | none => False
def bI (P : Program) (tt : Table) (key : Nat) (o : Oper) (st : St) (Q : St → Prop) : Prop :=
 match o.op with
 | .alloc T => match tt T with
  | some i => Q ({ st with mem := bj st.mem key (.box (i.zero.map V.sc)) }.put o.dst (.ptr key 0))
  | none => False
 | .box _ x => match fU (st.eval x) with
  | some cs => Q ({ st with mem := bj st.mem key (.box cs) }.put o.dst (.ptr key 0))
  | none => False
 | .build T parts => match iD P tt T parts.toList st.eval with
  | some v => Q (st.put o.dst v)
  | none => False
 | .buildSlice T len parts => match pH tt T len parts.toList st.eval with
  | some (size, rs) => Q ({ st with mem := bj st.mem key (.rows 0 size rs) }.put o.dst (.ms key 0 0 len))
  | none => match J0 tt T len parts.toList st with
   | some (size, rs) => Q ({ st with mem := bj (cL st.mem (wx st.eval parts.toList)) key (.rows 0 size rs) }.put o.dst (.ms key 0 0 len))
   | none => False
 | .store T p x => match iC tt st.mem T (st.eval p) (st.eval x) with
  | some aF => Q ({ st with mem := aF }.put o.dst (.sc undef))
  | none => match wy tt st.mem T (st.eval p) (st.eval x) with
   | some aF => Q ({ st with mem := aF }.put o.dst (.sc undef))
   | none => False
 | .call { callee := .builtin .append, args := xs, argTypes := ts } => match xs.toList.map st.eval with
  | [s, x] => match dS tt st.mem ts.toList s x with
   | some (size, ka, rows) => Q ({ st with mem := (cK st.mem key size rows ka).1 }.put o.dst (cK st.mem key size rows ka).2)
   | none => qy tt st ts.toList s x o.dst Q
  | _ => False
 | .call { callee := .value f, args := xs, .. } => match st.eval f with
  | .gr k => (∃ b aF, Jz P k (xs.toList.map st.eval) st.mem b aF ∧ Q ({ st with mem := aF }.put o.dst (.sc (.bool b)))) ∨
    (∃ R, Eg P k (xs.toList.map st.eval) st.mem R ∧ ∀ b aF, R b aF → Q ({ st with mem := aF }.put o.dst (.sc (.bool b))))
  | fv => match bw fv (xs.toList.map st.eval) with
   | some (g, vs) => uL P g vs st o.dst Q
   | none => False
 | .makeSlice T l c => match nk tt T (st.eval l) (st.eval c) with
  | some (size, rs, _) => Q ({ st with mem := bj st.mem key (.rows 0 size rs) }.put o.dst (.ms key 0 0 rs.length))
  | none => False
 | .makeMap _ none => Q ({ st with mem := bj st.mem key (.map [] 0) }.put o.dst (.mp key))
 | .mapUpdate T m k x => match cD P st.mem T (st.eval m) (st.eval k) (st.eval x) with
  | some aF => Q ({ st with mem := aF }.put o.dst (.sc undef))
  | none => False
 | .insert T m k x => match cD P st.mem T (st.eval m) (st.eval k) (st.eval x) with
  | some aF => Q ({ st with mem := aF }.put o.dst (.sc undef))
  | none => False
 | .mapEntry T m k => match pI P st.mem T (st.eval m) (st.eval k) with
  | some (aF, v) => Q ({ st with mem := aF }.put o.dst v)
  | none => False
 | .entryStore _ m s x => match pJ st.mem (st.eval m) (st.eval s) (st.eval x) with
  | some aF => Q ({ st with mem := aF }.put o.dst (.sc undef))
  | none => False
 | .call { callee := .builtin .delete, args := xs, argTypes := ts } => match mH P st.mem ts (xs.toList.map st.eval) with
  | some aF => Q ({ st with mem := aF }.put o.dst (.sc (.tuple #[])))
  | none => False
 | .range T x => match kg P st.mem T (st.eval x) with
  | some B => Q ({ st with mem := bj st.mem key B }.put o.dst (.ptr key 0))
  | none => False
 | .next it str => oz st o.dst (st.eval it) str Q
 | .binOp op T x y _ => match j1 tt op T (st.eval x) (st.eval y) with
  | some n => ∀ b : Bool, (n ≠ 0 → b = false) → Q (st.put o.dst (.sc (.bool (jj op b))))
  | none => match gp P tt st o with
   | some v => Q (st.put o.dst v)
   | none => False
 | _ => match gp P tt st o with
  | some v => Q (st.put o.dst v)
  | none => False

theorem r9 {P : Program} {E : Env} {w : World} {fv : V} {fx : Value} {args : List V} {xs : Array Value} {g : FuncId} {vs : List V} (hf : a8 E fv fx) (ha : aV E args xs.toList) (h : bw fv args = some (g, vs)) :
  ∃ d, ∃ ys : Array Value, aV E vs ys.toList ∧ (Deferred.ofValue fx xs).run P w = .ok d w ∧ (invoke d.target d.args).run P w = (callFunc g ys).run P w := by
 unfold bw at h
 split at h
 ·simp only [Option.some.injEq,Prod.mk.injEq] at h
  obtain ⟨rfl, rfl⟩ := h
  obtain rfl := bS hf
  rename_i g first cap
  have AM : ∀ zs : Array Value, aV E (zs.toList.map V.sc) zs.toList := fun zs => ⟨by simp, fun i c x hc hx => jd E zs i c x hc (by simpa using hx)⟩
  exact ⟨{ target := .fn (.func g) cap, args := first ++ xs }, first ++ xs ++ cap, by simp only [Array.toList_append]; exact ((AM first).append ha).append (AM cap), rfl, by simp [invoke]⟩
 ·simp only [Option.some.injEq,Prod.mk.injEq] at h
  obtain ⟨rfl, rfl⟩ := h
  rename_i g _ _
  cases hf with
  | iw _ _ first cap ys zs h1 h2 h3 h4 =>
   refine ⟨{ target := .fn (.func g) zs, args := ys ++ xs }, ys ++ xs ++ zs, ?_, rfl, by simp [invoke]⟩
   simp only [Array.toList_append]
   exact (aV.append (aV.append ⟨by simpa using h1, fun i c x hc hx => h3 i c x hc (by simpa using hx)⟩ ha) ⟨by simpa using h2, fun i c x hc hx => h4 i c x hc (by simpa using hx)⟩)
 ·cases h

theorem lW {P : Program} {E : Env} {w : World} {fv : V} {fx : Value} {args : List V} {xs : Array Value} {g : FuncId} {vs : List V} (hf : a8 E fv fx) (ha : aV E args xs.toList) (h : bw fv args = some (g, vs)) :
  ∃ ys : Array Value, aV E vs ys.toList ∧ (do let d ← Deferred.ofValue fx xs; invoke d.target d.args : Sem Next).run P w = (callFunc g ys).run P w := by
 unfold bw at h
 split at h
 ·simp only [Option.some.injEq,Prod.mk.injEq] at h
  obtain ⟨rfl, rfl⟩ := h
  obtain rfl := bS hf
  rename_i first cap
  have AM : ∀ zs : Array Value, aV E (zs.toList.map V.sc) zs.toList := fun zs => ⟨by simp, fun i c x hc hx => jd E zs i c x hc (by simpa using hx)⟩
  refine ⟨first ++ xs ++ cap, by simp only [Array.toList_append]; exact ((AM first).append ha).append (AM cap), ?_⟩
  simp [Deferred.ofValue, invoke]
 ·simp only [Option.some.injEq,Prod.mk.injEq] at h
  obtain ⟨rfl, rfl⟩ := h
  cases hf with
  | iw _ _ first cap ys zs h1 h2 h3 h4 =>
   refine ⟨ys ++ xs ++ zs, ?_, ?_⟩
   ·simp only [Array.toList_append]
    exact (aV.append (aV.append ⟨by simpa using h1, fun i c x hc hx => h3 i c x hc (by simpa using hx)⟩ ha) ⟨by simpa using h2, fun i c x hc hx => h4 i c x hc (by simpa using hx)⟩)
   ·simp [Deferred.ofValue, invoke]
 ·cases h

theorem x8 {P : Program} {tt : Table} {E : Env} {aO : List (Nat × Nat)} {ev : Operand → V} {av : Operand → Value} (mY : ∀ o, a8 E (ev o) (av o)) : ∀ (parts : List (Nat × Operand)) (cs : List V) (xs : Array Value) (out : List V),
  aV E cs xs.toList → oB aO ev parts cs = some out → ∃ ys, Instr.fill (aO[·]?) xs (parts.map fun p => (p.1, av p.2)) = some ys ∧ aV E out ys.toList := by
 intro parts
 induction parts with
 | nil => intro cs xs out hr h; simp only [oB,Option.some.injEq] at h; subst h; exact ⟨xs, rfl, hr⟩
 | cons p r ih =>
  intro cs xs out hr h
  obtain ⟨i, x⟩ := p
  simp only [oB] at h
  split at h
  ·rename_i p hp
   split at h
   ·rename_i new gZ
    split at h
    ·rename_i hc
     obtain ⟨h1, h2⟩ := kO (mY x) gZ
     have jW : (av x).cells.size = p.2 := by have := h1.1; simp at this; omega
     have kG : xs.size = cs.length := by have := hr.1; simp at this; omega
     obtain ⟨ys, h3, h4⟩ := ih _ _ out (qs new _ cs xs p.1 h1 hr) h
     refine ⟨ys, ?_, h4⟩
     simp only [List.map_cons,Instr.fill,hp,jW]
     rw [if_neg (by simp; omega), ← h3]
     congr 1
     rw [← Array.foldl_toList, Array.toList_zipIdx]
     exact qu p.1 (av x).cells.toList 0 xs
    ·cases h
   ·cases h
  ·cases h

theorem oC {P : Program} {tt : Table} (ht : TT P tt) {E : Env} {w : World} {a : Act} {st : St} (hs : bc E w a st) {T : TypeId} {parts : Array (Nat × Operand)} {v : V} (h : iD P tt T parts.toList st.eval = some v) :
  ∃ x, (Instr.build T (parts.map fun (i, x) => (i, a.eval x))).run P w = .ok x w ∧ a8 E v x := by
 unfold iD at h
 split at h
 ·rename_i i hi
  split at h
  ·rename_i bL
   split at h
   ·rename_i cs pC
    simp only [Option.some.injEq] at h; subst h
    obtain ⟨info, oe, -, -, z, hz, xS⟩ := ht.size T i hi
    obtain ⟨d, hd, -, -, Ma⟩ := ht.desc T i hi
    obtain ⟨ys, h1, h2⟩ := x8 (P := P) (tt := tt) hs.eval parts.toList _ z.cells cs (by rw [xS]; exact ⟨by simp, fun i c x hc hx => by
     simp only [List.getElem?_map,hx,Option.map_some,Option.some.injEq] at hc; subst hc; exact .sc _ _⟩) pC
    have VO : ∃ fs, d = .struct fs ∧ fs.size = i.aO.length ∧ ∀ k (hk : k < fs.size), ∃ inf, P.info? fs[k].type = some inf ∧ i.aO[k]? = some (fs[k].offset, inf.size) := by
     have gC : 0 < i.aO.length := List.length_pos_iff.2 bL
     obtain ⟨fs, fd, inf, rfl, hlen, -⟩ := Ma 0 (i.aO[0]).1 (i.aO[0]).2 (List.getElem?_eq_getElem gC)
     refine ⟨fs, rfl, hlen, fun k hk => ?_⟩
     obtain ⟨YL, fd, inf, he, -, Gy, F0, VP, hf4, -⟩ := Ma k (i.aO[k]'(by omega)).1 (i.aO[k]'(by omega)).2 (List.getElem?_eq_getElem (by omega))
     cases he
     rw [Array.getElem?_eq_getElem hk] at Gy; cases Gy
     exact ⟨inf, VP, by rw [List.getElem?_eq_getElem (by omega), F0, hf4]⟩
    obtain ⟨fs, rfl, hlen, bp⟩ := VO
    have AM : (fs.mapM fun f => do pure (f.offset, ← sizeOf f.type) : Sem (Array (Nat × Nat))).run P w = .ok i.aO.toArray w := by
     have gen : ∀ (l : List Field) (fl : List (Nat × Nat)), l.length = fl.length → (∀ k (hk : k < l.length), ∃ inf, P.info? l[k].type = some inf ∧ fl[k]? = some (l[k].offset, inf.size)) →
       (l.mapM fun f => do pure (f.offset, ← sizeOf f.type) : Sem (List (Nat × Nat))).run P w = .ok fl w := by
      intro l
      induction l with
      | nil => intro fl hl _; have : fl = [] := List.length_eq_zero_iff.1 hl.symm; subst this; rfl
      | cons f r ih =>
       intro fl hl hk
       cases fl with
       | nil => simp at hl
       | cons p fl =>
        obtain ⟨inf, h1, h2⟩ := hk 0 (by simp)
        simp only [List.getElem_cons_zero,List.getElem?_cons_zero,Option.some.injEq] at h1 h2
        subst h2
        have := ih fl (by simpa using hl) fun k ck => hk (k + 1) (Nat.succ_lt_succ ck)
        simp only [List.mapM_cons,Sem.run_bind,dE h1,Result.andThen_ok,Sem.run_pure,this]
     have := gen fs.toList i.aO hlen fun k hk => bp k hk
     rw [Array.mapM_eq_mapM_toList]
     simp only [Sem.run_map,this,Result.andThen_ok]
    have nE : (parts.map fun (i, x) => (i, a.eval x)).toList = parts.toList.map fun p => (p.1, a.eval p.2) := by simp
    refine ⟨.agg ys, ?_, .agg _ _ _ (by simpa using h2.1) fun i c x hc hx => h2.2 i c x hc (by simpa using hx)⟩
    unfold Instr.build
    have Nt : (zeroValue T).run P w = .ok z w := by simp [zeroValue, cy oe, hz]
    simp only [Sem.run_bind,Nt,Result.andThen_ok,ao hd,AM,nE]
    have Rp : (fun (k : Nat) => i.aO.toArray[k]?) = (fun (k : Nat) => i.aO[k]?) := by funext k; simp
    simp only [Rp,h1]
    simp
   ·cases h
  ·split at h
   ·rename_i l hl
    have hp := lU hs.eval hl
    unfold AL at h
    split at h
    ·rename_i cs pC
     cases h
     refine ⟨.agg cs, ?_, .agg _ _ _ (by simp) (jd E cs)⟩
     have nE : (parts.map fun (i, x) => (i, a.eval x)) = l.toArray := by rw [← hp]; apply Array.toList_inj.1; simp
     rw [nE]
     exact cX _ pC w
    ·cases h
   ·cases h
 ·cases h
end Go.Eng
end
