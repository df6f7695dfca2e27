/-
  THE ENGINE, K: regions, code, functions.
-/
import Derived.Test.YtnfeacnbgbggfaaGreatDoorE1
import Derived.LoopNIn
import Derived.RangeFuncLeaves
import Derived.RangeFuncCalls
set_option linter.all false
section
namespace Go.Eng
variable [aH]
open Go.RowKit (Below)

def aR (P : Program) (f : FuncId) (args : List V) (mem : List aw) (r : V) (aE : List aw) : Prop :=
 (∀ (xs : Array Value) (w : World), (callFunc f xs).run P w = .ok (.enter f xs) w) ∧
 ∀ (E : Env) (w : World) (xs : Array Value), bc E w { tmps := #[], defers := [] } { fr := [], mem := mem } → aP E args xs.toList →
  Calls P f xs w fun e w' => ∃ E' x, e = .returned x ∧ dt E w E' w' ∧ bc E' w' { tmps := #[], defers := [] } { fr := [], mem := aE } ∧ aW E' r x

def fi (P : Program) (f : FuncId) (args : List V) (mem : List aw) (R : V → List aw → Prop) : Prop :=
 (∀ (xs : Array Value) (w : World), (callFunc f xs).run P w = .ok (.enter f xs) w) ∧
 ∀ (E : Env) (w : World) (xs : Array Value), bc E w { tmps := #[], defers := [] } { fr := [], mem := mem } → aP E args xs.toList →
  Calls P f xs w fun e w' => ∃ E' x r aE, e = .returned x ∧ R r aE ∧ dt E w E' w' ∧ bc E' w' { tmps := #[], defers := [] } { fr := [], mem := aE } ∧ aW E' r x
theorem fi.X8 {P : Program} {f : FuncId} {args : List V} {mem : List aw} {r : V} {aE : List aw} (h : fi P f args mem fun r' m' => r' = r ∧ m' = aE) : aR P f args mem r aE :=
 ⟨h.1, fun E w xs hs hx => (h.2 E w xs hs hx).mono fun e w' ⟨E', x, r', m', h1, ⟨h2, h3⟩, h4, h5, h6⟩ => by subst h2; subst h3; exact ⟨E', x, h1, h4, h5, h6⟩⟩
theorem aR.rel {P : Program} {f : FuncId} {args : List V} {mem : List aw} {r : V} {aE : List aw} (h : aR P f args mem r aE) : fi P f args mem fun r' m' => r' = r ∧ m' = aE :=
 ⟨h.1, fun E w xs hs hx => (h.2 E w xs hs hx).mono fun e w' ⟨E', x, h1, h4, h5, h6⟩ => ⟨E', x, _, _, h1, ⟨rfl, rfl⟩, h4, h5, h6⟩⟩
theorem fi.mono {P : Program} {f : FuncId} {args : List V} {mem : List aw} {R R' : V → List aw → Prop} (h : fi P f args mem R) (hR : ∀ r m, R r m → R' r m) : fi P f args mem R' :=
 ⟨h.1, fun E w xs hs hx => (h.2 E w xs hs hx).mono fun e w' ⟨E', x, r', m', h1, h2, h4⟩ => ⟨E', x, r', m', h1, hR _ _ h2, h4⟩⟩

theorem bc.bare {E : Env} {w : World} {a : Act} {st : St} (hs : bc E w a st) : bc E w { tmps := #[], defers := [] } { fr := [], mem := st.mem } :=
 ⟨hs.F, hs.lt, hs.mem, hs.top, hs.aC, hs.apart, .nil _⟩
theorem bc.yz {E E' : Env} {w w' : World} {a : Act} {st : St} {aE : List aw} (hs : bc E w a st) (h : bc E' w' { tmps := #[], defers := [] } { fr := [], mem := aE }) (hle : E.le E') : bc E' w' a { st with mem := aE } :=
 ⟨h.F, h.lt, h.mem, h.top, h.aC, h.apart, hs.fr.mono hle⟩

def aX (fv : V) (args : List V) : Option (FuncId × List V) :=
 match fv with
 | .sc (.func (.func g) first cap) => some (g, first.toList.map V.sc ++ args ++ cap.toList.map V.sc)
 | .fQ (.func g) first cap => some (g, first ++ args ++ cap)
 | _ => none

def sI (P : Program) (f : FuncId) (vs : List V) (r : V) : Prop :=
 ∀ (E : Env) (w : World) (xs : Array Value), (∀ ad x, E.F ad = some x → w.cell? ad = some x) → aP E vs xs.toList → ∃ x, (callFunc f xs).run P w = .ok (.value x) w ∧ aW E r x
def Of (P : Program) (f : FuncId) (vs : List V) : Option V :=
 match jy vs with
 | some l => match aG P (callFunc f l.toArray) with | some (.value v) => some (dx v) | _ => none
 | none => none
theorem J9 {P : Program} {f : FuncId} {vs : List V} {r : V} (h : Of P f vs = some r) : sI P f vs r := fun E w xs hF hx => by
 unfold Of at h
 split at h
 ·rename_i l hl
  have := nG hx hl
  split at h
  ·rename_i v hv
   cases h
   exact ⟨v, cA _ (by rw [← this] at hv; simpa using hv) w, fy E v⟩
  ·cases h
 ·cases h

def ve (P : Program) (f : FuncId) (vs : List V) (st : St) (dst : Option Tmp) (Q : St → Prop) : Prop :=
 (∃ vs' r, cy st.mem vs = some vs' ∧ aO P f vs' r ∧ Q ({ st with mem := cp st.mem (vs.flatMap cn) r }.put dst r)) ∨
 (∃ r aE, aR P f vs st.mem r aE ∧ Q ({ st with mem := aE }.put dst r)) ∨
 (∃ R, fi P f vs st.mem R ∧ ∀ r aE, R r aE → Q ({ st with mem := aE }.put dst r)) ∨
 (∃ r, sI P f vs r ∧ Q (st.put dst r))

def Q4 (P : Program) (k : Nat) (vs : List V) (mem : List aw) (b : Bool) (aE : List aw) : Prop :=
 ∀ (E : Env) (w : World) (xs : Array Value) (l e c : Nat), bc E w { tmps := #[], defers := [] } { fr := [], mem := mem } → aP E vs xs.toList → E.aI k 0 = some (l, e, c) →
  ∃ fn tmps assign body, (Instr.yield l xs).run P w = .ok (.round l fn tmps assign body) w ∧ RoundIn Fence.wide 0 P l fn tmps assign body w fun e w' => ∃ E', e = .returned (.bool b) ∧ dt E w E' w' ∧
   bc E' w' { tmps := #[], defers := [] } { fr := [], mem := aE }

def EC (P : Program) (k : Nat) (vs : List V) (mem : List aw) (R : Bool → List aw → Prop) : Prop :=
 ∀ (E : Env) (w : World) (xs : Array Value) (l e c : Nat), bc E w { tmps := #[], defers := [] } { fr := [], mem := mem } → aP E vs xs.toList → E.aI k 0 = some (l, e, c) →
  ∃ fn tmps assign body, (Instr.yield l xs).run P w = .ok (.round l fn tmps assign body) w ∧ RoundIn Fence.wide 0 P l fn tmps assign body w fun e w' => ∃ E' b aE, e = .returned (.bool b) ∧ R b aE ∧ dt E w E' w' ∧
   bc E' w' { tmps := #[], defers := [] } { fr := [], mem := aE }
theorem EC.X8 {P : Program} {k : Nat} {vs : List V} {mem aE : List aw} {b : Bool} (h : EC P k vs mem fun b' m' => b' = b ∧ m' = aE) : Q4 P k vs mem b aE := fun E w xs l e c hs hx hb => by
 obtain ⟨fn, tmps, assign, body, h1, h2⟩ := h E w xs l e c hs hx hb
 exact ⟨fn, tmps, assign, body, h1, h2.mono fun e w' ⟨E', b', m', h3, ⟨h4, h5⟩, h6, h7⟩ => by subst h4; subst h5; exact ⟨E', h3, h6, h7⟩⟩

def oH (bx : List (Nat × Nat)) (ev : Operand → V) : List (Nat × Operand) → List V → Option (List V)
 | [], cs => some cs
 | (i, x) :: r, cs => match bx[i]? with
  | some p => match fF (ev x) with
   | some new => if new.length = p.2 ∧ p.1 + p.2 ≤ cs.length then oH bx ev r (cB cs p.1 new) else none
   | none => none
  | none => none
def gO (ev : Operand → V) : List (Nat × Operand) → Option (List (Nat × Value))
 | [] => some []
 | (i, x) :: r => match ev x with
  | .sc v => match gO ev r with | some l => some ((i, v) :: l) | none => none
  | _ => none
def A7 (P : Program) (T : TypeId) (l : List (Nat × Value)) : Option V := match aG P (Instr.build T l.toArray) with
 | some (.agg cs) => some (.agg (cs.toList.map V.sc))
 | _ => none
def gZ (P : Program) (tt : Table) (T : TypeId) (parts : List (Nat × Operand)) (ev : Operand → V) : Option V :=
 match tt T with
 | some i => if i.bx ≠ [] then (match oH i.bx ev parts (i.zero.map V.sc) with | some cs => some (.agg cs) | none => none) else
  match gO ev parts with | some l => A7 P T l | none => none
 | none => none
theorem lH {E : Env} {st : St} {a : Act} (du : ∀ x, aW E (st.eval x) (a.eval x)) : ∀ {ps : List (Nat × Operand)} {l : List (Nat × Value)}, gO st.eval ps = some l → (ps.map fun p => (p.1, a.eval p.2)) = l
 | [], l, h => by cases h; rfl
 | (i, x) :: r, l, h => by
  simp only [gO] at h
  split at h
  ·rename_i v hv
   split at h
   ·rename_i l' hl
    cases h
    have hx := du x
    rw [hv] at hx
    have : a.eval x = v := by cases hx; rfl
    simp only [List.map_cons,this,lH du hl]
   ·cases h
  ·cases h

def lI (tt : Table) (T : TypeId) : V → Option Nat
 | .slice rows => match dG tt T with | some _ => some rows.length | none => none
 | .ms _ _ _ l => match dG tt T with | some _ => some l | none => none
 | _ => none
def jC (tt : Table) (op : BinOp) (T : TypeId) (x y : V) : Option Nat :=
 match op, y with
 | .eql, .sc (.slice none 0 0) => lI tt T x
 | .neq, .sc (.slice none 0 0) => lI tt T x
 | _, _ => none
def kA (op : BinOp) (b : Bool) : Bool := match op with | .neq => !b | _ => b
theorem nK {P : Program} {tt : Table} (ht : TT P tt) {T e : TypeId} (he : dG tt T = some e) (w : World) (xo yo : Operand) {op : BinOp} (kl : op = .eql ∨ op = .neq) (a : Option Addr) (l c : Nat) :
  (do eqGuard op T xo yo (.slice a l c) (.slice none 0 0); binOp op T (.slice a l c) (.slice none 0 0) : Sem Value).run P w = .ok (.bool (kA op a.isNone)) w := by
 unfold dG at he
 split at he
 ·rename_i i hi
  obtain ⟨d, hd, -, ki, -⟩ := ht.desc T i hi
  obtain rfl := ki e he
  have heq : (Op.equal T (.slice a l c) (.slice none 0 0)).run P w = .ok a.isNone w := by
   show (Op.equalIn (9999 + 1) T (.slice a l c) (.slice none 0 0)).run P w = _
   rw [Op.equalIn]
   simp only [Sem.run_bind,aq hd,Result.andThen_ok]
   cases a <;> rfl
  have hg : (eqGuard op T xo yo (.slice a l c) (.slice none 0 0)).run P w = .ok () w := by rcases kl with rfl | rfl <;> rfl
  rw [Sem.run_bind, hg, Result.andThen_ok]
  rcases kl with rfl | rfl
  ·show (do pure (Value.bool (← Op.equal T (.slice a l c) (.slice none 0 0))) : Sem Value).run P w = _
   rw [Sem.run_bind, heq]; rfl
  ·show (do pure (Value.bool (!(← Op.equal T (.slice a l c) (.slice none 0 0)))) : Sem Value).run P w = _
   rw [Sem.run_bind, heq]; rfl
 ·cases he
theorem wK {P : Program} {tt : Table} (ht : TT P tt) {E : Env} {w : World} {T : TypeId} {op : BinOp} {vx vy : V} {x y : Value} (xo yo : Operand) (hx : aW E vx x) (hy : aW E vy y) {n : Nat} (h : jC tt op T vx vy = some n) :
  ∃ b : Bool, (n ≠ 0 → b = false) ∧ (do eqGuard op T xo yo x y; binOp op T x y : Sem Value).run P w = .ok (.bool (kA op b)) w := by
 have gen : (op = .eql ∨ op = .neq) → y = .slice none 0 0 → lI tt T vx = some n → ∃ b : Bool, (n ≠ 0 → b = false) ∧ (do eqGuard op T xo yo x y; binOp op T x y : Sem Value).run P w = .ok (.bool (kA op b)) w := by
  intro kl Zn h
  subst Zn
  unfold lI at h
  split at h
  ·split at h
   ·rename_i e he
    cases h
    cases hx with
    | slice _ _ a cap nE ad xf ha ij hs hF h1 h2 =>
     refine ⟨a.isNone, fun hn => ?_, nK ht he w xo yo kl _ _ _⟩
     rw [ha (fun e => hn (by rw [e]; rfl))]; rfl
   ·cases h
  ·split at h
   ·rename_i e he
    cases h
    cases hx with
    | ms _ b v s l g e c a cap hb hl h0 hc =>
     refine ⟨a.isNone, fun hn => ?_, nK ht he w xo yo kl _ _ _⟩
     rw [hl (by omega)]; rfl
    | cZ => exact ⟨true, fun hn => absurd rfl hn, nK ht he w xo yo kl _ _ _⟩
   ·cases h
  ·cases h
 unfold jC at h
 split at h
 ·exact gen (.inl rfl) (bR hy) h
 ·exact gen (.inr rfl) (bR hy) h
 ·cases h

def C8 (mem : List aw) (ev : Operand → V) (x : Operand) : V := match dO mem (ev x) with | some v => v | none => ev x
def ff (ev : Operand → V) (parts : List (Nat × Operand)) : List (Nat × Nat) := (parts.map fun p => ev p.2).flatMap cn
def nL (tt : Table) (T : TypeId) (len : Nat) (parts : List (Nat × Operand)) (st : St) : Option (Nat × List V) :=
 match cy st.mem (parts.map fun p => st.eval p.2) with
 | some _ => pM tt T len parts (C8 st.mem st.eval)
 | none => none
def wL (tt : Table) (mem : List aw) (T : TypeId) (p v : V) : Option (List aw) :=
 match dO mem v with
 | some v' => gY tt (bS mem (cn v)) T p v'
 | none => none
def oI (tt : Table) (st : St) (ts : List TypeId) (s x : V) (dst : Option Tmp) (Q : St → Prop) : Prop :=
 match jm tt st.mem ts s x with
 | some (size, b, v, l, rs, xs) => ∀ (o : Nat) (rs' : List V), rs'.drop o = rs ++ xs → o + (l + xs.length) = rs'.length → Q ({ st with mem := st.mem.set b (.rows (v + 1) size rs') }.put dst (.ms b (v + 1) o (l + xs.length)))
 | none => False
def aS (P : Program) (tt : Table) (key : Nat) (o : Oper) (st : St) (Q : St → Prop) : Prop :=
 match o.op with
 | .alloc T => match tt T with
  | some i => Q ({ st with mem := ba st.mem key (.box (i.zero.map V.sc)) }.put o.dst (.ptr key 0))
  | none => False
 | .box _ x => match fF (st.eval x) with
  | some cs => Q ({ st with mem := ba st.mem key (.box cs) }.put o.dst (.ptr key 0))
  | none => False
 | .build T parts => match gZ P tt T parts.toList st.eval with
  | some v => Q (st.put o.dst v)
  | none => False
 | .buildSlice T len parts => match pM tt T len parts.toList st.eval with
  | some (size, rs) => Q ({ st with mem := ba st.mem key (.rows 0 size rs) }.put o.dst (.ms key 0 0 len))
  | none => match nL tt T len parts.toList st with
   | some (size, rs) => Q ({ st with mem := ba (bS st.mem (ff st.eval parts.toList)) key (.rows 0 size rs) }.put o.dst (.ms key 0 0 len))
   | none => False
 | .store T p x => match gY tt st.mem T (st.eval p) (st.eval x) with
  | some aE => Q ({ st with mem := aE }.put o.dst (.sc undef))
  | none => match wL tt st.mem T (st.eval p) (st.eval x) with
   | some aE => Q ({ st with mem := aE }.put o.dst (.sc undef))
   | none => False
 | .call { callee := .builtin .append, args := xs, argTypes := ts } => match xs.toList.map st.eval with
  | [s, x] => match dv tt st.mem ts.toList s x with
   | some (size, nt, rows) => Q ({ st with mem := (cu st.mem key size rows nt).1 }.put o.dst (cu st.mem key size rows nt).2)
   | none => oI tt st ts.toList s x o.dst Q
  | _ => False
 | .call { callee := .value f, args := xs, .. } => match st.eval f with
  | .im k => (∃ b aE, Q4 P k (xs.toList.map st.eval) st.mem b aE ∧ Q ({ st with mem := aE }.put o.dst (.sc (.bool b)))) ∨
    (∃ R, EC P k (xs.toList.map st.eval) st.mem R ∧ ∀ b aE, R b aE → Q ({ st with mem := aE }.put o.dst (.sc (.bool b))))
  | fv => match aX fv (xs.toList.map st.eval) with
   | some (g, vs) => ve P g vs st o.dst Q
   | none => False
 | .makeSlice T l c => match qN tt T (st.eval l) (st.eval c) with
  | some (size, rs, _) => Q ({ st with mem := ba st.mem key (.rows 0 size rs) }.put o.dst (.ms key 0 0 rs.length))
  | none => False
 | .makeMap _ none => Q ({ st with mem := ba st.mem key (.map [] 0) }.put o.dst (.mp key))
 | .mapUpdate T m k x => match ch P st.mem T (st.eval m) (st.eval k) (st.eval x) with
  | some aE => Q ({ st with mem := aE }.put o.dst (.sc undef))
  | none => False
 | .insert T m k x => match ch P st.mem T (st.eval m) (st.eval k) (st.eval x) with
  | some aE => Q ({ st with mem := aE }.put o.dst (.sc undef))
  | none => False
 | .mapEntry T m k => match pP P st.mem T (st.eval m) (st.eval k) with
  | some (aE, v) => Q ({ st with mem := aE }.put o.dst v)
  | none => False
 | .entryStore _ m s x => match pQ st.mem (st.eval m) (st.eval s) (st.eval x) with
  | some aE => Q ({ st with mem := aE }.put o.dst (.sc undef))
  | none => False
 | .call { callee := .builtin .delete, args := xs, argTypes := ts } => match mu P st.mem ts (xs.toList.map st.eval) with
  | some aE => Q ({ st with mem := aE }.put o.dst (.sc (.tuple #[])))
  | none => False
 | .range T x => match iH P st.mem T (st.eval x) with
  | some B => Q ({ st with mem := ba st.mem key B }.put o.dst (.ptr key 0))
  | none => False
 | .next it str => nw st o.dst (st.eval it) str Q
 | .binOp op T x y _ => match jC tt op T (st.eval x) (st.eval y) with
  | some n => ∀ b : Bool, (n ≠ 0 → b = false) → Q (st.put o.dst (.sc (.bool (kA op b))))
  | none => match fO P tt st o with
   | some v => Q (st.put o.dst v)
   | none => False
 | _ => match fO P tt st o with
  | some v => Q (st.put o.dst v)
  | none => False

theorem sJ {P : Program} {E : Env} {w : World} {fv : V} {fx : Value} {args : List V} {xs : Array Value} {g : FuncId} {vs : List V} (hf : aW E fv fx) (ha : aP E args xs.toList) (h : aX fv args = some (g, vs)) :
  ∃ d, ∃ ys : Array Value, aP E vs ys.toList ∧ (Deferred.ofValue fx xs).run P w = .ok d w ∧ (invoke d.target d.args).run P w = (callFunc g ys).run P w := by
 unfold aX at h
 split at h
 ·simp only [Option.some.injEq,Prod.mk.injEq] at h
  obtain ⟨rfl, rfl⟩ := h
  obtain rfl := bR hf
  rename_i g first cap
  have A8 : ∀ zs : Array Value, aP E (zs.toList.map V.sc) zs.toList := fun zs => ⟨by simp, fun i c x hc hx => iz E zs i c x hc (by simpa using hx)⟩
  exact ⟨{ target := .fn (.func g) cap, args := first ++ xs }, first ++ xs ++ cap, by simp only [Array.toList_append]; exact ((A8 first).append ha).append (A8 cap), rfl, by simp [invoke]⟩
 ·simp only [Option.some.injEq,Prod.mk.injEq] at h
  obtain ⟨rfl, rfl⟩ := h
  rename_i g _ _
  cases hf with
  | fQ _ _ first cap ys zs h1 h2 h3 h4 =>
   refine ⟨{ target := .fn (.func g) zs, args := ys ++ xs }, ys ++ xs ++ zs, ?_, rfl, by simp [invoke]⟩
   simp only [Array.toList_append]
   exact (aP.append (aP.append ⟨by simpa using h1, fun i c x hc hx => h3 i c x hc (by simpa using hx)⟩ ha) ⟨by simpa using h2, fun i c x hc hx => h4 i c x hc (by simpa using hx)⟩)
 ·cases h

theorem lJ {P : Program} {E : Env} {w : World} {fv : V} {fx : Value} {args : List V} {xs : Array Value} {g : FuncId} {vs : List V} (hf : aW E fv fx) (ha : aP E args xs.toList) (h : aX fv args = some (g, vs)) :
  ∃ ys : Array Value, aP E vs ys.toList ∧ (do let d ← Deferred.ofValue fx xs; invoke d.target d.args : Sem Next).run P w = (callFunc g ys).run P w := by
 unfold aX at h
 split at h
 ·simp only [Option.some.injEq,Prod.mk.injEq] at h
  obtain ⟨rfl, rfl⟩ := h
  obtain rfl := bR hf
  rename_i first cap
  have A8 : ∀ zs : Array Value, aP E (zs.toList.map V.sc) zs.toList := fun zs => ⟨by simp, fun i c x hc hx => iz E zs i c x hc (by simpa using hx)⟩
  refine ⟨first ++ xs ++ cap, by simp only [Array.toList_append]; exact ((A8 first).append ha).append (A8 cap), ?_⟩
  simp [Deferred.ofValue, invoke]
 ·simp only [Option.some.injEq,Prod.mk.injEq] at h
  obtain ⟨rfl, rfl⟩ := h
  cases hf with
  | fQ _ _ first cap ys zs h1 h2 h3 h4 =>
   refine ⟨ys ++ xs ++ zs, ?_, ?_⟩
   ·simp only [Array.toList_append]
    exact (aP.append (aP.append ⟨by simpa using h1, fun i c x hc hx => h3 i c x hc (by simpa using hx)⟩ ha) ⟨by simpa using h2, fun i c x hc hx => h4 i c x hc (by simpa using hx)⟩)
   ·simp [Deferred.ofValue, invoke]
 ·cases h

theorem yA {P : Program} {tt : Table} {E : Env} {bx : List (Nat × Nat)} {ev : Operand → V} {av : Operand → Value} (oD : ∀ o, aW E (ev o) (av o)) : ∀ (parts : List (Nat × Operand)) (cs : List V) (xs : Array Value) (out : List V),
  aP E cs xs.toList → oH bx ev parts cs = some out → ∃ ys, Instr.fill (bx[·]?) xs (parts.map fun p => (p.1, av p.2)) = some ys ∧ aP E out ys.toList := by
 intro parts
 induction parts with
 | nil => intro cs xs out hr h; simp only [oH,Option.some.injEq] at h; subst h; exact ⟨xs, rfl, hr⟩
 | cons p r ih =>
  intro cs xs out hr h
  obtain ⟨i, x⟩ := p
  simp only [oH] at h
  split at h
  ·rename_i p hp
   split at h
   ·rename_i new fS
    split at h
    ·rename_i hc
     obtain ⟨h1, h2⟩ := kr (oD x) fS
     have jH : (av x).cells.size = p.2 := by have := h1.1; simp at this; omega
     have mq : xs.size = cs.length := by have := hr.1; simp at this; omega
     obtain ⟨ys, h3, h4⟩ := ih _ _ out (qG new _ cs xs p.1 h1 hr) h
     refine ⟨ys, ?_, h4⟩
     simp only [List.map_cons,Instr.fill,hp,jH]
     rw [if_neg (by simp; omega), ← h3]
     congr 1
     rw [← Array.foldl_toList, Array.toList_zipIdx]
     exact qJ p.1 (av x).cells.toList 0 xs
    ·cases h
   ·cases h
  ·cases h

theorem oJ {P : Program} {tt : Table} (ht : TT P tt) {E : Env} {w : World} {a : Act} {st : St} (hs : bc E w a st) {T : TypeId} {parts : Array (Nat × Operand)} {v : V} (h : gZ P tt T parts.toList st.eval = some v) :
  ∃ x, (Instr.build T (parts.map fun (i, x) => (i, a.eval x))).run P w = .ok x w ∧ aW E v x := by
 unfold gZ at h
 split at h
 ·rename_i i hi
  split at h
  ·rename_i bH
   split at h
   ·rename_i cs rA
    simp only [Option.some.injEq] at h; subst h
    obtain ⟨info, nr, -, -, z, hz, Et⟩ := ht.size T i hi
    obtain ⟨d, hd, -, -, UE⟩ := ht.desc T i hi
    obtain ⟨ys, h1, h2⟩ := yA (P := P) (tt := tt) hs.eval parts.toList _ z.cells cs (by rw [Et]; exact ⟨by simp, fun i c x hc hx => by
     simp only [List.getElem?_map,hx,Option.map_some,Option.some.injEq] at hc; subst hc; exact .sc _ _⟩) rA
    have Zo : ∃ fs, d = .struct fs ∧ fs.size = i.bx.length ∧ ∀ k (hk : k < fs.size), ∃ inf, P.info? fs[k].type = some inf ∧ i.bx[k]? = some (fs[k].offset, inf.size) := by
     have iG : 0 < i.bx.length := List.length_pos_iff.2 bH
     obtain ⟨fs, fd, inf, rfl, hlen, -⟩ := UE 0 (i.bx[0]).1 (i.bx[0]).2 (List.getElem?_eq_getElem iG)
     refine ⟨fs, rfl, hlen, fun k hk => ?_⟩
     obtain ⟨X9, fd, inf, he, -, RZ, UF, VK, Zp, -⟩ := UE k (i.bx[k]'(by omega)).1 (i.bx[k]'(by omega)).2 (List.getElem?_eq_getElem (by omega))
     cases he
     rw [Array.getElem?_eq_getElem hk] at RZ; cases RZ
     exact ⟨inf, VK, by rw [List.getElem?_eq_getElem (by omega), UF, Zp]⟩
    obtain ⟨fs, rfl, hlen, bh⟩ := Zo
    have A8 : (fs.mapM fun f => do pure (f.offset, ← sizeOf f.type) : Sem (Array (Nat × Nat))).run P w = .ok i.bx.toArray w := by
     have gen : ∀ (l : List Field) (fl : List (Nat × Nat)), l.length = fl.length → (∀ k (hk : k < l.length), ∃ inf, P.info? l[k].type = some inf ∧ fl[k]? = some (l[k].offset, inf.size)) →
       (l.mapM fun f => do pure (f.offset, ← sizeOf f.type) : Sem (List (Nat × Nat))).run P w = .ok fl w := by
      intro l
      induction l with
      | nil => intro fl hl _; have : fl = [] := List.length_eq_zero_iff.1 hl.symm; subst this; rfl
      | cons f r ih =>
       intro fl hl hk
       cases fl with
       | nil => simp at hl
       | cons p fl =>
        obtain ⟨inf, h1, h2⟩ := hk 0 (by simp)
        simp only [List.getElem_cons_zero,List.getElem?_cons_zero,Option.some.injEq] at h1 h2
        subst h2
        have := ih fl (by simpa using hl) fun k bX => hk (k + 1) (Nat.succ_lt_succ bX)
        simp only [List.mapM_cons,Sem.run_bind,de h1,Result.andThen_ok,Sem.run_pure,this]
     have := gen fs.toList i.bx hlen fun k hk => bh k hk
     rw [Array.mapM_eq_mapM_toList]
     simp only [Sem.run_map,this,Result.andThen_ok]
    have nI : (parts.map fun (i, x) => (i, a.eval x)).toList = parts.toList.map fun p => (p.1, a.eval p.2) := by simp
    refine ⟨.agg ys, ?_, .agg _ _ _ (by simpa using h2.1) fun i c x hc hx => h2.2 i c x hc (by simpa using hx)⟩
    unfold Instr.build
    have RX : (zeroValue T).run P w = .ok z w := by simp [zeroValue, cE nr, hz]
    simp only [Sem.run_bind,RX,Result.andThen_ok,aq hd,A8,nI]
    have R0 : (fun (k : Nat) => i.bx.toArray[k]?) = (fun (k : Nat) => i.bx[k]?) := by funext k; simp
    simp only [R0,h1]
    simp
   ·cases h
  ·split at h
   ·rename_i l hl
    have hp := lH hs.eval hl
    unfold A7 at h
    split at h
    ·rename_i cs rA
     cases h
     refine ⟨.agg cs, ?_, .agg _ _ _ (by simp) (iz E cs)⟩
     have nI : (parts.map fun (i, x) => (i, a.eval x)) = l.toArray := by rw [← hp]; apply Array.toList_inj.1; simp
     rw [nI]
     exact cA _ rA w
    ·cases h
   ·cases h
 ·cases h
end Go.Eng
end
