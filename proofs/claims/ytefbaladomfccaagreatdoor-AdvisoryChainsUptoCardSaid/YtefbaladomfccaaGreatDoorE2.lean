/-
  THE ENGINE, K: regions, code, functions.
-/
import Derived.Test.YtefbaladomfccaaGreatDoorE1
import Derived.LoopNIn
import Derived.RangeFuncLeaves
import Derived.RangeFuncCalls
set_option linter.all false
section
namespace Go.Eng
variable [Glob]
open Go.RowKit (Below)

def FnOkS (P : Program) (f : FuncId) (args : List V) (mem : List Blk) (r : V) (mem' : List Blk) : Prop :=
 (∀ (xs : Array Value) (w : World), (callFunc f xs).run P w = .ok (.enter f xs) w) ∧
 ∀ (E : Env) (w : World) (xs : Array Value), Sim E w { tmps := #[], defers := [] } { fr := [], mem := mem } → RepL E args xs.toList →
  Calls P f xs w fun e w' => ∃ E' x, e = .returned x ∧ Evo E w E' w' ∧ Sim E' w' { tmps := #[], defers := [] } { fr := [], mem := mem' } ∧ Rep E' r x

def FnOkR (P : Program) (f : FuncId) (args : List V) (mem : List Blk) (R : V → List Blk → Prop) : Prop :=
 (∀ (xs : Array Value) (w : World), (callFunc f xs).run P w = .ok (.enter f xs) w) ∧
 ∀ (E : Env) (w : World) (xs : Array Value), Sim E w { tmps := #[], defers := [] } { fr := [], mem := mem } → RepL E args xs.toList →
  Calls P f xs w fun e w' => ∃ E' x r mem', e = .returned x ∧ R r mem' ∧ Evo E w E' w' ∧ Sim E' w' { tmps := #[], defers := [] } { fr := [], mem := mem' } ∧ Rep E' r x
theorem FnOkR.det {P : Program} {f : FuncId} {args : List V} {mem : List Blk} {r : V} {mem' : List Blk} (h : FnOkR P f args mem fun r' m' => r' = r ∧ m' = mem') : FnOkS P f args mem r mem' :=
 ⟨h.1, fun E w xs hs hx => (h.2 E w xs hs hx).mono fun e w' ⟨E', x, r', m', h1, ⟨h2, h3⟩, h4, h5, h6⟩ => by subst h2; subst h3; exact ⟨E', x, h1, h4, h5, h6⟩⟩
theorem FnOkS.rel {P : Program} {f : FuncId} {args : List V} {mem : List Blk} {r : V} {mem' : List Blk} (h : FnOkS P f args mem r mem') : FnOkR P f args mem fun r' m' => r' = r ∧ m' = mem' :=
 ⟨h.1, fun E w xs hs hx => (h.2 E w xs hs hx).mono fun e w' ⟨E', x, h1, h4, h5, h6⟩ => ⟨E', x, _, _, h1, ⟨rfl, rfl⟩, h4, h5, h6⟩⟩
theorem FnOkR.mono {P : Program} {f : FuncId} {args : List V} {mem : List Blk} {R R' : V → List Blk → Prop} (h : FnOkR P f args mem R) (hR : ∀ r m, R r m → R' r m) : FnOkR P f args mem R' :=
 ⟨h.1, fun E w xs hs hx => (h.2 E w xs hs hx).mono fun e w' ⟨E', x, r', m', h1, h2, h4⟩ => ⟨E', x, r', m', h1, hR _ _ h2, h4⟩⟩

theorem Sim.bare {E : Env} {w : World} {a : Act} {st : St} (hs : Sim E w a st) : Sim E w { tmps := #[], defers := [] } { fr := [], mem := st.mem } :=
 ⟨hs.F, hs.lt, hs.mem, hs.top, hs.ver, hs.apart, .nil _⟩
theorem Sim.dress {E E' : Env} {w w' : World} {a : Act} {st : St} {mem' : List Blk} (hs : Sim E w a st) (h : Sim E' w' { tmps := #[], defers := [] } { fr := [], mem := mem' }) (hle : E.le E') : Sim E' w' a { st with mem := mem' } :=
 ⟨h.F, h.lt, h.mem, h.top, h.ver, h.apart, hs.fr.mono hle⟩

def calleeOf (fv : V) (args : List V) : Option (FuncId × List V) :=
 match fv with
 | .sc (.func (.func g) first cap) => some (g, first.toList.map V.sc ++ args ++ cap.toList.map V.sc)
 | .clo (.func g) first cap => some (g, first ++ args ++ cap)
 | _ => none

def NatOk (P : Program) (f : FuncId) (vs : List V) (r : V) : Prop :=
 ∀ (E : Env) (w : World) (xs : Array Value), (∀ ad x, E.F ad = some x → w.cell? ad = some x) → RepL E vs xs.toList → ∃ x, (callFunc f xs).run P w = .ok (.value x) w ∧ Rep E r x
def natV (P : Program) (f : FuncId) (vs : List V) : Option V :=
 match allVal vs with
 | some l => match scRunP P (callFunc f l.toArray) with | some (.value v) => some (absV v) | _ => none
 | none => none
theorem natV_ok {P : Program} {f : FuncId} {vs : List V} {r : V} (h : natV P f vs = some r) : NatOk P f vs r := fun E w xs hF hx => by
 unfold natV at h
 split at h
 ·rename_i l hl
  have := allVal_rep hx hl
  split at h
  ·rename_i v hv
   cases h
   exact ⟨v, scRunP_sound _ (by rw [← this] at hv; simpa using hv) w, absV_rep E v⟩
  ·cases h
 ·cases h

def callP (P : Program) (f : FuncId) (vs : List V) (st : St) (dst : Option Tmp) (Q : St → Prop) : Prop :=
 (∃ vs' r, purL st.mem vs = some vs' ∧ FnOk P f vs' r ∧ Q ({ st with mem := memAfter st.mem (vs.flatMap ref1) r }.put dst r)) ∨
 (∃ r mem', FnOkS P f vs st.mem r mem' ∧ Q ({ st with mem := mem' }.put dst r)) ∨
 (∃ R, FnOkR P f vs st.mem R ∧ ∀ r mem', R r mem' → Q ({ st with mem := mem' }.put dst r)) ∨
 (∃ r, NatOk P f vs r ∧ Q (st.put dst r))

def YOk (P : Program) (k : Nat) (vs : List V) (mem : List Blk) (b : Bool) (mem' : List Blk) : Prop :=
 ∀ (E : Env) (w : World) (xs : Array Value) (l e c : Nat), Sim E w { tmps := #[], defers := [] } { fr := [], mem := mem } → RepL E vs xs.toList → E.blk k 0 = some (l, e, c) →
  ∃ fn tmps assign body, (Instr.yield l xs).run P w = .ok (.round l fn tmps assign body) w ∧ RoundIn Fence.wide 0 P l fn tmps assign body w fun e w' => ∃ E', e = .returned (.bool b) ∧ Evo E w E' w' ∧
   Sim E' w' { tmps := #[], defers := [] } { fr := [], mem := mem' }

def YOkR (P : Program) (k : Nat) (vs : List V) (mem : List Blk) (R : Bool → List Blk → Prop) : Prop :=
 ∀ (E : Env) (w : World) (xs : Array Value) (l e c : Nat), Sim E w { tmps := #[], defers := [] } { fr := [], mem := mem } → RepL E vs xs.toList → E.blk k 0 = some (l, e, c) →
  ∃ fn tmps assign body, (Instr.yield l xs).run P w = .ok (.round l fn tmps assign body) w ∧ RoundIn Fence.wide 0 P l fn tmps assign body w fun e w' => ∃ E' b mem', e = .returned (.bool b) ∧ R b mem' ∧ Evo E w E' w' ∧
   Sim E' w' { tmps := #[], defers := [] } { fr := [], mem := mem' }
theorem YOkR.det {P : Program} {k : Nat} {vs : List V} {mem mem' : List Blk} {b : Bool} (h : YOkR P k vs mem fun b' m' => b' = b ∧ m' = mem') : YOk P k vs mem b mem' := fun E w xs l e c hs hx hb => by
 obtain ⟨fn, tmps, assign, body, h1, h2⟩ := h E w xs l e c hs hx hb
 exact ⟨fn, tmps, assign, body, h1, h2.mono fun e w' ⟨E', b', m', h3, ⟨h4, h5⟩, h6, h7⟩ => by subst h4; subst h5; exact ⟨E', h3, h6, h7⟩⟩

def fillL (flds : List (Nat × Nat)) (ev : Operand → V) : List (Nat × Operand) → List V → Option (List V)
 | [], cs => some cs
 | (i, x) :: r, cs => match flds[i]? with
  | some p => match cellsV (ev x) with
   | some new => if new.length = p.2 ∧ p.1 + p.2 ≤ cs.length then fillL flds ev r (spliceL cs p.1 new) else none
   | none => none
  | none => none
def partVals (ev : Operand → V) : List (Nat × Operand) → Option (List (Nat × Value))
 | [] => some []
 | (i, x) :: r => match ev x with
  | .sc v => match partVals ev r with | some l => some ((i, v) :: l) | none => none
  | _ => none
def builtV (P : Program) (T : TypeId) (l : List (Nat × Value)) : Option V := match scRunP P (Instr.build T l.toArray) with
 | some (.agg cs) => some (.agg (cs.toList.map V.sc))
 | _ => none
def buildV (P : Program) (tt : Table) (T : TypeId) (parts : List (Nat × Operand)) (ev : Operand → V) : Option V :=
 match tt T with
 | some i => if i.flds ≠ [] then (match fillL i.flds ev parts (i.zero.map V.sc) with | some cs => some (.agg cs) | none => none) else
  match partVals ev parts with | some l => builtV P T l | none => none
 | none => none
theorem partVals_sound {E : Env} {st : St} {a : Act} (hev : ∀ x, Rep E (st.eval x) (a.eval x)) : ∀ {ps : List (Nat × Operand)} {l : List (Nat × Value)}, partVals st.eval ps = some l → (ps.map fun p => (p.1, a.eval p.2)) = l
 | [], l, h => by cases h; rfl
 | (i, x) :: r, l, h => by
  simp only [partVals] at h
  split at h
  ·rename_i v hv
   split at h
   ·rename_i l' hl
    cases h
    have hx := hev x
    rw [hv] at hx
    have : a.eval x = v := by cases hx; rfl
    simp only [List.map_cons,this,partVals_sound hev hl]
   ·cases h
  ·cases h

def sliceLen (tt : Table) (T : TypeId) : V → Option Nat
 | .slice rows => match tElem tt T with | some _ => some rows.length | none => none
 | .ms _ _ _ l => match tElem tt T with | some _ => some l | none => none
 | _ => none
def nilLen (tt : Table) (op : BinOp) (T : TypeId) (x y : V) : Option Nat :=
 match op, y with
 | .eql, .sc (.slice none 0 0) => sliceLen tt T x
 | .neq, .sc (.slice none 0 0) => sliceLen tt T x
 | _, _ => none
def nilAns (op : BinOp) (b : Bool) : Bool := match op with | .neq => !b | _ => b
theorem run_nilCmp {P : Program} {tt : Table} (ht : TT P tt) {T e : TypeId} (he : tElem tt T = some e) (w : World) (xo yo : Operand) {op : BinOp} (hop : op = .eql ∨ op = .neq) (a : Option Addr) (l c : Nat) :
  (do eqGuard op T xo yo (.slice a l c) (.slice none 0 0); binOp op T (.slice a l c) (.slice none 0 0) : Sem Value).run P w = .ok (.bool (nilAns op a.isNone)) w := by
 unfold tElem at he
 split at he
 ·rename_i i hi
  obtain ⟨d, hd, -, hsl, -⟩ := ht.desc T i hi
  obtain rfl := hsl e he
  have heq : (Op.equal T (.slice a l c) (.slice none 0 0)).run P w = .ok a.isNone w := by
   show (Op.equalIn (9999 + 1) T (.slice a l c) (.slice none 0 0)).run P w = _
   rw [Op.equalIn]
   simp only [Sem.run_bind,run_underlyingP hd,Result.andThen_ok]
   cases a <;> rfl
  have hg : (eqGuard op T xo yo (.slice a l c) (.slice none 0 0)).run P w = .ok () w := by rcases hop with rfl | rfl <;> rfl
  rw [Sem.run_bind, hg, Result.andThen_ok]
  rcases hop with rfl | rfl
  ·show (do pure (Value.bool (← Op.equal T (.slice a l c) (.slice none 0 0))) : Sem Value).run P w = _
   rw [Sem.run_bind, heq]; rfl
  ·show (do pure (Value.bool (!(← Op.equal T (.slice a l c) (.slice none 0 0)))) : Sem Value).run P w = _
   rw [Sem.run_bind, heq]; rfl
 ·cases he
theorem nilLen_sound {P : Program} {tt : Table} (ht : TT P tt) {E : Env} {w : World} {T : TypeId} {op : BinOp} {vx vy : V} {x y : Value} (xo yo : Operand) (hx : Rep E vx x) (hy : Rep E vy y) {n : Nat} (h : nilLen tt op T vx vy = some n) :
  ∃ b : Bool, (n ≠ 0 → b = false) ∧ (do eqGuard op T xo yo x y; binOp op T x y : Sem Value).run P w = .ok (.bool (nilAns op b)) w := by
 have gen : (op = .eql ∨ op = .neq) → y = .slice none 0 0 → sliceLen tt T vx = some n → ∃ b : Bool, (n ≠ 0 → b = false) ∧ (do eqGuard op T xo yo x y; binOp op T x y : Sem Value).run P w = .ok (.bool (nilAns op b)) w := by
  intro hop hyy h
  subst hyy
  unfold sliceLen at h
  split at h
  ·split at h
   ·rename_i e he
    cases h
    cases hx with
    | slice _ _ a cap esz ad xf ha hcap hs hF h1 h2 =>
     refine ⟨a.isNone, fun hn => ?_, run_nilCmp ht he w xo yo hop _ _ _⟩
     rw [ha (fun e => hn (by rw [e]; rfl))]; rfl
   ·cases h
  ·split at h
   ·rename_i e he
    cases h
    cases hx with
    | ms _ b v s l g e c a cap hb hl h0 hc =>
     refine ⟨a.isNone, fun hn => ?_, run_nilCmp ht he w xo yo hop _ _ _⟩
     rw [hl (by omega)]; rfl
    | msnil => exact ⟨true, fun hn => absurd rfl hn, run_nilCmp ht he w xo yo hop _ _ _⟩
   ·cases h
  ·cases h
 unfold nilLen at h
 split at h
 ·exact gen (.inl rfl) (rep_sc hy) h
 ·exact gen (.inr rfl) (rep_sc hy) h
 ·cases h

def evP (mem : List Blk) (ev : Operand → V) (x : Operand) : V := match pur1 mem (ev x) with | some v => v | none => ev x
def keysOf (ev : Operand → V) (parts : List (Nat × Operand)) : List (Nat × Nat) := (parts.map fun p => ev p.2).flatMap ref1
def litP (tt : Table) (T : TypeId) (len : Nat) (parts : List (Nat × Operand)) (st : St) : Option (Nat × List V) :=
 match purL st.mem (parts.map fun p => st.eval p.2) with
 | some _ => litV tt T len parts (evP st.mem st.eval)
 | none => none
def storeP (tt : Table) (mem : List Blk) (T : TypeId) (p v : V) : Option (List Blk) :=
 match pur1 mem v with
 | some v' => storeV tt (frzAll mem (ref1 v)) T p v'
 | none => none
def appSQ (tt : Table) (st : St) (ts : List TypeId) (s x : V) (dst : Option Tmp) (Q : St → Prop) : Prop :=
 match appendS tt st.mem ts s x with
 | some (size, b, v, l, rs, xs) => ∀ (o : Nat) (rs' : List V), rs'.drop o = rs ++ xs → o + (l + xs.length) = rs'.length → Q ({ st with mem := st.mem.set b (.rows (v + 1) size rs') }.put dst (.ms b (v + 1) o (l + xs.length)))
 | none => False
def stepOp (P : Program) (tt : Table) (key : Nat) (o : Oper) (st : St) (Q : St → Prop) : Prop :=
 match o.op with
 | .alloc T => match tt T with
  | some i => Q ({ st with mem := setMem st.mem key (.box (i.zero.map V.sc)) }.put o.dst (.ptr key 0))
  | none => False
 | .box _ x => match cellsV (st.eval x) with
  | some cs => Q ({ st with mem := setMem st.mem key (.box cs) }.put o.dst (.ptr key 0))
  | none => False
 | .build T parts => match buildV P tt T parts.toList st.eval with
  | some v => Q (st.put o.dst v)
  | none => False
 | .buildSlice T len parts => match litV tt T len parts.toList st.eval with
  | some (size, rs) => Q ({ st with mem := setMem st.mem key (.rows 0 size rs) }.put o.dst (.ms key 0 0 len))
  | none => match litP tt T len parts.toList st with
   | some (size, rs) => Q ({ st with mem := setMem (frzAll st.mem (keysOf st.eval parts.toList)) key (.rows 0 size rs) }.put o.dst (.ms key 0 0 len))
   | none => False
 | .store T p x => match storeV tt st.mem T (st.eval p) (st.eval x) with
  | some mem' => Q ({ st with mem := mem' }.put o.dst (.sc undef))
  | none => match storeP tt st.mem T (st.eval p) (st.eval x) with
   | some mem' => Q ({ st with mem := mem' }.put o.dst (.sc undef))
   | none => False
 | .call { callee := .builtin .append, args := xs, argTypes := ts } => match xs.toList.map st.eval with
  | [s, x] => match appendV tt st.mem ts.toList s x with
   | some (size, old, rows) => Q ({ st with mem := (appOut st.mem key size rows old).1 }.put o.dst (appOut st.mem key size rows old).2)
   | none => appSQ tt st ts.toList s x o.dst Q
  | _ => False
 | .call { callee := .value f, args := xs, .. } => match st.eval f with
  | .yld k => (∃ b mem', YOk P k (xs.toList.map st.eval) st.mem b mem' ∧ Q ({ st with mem := mem' }.put o.dst (.sc (.bool b)))) ∨
    (∃ R, YOkR P k (xs.toList.map st.eval) st.mem R ∧ ∀ b mem', R b mem' → Q ({ st with mem := mem' }.put o.dst (.sc (.bool b))))
  | fv => match calleeOf fv (xs.toList.map st.eval) with
   | some (g, vs) => callP P g vs st o.dst Q
   | none => False
 | .makeSlice T l c => match makeV tt T (st.eval l) (st.eval c) with
  | some (size, rs, _) => Q ({ st with mem := setMem st.mem key (.rows 0 size rs) }.put o.dst (.ms key 0 0 rs.length))
  | none => False
 | .makeMap _ none => Q ({ st with mem := setMem st.mem key (.map [] 0) }.put o.dst (.mp key))
 | .mapUpdate T m k x => match insertV P st.mem T (st.eval m) (st.eval k) (st.eval x) with
  | some mem' => Q ({ st with mem := mem' }.put o.dst (.sc undef))
  | none => False
 | .insert T m k x => match insertV P st.mem T (st.eval m) (st.eval k) (st.eval x) with
  | some mem' => Q ({ st with mem := mem' }.put o.dst (.sc undef))
  | none => False
 | .mapEntry T m k => match entryV P st.mem T (st.eval m) (st.eval k) with
  | some (mem', v) => Q ({ st with mem := mem' }.put o.dst v)
  | none => False
 | .entryStore _ m s x => match stampV st.mem (st.eval m) (st.eval s) (st.eval x) with
  | some mem' => Q ({ st with mem := mem' }.put o.dst (.sc undef))
  | none => False
 | .call { callee := .builtin .delete, args := xs, argTypes := ts } => match deleteV P st.mem ts (xs.toList.map st.eval) with
  | some mem' => Q ({ st with mem := mem' }.put o.dst (.sc (.tuple #[])))
  | none => False
 | .range T x => match rangeBlk P st.mem T (st.eval x) with
  | some B => Q ({ st with mem := setMem st.mem key B }.put o.dst (.ptr key 0))
  | none => False
 | .next it str => nextQ st o.dst (st.eval it) str Q
 | .binOp op T x y _ => match nilLen tt op T (st.eval x) (st.eval y) with
  | some n => ∀ b : Bool, (n ≠ 0 → b = false) → Q (st.put o.dst (.sc (.bool (nilAns op b))))
  | none => match opV P tt st o with
   | some v => Q (st.put o.dst v)
   | none => False
 | _ => match opV P tt st o with
  | some v => Q (st.put o.dst v)
  | none => False

theorem calleeOf_parts {P : Program} {E : Env} {w : World} {fv : V} {fx : Value} {args : List V} {xs : Array Value} {g : FuncId} {vs : List V} (hf : Rep E fv fx) (ha : RepL E args xs.toList) (h : calleeOf fv args = some (g, vs)) :
  ∃ d, ∃ ys : Array Value, RepL E vs ys.toList ∧ (Deferred.ofValue fx xs).run P w = .ok d w ∧ (invoke d.target d.args).run P w = (callFunc g ys).run P w := by
 unfold calleeOf at h
 split at h
 ·simp only [Option.some.injEq,Prod.mk.injEq] at h
  obtain ⟨rfl, rfl⟩ := h
  obtain rfl := rep_sc hf
  rename_i g first cap
  have hmap : ∀ zs : Array Value, RepL E (zs.toList.map V.sc) zs.toList := fun zs => ⟨by simp, fun i c x hc hx => rep_map_sc E zs i c x hc (by simpa using hx)⟩
  exact ⟨{ target := .fn (.func g) cap, args := first ++ xs }, first ++ xs ++ cap, by simp only [Array.toList_append]; exact ((hmap first).append ha).append (hmap cap), rfl, by simp [invoke]⟩
 ·simp only [Option.some.injEq,Prod.mk.injEq] at h
  obtain ⟨rfl, rfl⟩ := h
  rename_i g _ _
  cases hf with
  | clo _ _ first cap ys zs h1 h2 h3 h4 =>
   refine ⟨{ target := .fn (.func g) zs, args := ys ++ xs }, ys ++ xs ++ zs, ?_, rfl, by simp [invoke]⟩
   simp only [Array.toList_append]
   exact (RepL.append (RepL.append ⟨by simpa using h1, fun i c x hc hx => h3 i c x hc (by simpa using hx)⟩ ha) ⟨by simpa using h2, fun i c x hc hx => h4 i c x hc (by simpa using hx)⟩)
 ·cases h

theorem calleeOf_sound {P : Program} {E : Env} {w : World} {fv : V} {fx : Value} {args : List V} {xs : Array Value} {g : FuncId} {vs : List V} (hf : Rep E fv fx) (ha : RepL E args xs.toList) (h : calleeOf fv args = some (g, vs)) :
  ∃ ys : Array Value, RepL E vs ys.toList ∧ (do let d ← Deferred.ofValue fx xs; invoke d.target d.args : Sem Next).run P w = (callFunc g ys).run P w := by
 unfold calleeOf at h
 split at h
 ·simp only [Option.some.injEq,Prod.mk.injEq] at h
  obtain ⟨rfl, rfl⟩ := h
  obtain rfl := rep_sc hf
  rename_i first cap
  have hmap : ∀ zs : Array Value, RepL E (zs.toList.map V.sc) zs.toList := fun zs => ⟨by simp, fun i c x hc hx => rep_map_sc E zs i c x hc (by simpa using hx)⟩
  refine ⟨first ++ xs ++ cap, by simp only [Array.toList_append]; exact ((hmap first).append ha).append (hmap cap), ?_⟩
  simp [Deferred.ofValue, invoke]
 ·simp only [Option.some.injEq,Prod.mk.injEq] at h
  obtain ⟨rfl, rfl⟩ := h
  cases hf with
  | clo _ _ first cap ys zs h1 h2 h3 h4 =>
   refine ⟨ys ++ xs ++ zs, ?_, ?_⟩
   ·simp only [Array.toList_append]
    exact (RepL.append (RepL.append ⟨by simpa using h1, fun i c x hc hx => h3 i c x hc (by simpa using hx)⟩ ha) ⟨by simpa using h2, fun i c x hc hx => h4 i c x hc (by simpa using hx)⟩)
   ·simp [Deferred.ofValue, invoke]
 ·cases h

theorem fillL_sound {P : Program} {tt : Table} {E : Env} {flds : List (Nat × Nat)} {ev : Operand → V} {av : Operand → Value} (hrep : ∀ o, Rep E (ev o) (av o)) : ∀ (parts : List (Nat × Operand)) (cs : List V) (xs : Array Value) (out : List V),
  RepL E cs xs.toList → fillL flds ev parts cs = some out → ∃ ys, Instr.fill (flds[·]?) xs (parts.map fun p => (p.1, av p.2)) = some ys ∧ RepL E out ys.toList := by
 intro parts
 induction parts with
 | nil => intro cs xs out hr h; simp only [fillL,Option.some.injEq] at h; subst h; exact ⟨xs, rfl, hr⟩
 | cons p r ih =>
  intro cs xs out hr h
  obtain ⟨i, x⟩ := p
  simp only [fillL] at h
  split at h
  ·rename_i p hp
   split at h
   ·rename_i new hnew
    split at h
    ·rename_i hc
     obtain ⟨h1, h2⟩ := cellsV_rep (hrep x) hnew
     have hsz : (av x).cells.size = p.2 := by have := h1.1; simp at this; omega
     have hxs : xs.size = cs.length := by have := hr.1; simp at this; omega
     obtain ⟨ys, h3, h4⟩ := ih _ _ out (spliceL_rep new _ cs xs p.1 h1 hr) h
     refine ⟨ys, ?_, h4⟩
     simp only [List.map_cons,Instr.fill,hp,hsz]
     rw [if_neg (by simp; omega), ← h3]
     congr 1
     rw [← Array.foldl_toList, Array.toList_zipIdx]
     exact fold_splice p.1 (av x).cells.toList 0 xs
    ·cases h
   ·cases h
  ·cases h

theorem buildV_sound {P : Program} {tt : Table} (ht : TT P tt) {E : Env} {w : World} {a : Act} {st : St} (hs : Sim E w a st) {T : TypeId} {parts : Array (Nat × Operand)} {v : V} (h : buildV P tt T parts.toList st.eval = some v) :
  ∃ x, (Instr.build T (parts.map fun (i, x) => (i, a.eval x))).run P w = .ok x w ∧ Rep E v x := by
 unfold buildV at h
 split at h
 ·rename_i i hi
  split at h
  ·rename_i hne
   split at h
   ·rename_i cs hcs
    simp only [Option.some.injEq] at h; subst h
    obtain ⟨info, hi1, -, -, z, hz, hzl⟩ := ht.size T i hi
    obtain ⟨d, hd, -, -, hfl⟩ := ht.desc T i hi
    obtain ⟨ys, h1, h2⟩ := fillL_sound (P := P) (tt := tt) hs.eval parts.toList _ z.cells cs (by rw [hzl]; exact ⟨by simp, fun i c x hc hx => by
     simp only [List.getElem?_map,hx,Option.map_some,Option.some.injEq] at hc; subst hc; exact .sc _ _⟩) hcs
    have hfs : ∃ fs, d = .struct fs ∧ fs.size = i.flds.length ∧ ∀ k (hk : k < fs.size), ∃ inf, P.info? fs[k].type = some inf ∧ i.flds[k]? = some (fs[k].offset, inf.size) := by
     have hpos : 0 < i.flds.length := List.length_pos_iff.2 hne
     obtain ⟨fs, fd, inf, rfl, hlen, -⟩ := hfl 0 (i.flds[0]).1 (i.flds[0]).2 (List.getElem?_eq_getElem hpos)
     refine ⟨fs, rfl, hlen, fun k hk => ?_⟩
     obtain ⟨fs', fd, inf, he, -, hf1, hf2, hf3, hf4, -⟩ := hfl k (i.flds[k]'(by omega)).1 (i.flds[k]'(by omega)).2 (List.getElem?_eq_getElem (by omega))
     cases he
     rw [Array.getElem?_eq_getElem hk] at hf1; cases hf1
     exact ⟨inf, hf3, by rw [List.getElem?_eq_getElem (by omega), hf2, hf4]⟩
    obtain ⟨fs, rfl, hlen, hall⟩ := hfs
    have hmap : (fs.mapM fun f => do pure (f.offset, ← sizeOf f.type) : Sem (Array (Nat × Nat))).run P w = .ok i.flds.toArray w := by
     have gen : ∀ (l : List Field) (fl : List (Nat × Nat)), l.length = fl.length → (∀ k (hk : k < l.length), ∃ inf, P.info? l[k].type = some inf ∧ fl[k]? = some (l[k].offset, inf.size)) →
       (l.mapM fun f => do pure (f.offset, ← sizeOf f.type) : Sem (List (Nat × Nat))).run P w = .ok fl w := by
      intro l
      induction l with
      | nil => intro fl hl _; have : fl = [] := List.length_eq_zero_iff.1 hl.symm; subst this; rfl
      | cons f r ih =>
       intro fl hl hk
       cases fl with
       | nil => simp at hl
       | cons p fl =>
        obtain ⟨inf, h1, h2⟩ := hk 0 (by simp)
        simp only [List.getElem_cons_zero,List.getElem?_cons_zero,Option.some.injEq] at h1 h2
        subst h2
        have := ih fl (by simpa using hl) fun k hkk => hk (k + 1) (Nat.succ_lt_succ hkk)
        simp only [List.mapM_cons,Sem.run_bind,run_sizeOfP h1,Result.andThen_ok,Sem.run_pure,this]
     have := gen fs.toList i.flds hlen fun k hk => hall k hk
     rw [Array.mapM_eq_mapM_toList]
     simp only [Sem.run_map,this,Result.andThen_ok]
    have hparts : (parts.map fun (i, x) => (i, a.eval x)).toList = parts.toList.map fun p => (p.1, a.eval p.2) := by simp
    refine ⟨.agg ys, ?_, .agg _ _ _ (by simpa using h2.1) fun i c x hc hx => h2.2 i c x hc (by simpa using hx)⟩
    unfold Instr.build
    have hzv : (zeroValue T).run P w = .ok z w := by simp [zeroValue, run_typeInfoP hi1, hz]
    simp only [Sem.run_bind,hzv,Result.andThen_ok,run_underlyingP hd,hmap,hparts]
    have hfill : (fun (k : Nat) => i.flds.toArray[k]?) = (fun (k : Nat) => i.flds[k]?) := by funext k; simp
    simp only [hfill,h1]
    simp
   ·cases h
  ·split at h
   ·rename_i l hl
    have hp := partVals_sound hs.eval hl
    unfold builtV at h
    split at h
    ·rename_i cs hcs
     cases h
     refine ⟨.agg cs, ?_, .agg _ _ _ (by simp) (rep_map_sc E cs)⟩
     have hparts : (parts.map fun (i, x) => (i, a.eval x)) = l.toArray := by rw [← hp]; apply Array.toList_inj.1; simp
     rw [hparts]
     exact scRunP_sound _ hcs w
    ·cases h
   ·cases h
 ·cases h
end Go.Eng
end
