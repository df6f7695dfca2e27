/-
  THE ENGINE, K: regions, code, functions.
-/
import Derived.Test.YtnboooapeopjoaaGreatDoorE1
import Derived.LoopNIn
import Derived.RangeFuncLeaves
import Derived.RangeFuncCalls
set_option linter.all false
section
namespace Go.Eng
variable [aA]
open Go.RowKit (Below)

def aF (P : Program) (f : FuncId) (args : List V) (mem : List aC) (r : V) (aQ : List aC) : Prop :=
 (∀ (xs : Array Value) (w : World), (callFunc f xs).run P w = .ok (.enter f xs) w) ∧
 ∀ (E : Env) (w : World) (xs : Array Value), bH E w { tmps := #[], defers := [] } { fr := [], mem := mem } → bo E args xs.toList →
  Calls P f xs w fun e w' => ∃ E' x, e = .returned x ∧ ec E w E' w' ∧ bH E' w' { tmps := #[], defers := [] } { fr := [], mem := aQ } ∧ bC E' r x

def cj (P : Program) (f : FuncId) (args : List V) (mem : List aC) (R : V → List aC → Prop) : Prop :=
 (∀ (xs : Array Value) (w : World), (callFunc f xs).run P w = .ok (.enter f xs) w) ∧
 ∀ (E : Env) (w : World) (xs : Array Value), bH E w { tmps := #[], defers := [] } { fr := [], mem := mem } → bo E args xs.toList →
  Calls P f xs w fun e w' => ∃ E' x r aQ, e = .returned x ∧ R r aQ ∧ ec E w E' w' ∧ bH E' w' { tmps := #[], defers := [] } { fr := [], mem := aQ } ∧ bC E' r x
theorem cj.YR {P : Program} {f : FuncId} {args : List V} {mem : List aC} {r : V} {aQ : List aC} (h : cj P f args mem fun r' m' => r' = r ∧ m' = aQ) : aF P f args mem r aQ :=
 ⟨h.1, fun E w xs hs hx => (h.2 E w xs hs hx).mono fun e w' ⟨E', x, r', m', h1, ⟨h2, h3⟩, h4, h5, h6⟩ => by subst h2; subst h3; exact ⟨E', x, h1, h4, h5, h6⟩⟩
theorem aF.rel {P : Program} {f : FuncId} {args : List V} {mem : List aC} {r : V} {aQ : List aC} (h : aF P f args mem r aQ) : cj P f args mem fun r' m' => r' = r ∧ m' = aQ :=
 ⟨h.1, fun E w xs hs hx => (h.2 E w xs hs hx).mono fun e w' ⟨E', x, h1, h4, h5, h6⟩ => ⟨E', x, _, _, h1, ⟨rfl, rfl⟩, h4, h5, h6⟩⟩
theorem cj.mono {P : Program} {f : FuncId} {args : List V} {mem : List aC} {R R' : V → List aC → Prop} (h : cj P f args mem R) (hR : ∀ r m, R r m → R' r m) : cj P f args mem R' :=
 ⟨h.1, fun E w xs hs hx => (h.2 E w xs hs hx).mono fun e w' ⟨E', x, r', m', h1, h2, h4⟩ => ⟨E', x, r', m', h1, hR _ _ h2, h4⟩⟩

theorem bH.bare {E : Env} {w : World} {a : Act} {st : St} (hs : bH E w a st) : bH E w { tmps := #[], defers := [] } { fr := [], mem := st.mem } :=
 ⟨hs.F, hs.lt, hs.mem, hs.top, hs.b7, hs.apart, .nil _⟩
theorem bH.zK {E E' : Env} {w w' : World} {a : Act} {st : St} {aQ : List aC} (hs : bH E w a st) (h : bH E' w' { tmps := #[], defers := [] } { fr := [], mem := aQ }) (hle : E.le E') : bH E' w' a { st with mem := aQ } :=
 ⟨h.F, h.lt, h.mem, h.top, h.b7, h.apart, hs.fr.mono hle⟩

def bD (fv : V) (args : List V) : Option (FuncId × List V) :=
 match fv with
 | .sc (.func (.func g) first cap) => some (g, first.toList.map V.sc ++ args ++ cap.toList.map V.sc)
 | .bp (.func g) first cap => some (g, first ++ args ++ cap)
 | _ => none

def m9 (P : Program) (f : FuncId) (vs : List V) (r : V) : Prop :=
 ∀ (E : Env) (w : World) (xs : Array Value), (∀ ad x, E.F ad = some x → w.cell? ad = some x) → bo E vs xs.toList → ∃ x, (callFunc f xs).run P w = .ok (.value x) w ∧ bC E r x
def Pn (P : Program) (f : FuncId) (vs : List V) : Option V :=
 match kY vs with
 | some l => match b8 P (callFunc f l.toArray) with | some (.value v) => some (gO v) | _ => none
 | none => none
theorem LP {P : Program} {f : FuncId} {vs : List V} {r : V} (h : Pn P f vs = some r) : m9 P f vs r := fun E w xs hF hx => by
 unfold Pn at h
 split at h
 ·rename_i l hl
  have := lU hx hl
  split at h
  ·rename_i v hv
   cases h
   exact ⟨v, dD _ (by rw [← this] at hv; simpa using hv) w, gC E v⟩
  ·cases h
 ·cases h

def sB (P : Program) (f : FuncId) (vs : List V) (st : St) (dst : Option Tmp) (Q : St → Prop) : Prop :=
 (∃ vs' r, dq st.mem vs = some vs' ∧ aT P f vs' r ∧ Q ({ st with mem := bx st.mem (vs.flatMap cL) r }.put dst r)) ∨
 (∃ r aQ, aF P f vs st.mem r aQ ∧ Q ({ st with mem := aQ }.put dst r)) ∨
 (∃ R, cj P f vs st.mem R ∧ ∀ r aQ, R r aQ → Q ({ st with mem := aQ }.put dst r)) ∨
 (∃ r, m9 P f vs r ∧ Q (st.put dst r))

def BW (P : Program) (k : Nat) (vs : List V) (mem : List aC) (b : Bool) (aQ : List aC) : Prop :=
 ∀ (E : Env) (w : World) (xs : Array Value) (l e c : Nat), bH E w { tmps := #[], defers := [] } { fr := [], mem := mem } → bo E vs xs.toList → E.bd k 0 = some (l, e, c) →
  ∃ fn tmps assign body, (Instr.yield l xs).run P w = .ok (.round l fn tmps assign body) w ∧ RoundIn Fence.wide 0 P l fn tmps assign body w fun e w' => ∃ E', e = .returned (.bool b) ∧ ec E w E' w' ∧
   bH E' w' { tmps := #[], defers := [] } { fr := [], mem := aQ }

def Fi (P : Program) (k : Nat) (vs : List V) (mem : List aC) (R : Bool → List aC → Prop) : Prop :=
 ∀ (E : Env) (w : World) (xs : Array Value) (l e c : Nat), bH E w { tmps := #[], defers := [] } { fr := [], mem := mem } → bo E vs xs.toList → E.bd k 0 = some (l, e, c) →
  ∃ fn tmps assign body, (Instr.yield l xs).run P w = .ok (.round l fn tmps assign body) w ∧ RoundIn Fence.wide 0 P l fn tmps assign body w fun e w' => ∃ E' b aQ, e = .returned (.bool b) ∧ R b aQ ∧ ec E w E' w' ∧
   bH E' w' { tmps := #[], defers := [] } { fr := [], mem := aQ }
theorem Fi.YR {P : Program} {k : Nat} {vs : List V} {mem aQ : List aC} {b : Bool} (h : Fi P k vs mem fun b' m' => b' = b ∧ m' = aQ) : BW P k vs mem b aQ := fun E w xs l e c hs hx hb => by
 obtain ⟨fn, tmps, assign, body, h1, h2⟩ := h E w xs l e c hs hx hb
 exact ⟨fn, tmps, assign, body, h1, h2.mono fun e w' ⟨E', b', m', h3, ⟨h4, h5⟩, h6, h7⟩ => by subst h4; subst h5; exact ⟨E', h3, h6, h7⟩⟩

def p9 (aJ : List (Nat × Nat)) (ev : Operand → V) : List (Nat × Operand) → List V → Option (List V)
 | [], cs => some cs
 | (i, x) :: r, cs => match aJ[i]? with
  | some p => match iB (ev x) with
   | some new => if new.length = p.2 ∧ p.1 + p.2 ≤ cs.length then p9 aJ ev r (gf cs p.1 new) else none
   | none => none
  | none => none
def jx (ev : Operand → V) : List (Nat × Operand) → Option (List (Nat × Value))
 | [] => some []
 | (i, x) :: r => match ev x with
  | .sc v => match jx ev r with | some l => some ((i, v) :: l) | none => none
  | _ => none
def Hv (P : Program) (T : TypeId) (l : List (Nat × Value)) : Option V := match b8 P (Instr.build T l.toArray) with
 | some (.agg cs) => some (.agg (cs.toList.map V.sc))
 | _ => none
def jG (P : Program) (tt : Table) (T : TypeId) (parts : List (Nat × Operand)) (ev : Operand → V) : Option V :=
 match tt T with
 | some i => if i.aJ ≠ [] then (match p9 i.aJ ev parts (i.zero.map V.sc) with | some cs => some (.agg cs) | none => none) else
  match jx ev parts with | some l => Hv P T l | none => none
 | none => none
theorem nc {E : Env} {st : St} {a : Act} (ea : ∀ x, bC E (st.eval x) (a.eval x)) : ∀ {ps : List (Nat × Operand)} {l : List (Nat × Value)}, jx st.eval ps = some l → (ps.map fun p => (p.1, a.eval p.2)) = l
 | [], l, h => by cases h; rfl
 | (i, x) :: r, l, h => by
  simp only [jx] at h
  split at h
  ·rename_i v hv
   split at h
   ·rename_i l' hl
    cases h
    have hx := ea x
    rw [hv] at hx
    have : a.eval x = v := by cases hx; rfl
    simp only [List.map_cons,this,nc ea hl]
   ·cases h
  ·cases h

def ng (tt : Table) (T : TypeId) : V → Option Nat
 | .slice rows => match eX tt T with | some _ => some rows.length | none => none
 | .ms _ _ _ l => match eX tt T with | some _ => some l | none => none
 | _ => none
def k7 (tt : Table) (op : BinOp) (T : TypeId) (x y : V) : Option Nat :=
 match op, y with
 | .eql, .sc (.slice none 0 0) => ng tt T x
 | .neq, .sc (.slice none 0 0) => ng tt T x
 | _, _ => none
def l0 (op : BinOp) (b : Bool) : Bool := match op with | .neq => !b | _ => b
theorem o7 {P : Program} {tt : Table} (ht : TT P tt) {T e : TypeId} (he : eX tt T = some e) (w : World) (xo yo : Operand) {op : BinOp} (jD : op = .eql ∨ op = .neq) (a : Option Addr) (l c : Nat) :
  (do eqGuard op T xo yo (.slice a l c) (.slice none 0 0); binOp op T (.slice a l c) (.slice none 0 0) : Sem Value).run P w = .ok (.bool (l0 op a.isNone)) w := by
 unfold eX at he
 split at he
 ·rename_i i hi
  obtain ⟨d, hd, -, xu, -⟩ := ht.desc T i hi
  obtain rfl := xu e he
  have heq : (Op.equal T (.slice a l c) (.slice none 0 0)).run P w = .ok a.isNone w := by
   show (Op.equalIn (9999 + 1) T (.slice a l c) (.slice none 0 0)).run P w = _
   rw [Op.equalIn]
   simp only [Sem.run_bind,aG hd,Result.andThen_ok]
   cases a <;> rfl
  have hg : (eqGuard op T xo yo (.slice a l c) (.slice none 0 0)).run P w = .ok () w := by rcases jD with rfl | rfl <;> rfl
  rw [Sem.run_bind, hg, Result.andThen_ok]
  rcases jD with rfl | rfl
  ·show (do pure (Value.bool (← Op.equal T (.slice a l c) (.slice none 0 0))) : Sem Value).run P w = _
   rw [Sem.run_bind, heq]; rfl
  ·show (do pure (Value.bool (!(← Op.equal T (.slice a l c) (.slice none 0 0)))) : Sem Value).run P w = _
   rw [Sem.run_bind, heq]; rfl
 ·cases he
theorem xT {P : Program} {tt : Table} (ht : TT P tt) {E : Env} {w : World} {T : TypeId} {op : BinOp} {vx vy : V} {x y : Value} (xo yo : Operand) (hx : bC E vx x) (hy : bC E vy y) {n : Nat} (h : k7 tt op T vx vy = some n) :
  ∃ b : Bool, (n ≠ 0 → b = false) ∧ (do eqGuard op T xo yo x y; binOp op T x y : Sem Value).run P w = .ok (.bool (l0 op b)) w := by
 have gen : (op = .eql ∨ op = .neq) → y = .slice none 0 0 → ng tt T vx = some n → ∃ b : Bool, (n ≠ 0 → b = false) ∧ (do eqGuard op T xo yo x y; binOp op T x y : Sem Value).run P w = .ok (.bool (l0 op b)) w := by
  intro jD hyy h
  subst hyy
  unfold ng at h
  split at h
  ·split at h
   ·rename_i e he
    cases h
    cases hx with
    | slice _ _ a cap oZ ad xf ha jU hs hF h1 h2 =>
     refine ⟨a.isNone, fun hn => ?_, o7 ht he w xo yo jD _ _ _⟩
     rw [ha (fun e => hn (by rw [e]; rfl))]; rfl
   ·cases h
  ·split at h
   ·rename_i e he
    cases h
    cases hx with
    | ms _ b v s l g e c a cap hb hl h0 hc =>
     refine ⟨a.isNone, fun hn => ?_, o7 ht he w xo yo jD _ _ _⟩
     rw [hl (by omega)]; rfl
    | eN => exact ⟨true, fun hn => absurd rfl hn, o7 ht he w xo yo jD _ _ _⟩
   ·cases h
  ·cases h
 unfold k7 at h
 split at h
 ·exact gen (.inl rfl) (dk hy) h
 ·exact gen (.inr rfl) (dk hy) h
 ·cases h

def YS (mem : List aC) (ev : Operand → V) (x : Operand) : V := match e8 mem (ev x) with | some v => v | none => ev x
def xU (ev : Operand → V) (parts : List (Nat × Operand)) : List (Nat × Nat) := (parts.map fun p => ev p.2).flatMap cL
def LQ (tt : Table) (T : TypeId) (len : Nat) (parts : List (Nat × Operand)) (st : St) : Option (Nat × List V) :=
 match dq st.mem (parts.map fun p => st.eval p.2) with
 | some _ => rE tt T len parts (YS st.mem st.eval)
 | none => none
def xV (tt : Table) (mem : List aC) (T : TypeId) (p v : V) : Option (List aC) :=
 match e8 mem v with
 | some v' => jF tt (aR mem (cL v)) T p v'
 | none => none
def sC (tt : Table) (st : St) (ts : List TypeId) (s x : V) (dst : Option Tmp) (Q : St → Prop) : Prop :=
 match kJ tt st.mem ts s x with
 | some (size, b, v, l, rs, xs) => ∀ (o : Nat) (jw : List V), jw.drop o = rs ++ xs → o + (l + xs.length) = jw.length → Q ({ st with mem := st.mem.set b (.rows (v + 1) size jw) }.put dst (.ms b (v + 1) o (l + xs.length)))
 | none => False
def bP (P : Program) (tt : Table) (key : Nat) (o : Oper) (st : St) (Q : St → Prop) : Prop :=
 match o.op with
 | .alloc T => match tt T with
  | some i => Q ({ st with mem := bO st.mem key (.box (i.zero.map V.sc)) }.put o.dst (.ptr key 0))
  | none => False
 | .box _ x => match iB (st.eval x) with
  | some cs => Q ({ st with mem := bO st.mem key (.box cs) }.put o.dst (.ptr key 0))
  | none => False
 | .build T parts => match jG P tt T parts.toList st.eval with
  | some v => Q (st.put o.dst v)
  | none => False
 | .buildSlice T len parts => match rE tt T len parts.toList st.eval with
  | some (size, rs) => Q ({ st with mem := bO st.mem key (.rows 0 size rs) }.put o.dst (.ms key 0 0 len))
  | none => match LQ tt T len parts.toList st with
   | some (size, rs) => Q ({ st with mem := bO (aR st.mem (xU st.eval parts.toList)) key (.rows 0 size rs) }.put o.dst (.ms key 0 0 len))
   | none => False
 | .store T p x => match jF tt st.mem T (st.eval p) (st.eval x) with
  | some aQ => Q ({ st with mem := aQ }.put o.dst (.sc undef))
  | none => match xV tt st.mem T (st.eval p) (st.eval x) with
   | some aQ => Q ({ st with mem := aQ }.put o.dst (.sc undef))
   | none => False
 | .call { callee := .builtin .append, args := xs, argTypes := ts } => match xs.toList.map st.eval with
  | [s, x] => match eK tt st.mem ts.toList s x with
   | some (size, o4, rows) => Q ({ st with mem := (dt st.mem key size rows o4).1 }.put o.dst (dt st.mem key size rows o4).2)
   | none => sC tt st ts.toList s x o.dst Q
  | _ => False
 | .call { callee := .value f, args := xs, .. } => match st.eval f with
  | .fP k => (∃ b aQ, BW P k (xs.toList.map st.eval) st.mem b aQ ∧ Q ({ st with mem := aQ }.put o.dst (.sc (.bool b)))) ∨
    (∃ R, Fi P k (xs.toList.map st.eval) st.mem R ∧ ∀ b aQ, R b aQ → Q ({ st with mem := aQ }.put o.dst (.sc (.bool b))))
  | fv => match bD fv (xs.toList.map st.eval) with
   | some (g, vs) => sB P g vs st o.dst Q
   | none => False
 | .makeSlice T l c => match sy tt T (st.eval l) (st.eval c) with
  | some (size, rs, _) => Q ({ st with mem := bO st.mem key (.rows 0 size rs) }.put o.dst (.ms key 0 0 rs.length))
  | none => False
 | .makeMap _ none => Q ({ st with mem := bO st.mem key (.map [] 0) }.put o.dst (.mp key))
 | .mapUpdate T m k x => match bX P st.mem T (st.eval m) (st.eval k) (st.eval x) with
  | some aQ => Q ({ st with mem := aQ }.put o.dst (.sc undef))
  | none => False
 | .insert T m k x => match bX P st.mem T (st.eval m) (st.eval k) (st.eval x) with
  | some aQ => Q ({ st with mem := aQ }.put o.dst (.sc undef))
  | none => False
 | .mapEntry T m k => match rF P st.mem T (st.eval m) (st.eval k) with
  | some (aQ, v) => Q ({ st with mem := aQ }.put o.dst v)
  | none => False
 | .entryStore _ m s x => match rG st.mem (st.eval m) (st.eval s) (st.eval x) with
  | some aQ => Q ({ st with mem := aQ }.put o.dst (.sc undef))
  | none => False
 | .call { callee := .builtin .delete, args := xs, argTypes := ts } => match n6 P st.mem ts (xs.toList.map st.eval) with
  | some aQ => Q ({ st with mem := aQ }.put o.dst (.sc (.tuple #[])))
  | none => False
 | .range T x => match lB P st.mem T (st.eval x) with
  | some B => Q ({ st with mem := bO st.mem key B }.put o.dst (.ptr key 0))
  | none => False
 | .next it str => p8 st o.dst (st.eval it) str Q
 | .binOp op T x y _ => match k7 tt op T (st.eval x) (st.eval y) with
  | some n => ∀ b : Bool, (n ≠ 0 → b = false) → Q (st.put o.dst (.sc (.bool (l0 op b))))
  | none => match iJ P tt st o with
   | some v => Q (st.put o.dst v)
   | none => False
 | _ => match iJ P tt st o with
  | some v => Q (st.put o.dst v)
  | none => False

theorem uh {P : Program} {E : Env} {w : World} {fv : V} {fx : Value} {args : List V} {xs : Array Value} {g : FuncId} {vs : List V} (hf : bC E fv fx) (ha : bo E args xs.toList) (h : bD fv args = some (g, vs)) :
  ∃ d, ∃ ys : Array Value, bo E vs ys.toList ∧ (Deferred.ofValue fx xs).run P w = .ok d w ∧ (invoke d.target d.args).run P w = (callFunc g ys).run P w := by
 unfold bD at h
 split at h
 ·simp only [Option.some.injEq,Prod.mk.injEq] at h
  obtain ⟨rfl, rfl⟩ := h
  obtain rfl := dk hf
  rename_i g first cap
  have Co : ∀ zs : Array Value, bo E (zs.toList.map V.sc) zs.toList := fun zs => ⟨by simp, fun i c x hc hx => j6 E zs i c x hc (by simpa using hx)⟩
  exact ⟨{ target := .fn (.func g) cap, args := first ++ xs }, first ++ xs ++ cap, by simp only [Array.toList_append]; exact ((Co first).append ha).append (Co cap), rfl, by simp [invoke]⟩
 ·simp only [Option.some.injEq,Prod.mk.injEq] at h
  obtain ⟨rfl, rfl⟩ := h
  rename_i g _ _
  cases hf with
  | bp _ _ first cap ys zs h1 h2 h3 h4 =>
   refine ⟨{ target := .fn (.func g) zs, args := ys ++ xs }, ys ++ xs ++ zs, ?_, rfl, by simp [invoke]⟩
   simp only [Array.toList_append]
   exact (bo.append (bo.append ⟨by simpa using h1, fun i c x hc hx => h3 i c x hc (by simpa using hx)⟩ ha) ⟨by simpa using h2, fun i c x hc hx => h4 i c x hc (by simpa using hx)⟩)
 ·cases h

theorem nh {P : Program} {E : Env} {w : World} {fv : V} {fx : Value} {args : List V} {xs : Array Value} {g : FuncId} {vs : List V} (hf : bC E fv fx) (ha : bo E args xs.toList) (h : bD fv args = some (g, vs)) :
  ∃ ys : Array Value, bo E vs ys.toList ∧ (do let d ← Deferred.ofValue fx xs; invoke d.target d.args : Sem Next).run P w = (callFunc g ys).run P w := by
 unfold bD at h
 split at h
 ·simp only [Option.some.injEq,Prod.mk.injEq] at h
  obtain ⟨rfl, rfl⟩ := h
  obtain rfl := dk hf
  rename_i first cap
  have Co : ∀ zs : Array Value, bo E (zs.toList.map V.sc) zs.toList := fun zs => ⟨by simp, fun i c x hc hx => j6 E zs i c x hc (by simpa using hx)⟩
  refine ⟨first ++ xs ++ cap, by simp only [Array.toList_append]; exact ((Co first).append ha).append (Co cap), ?_⟩
  simp [Deferred.ofValue, invoke]
 ·simp only [Option.some.injEq,Prod.mk.injEq] at h
  obtain ⟨rfl, rfl⟩ := h
  cases hf with
  | bp _ _ first cap ys zs h1 h2 h3 h4 =>
   refine ⟨ys ++ xs ++ zs, ?_, ?_⟩
   ·simp only [Array.toList_append]
    exact (bo.append (bo.append ⟨by simpa using h1, fun i c x hc hx => h3 i c x hc (by simpa using hx)⟩ ha) ⟨by simpa using h2, fun i c x hc hx => h4 i c x hc (by simpa using hx)⟩)
   ·simp [Deferred.ofValue, invoke]
 ·cases h

theorem zL {P : Program} {tt : Table} {E : Env} {aJ : List (Nat × Nat)} {ev : Operand → V} {av : Operand → Value} (jX : ∀ o, bC E (ev o) (av o)) : ∀ (parts : List (Nat × Operand)) (cs : List V) (xs : Array Value) (out : List V),
  bo E cs xs.toList → p9 aJ ev parts cs = some out → ∃ ys, Instr.fill (aJ[·]?) xs (parts.map fun p => (p.1, av p.2)) = some ys ∧ bo E out ys.toList := by
 intro parts
 induction parts with
 | nil => intro cs xs out hr h; simp only [p9,Option.some.injEq] at h; subst h; exact ⟨xs, rfl, hr⟩
 | cons p r ih =>
  intro cs xs out hr h
  obtain ⟨i, x⟩ := p
  simp only [p9] at h
  split at h
  ·rename_i p hp
   split at h
   ·rename_i new kZ
    split at h
    ·rename_i hc
     obtain ⟨h1, h2⟩ := lX (jX x) kZ
     have ka : (av x).cells.size = p.2 := by have := h1.1; simp at this; omega
     have rq : xs.size = cs.length := by have := hr.1; simp at this; omega
     obtain ⟨ys, h3, h4⟩ := ih _ _ out (sr new _ cs xs p.1 h1 hr) h
     refine ⟨ys, ?_, h4⟩
     simp only [List.map_cons,Instr.fill,hp,ka]
     rw [if_neg (by simp; omega), ← h3]
     congr 1
     rw [← Array.foldl_toList, Array.toList_zipIdx]
     exact su p.1 (av x).cells.toList 0 xs
    ·cases h
   ·cases h
  ·cases h

theorem qa {P : Program} {tt : Table} (ht : TT P tt) {E : Env} {w : World} {a : Act} {st : St} (hs : bH E w a st) {T : TypeId} {parts : Array (Nat × Operand)} {v : V} (h : jG P tt T parts.toList st.eval = some v) :
  ∃ x, (Instr.build T (parts.map fun (i, x) => (i, a.eval x))).run P w = .ok x w ∧ bC E v x := by
 unfold jG at h
 split at h
 ·rename_i i hi
  split at h
  ·rename_i ch
   split at h
   ·rename_i cs xp
    simp only [Option.some.injEq] at h; subst h
    obtain ⟨info, vW, -, -, z, hz, zq⟩ := ht.size T i hi
    obtain ⟨d, hd, -, -, R5⟩ := ht.desc T i hi
    obtain ⟨ys, h1, h2⟩ := zL (P := P) (tt := tt) hs.eval parts.toList _ z.cells cs (by rw [zq]; exact ⟨by simp, fun i c x hc hx => by
     simp only [List.getElem?_map,hx,Option.map_some,Option.some.injEq] at hc; subst hc; exact .sc _ _⟩) xp
    have hfs : ∃ fs, d = .struct fs ∧ fs.size = i.aJ.length ∧ ∀ k (hk : k < fs.size), ∃ inf, P.info? fs[k].type = some inf ∧ i.aJ[k]? = some (fs[k].offset, inf.size) := by
     have tU : 0 < i.aJ.length := List.length_pos_iff.2 ch
     obtain ⟨fs, fd, inf, rfl, hlen, -⟩ := R5 0 (i.aJ[0]).1 (i.aJ[0]).2 (List.getElem?_eq_getElem tU)
     refine ⟨fs, rfl, hlen, fun k hk => ?_⟩
     obtain ⟨fs', fd, inf, he, -, S4, XV, YT, hf4, -⟩ := R5 k (i.aJ[k]'(by omega)).1 (i.aJ[k]'(by omega)).2 (List.getElem?_eq_getElem (by omega))
     cases he
     rw [Array.getElem?_eq_getElem hk] at S4; cases S4
     exact ⟨inf, YT, by rw [List.getElem?_eq_getElem (by omega), XV, hf4]⟩
    obtain ⟨fs, rfl, hlen, cK⟩ := hfs
    have Co : (fs.mapM fun f => do pure (f.offset, ← sizeOf f.type) : Sem (Array (Nat × Nat))).run P w = .ok i.aJ.toArray w := by
     have gen : ∀ (l : List Field) (fl : List (Nat × Nat)), l.length = fl.length → (∀ k (hk : k < l.length), ∃ inf, P.info? l[k].type = some inf ∧ fl[k]? = some (l[k].offset, inf.size)) →
       (l.mapM fun f => do pure (f.offset, ← sizeOf f.type) : Sem (List (Nat × Nat))).run P w = .ok fl w := by
      intro l
      induction l with
      | nil => intro fl hl _; have : fl = [] := List.length_eq_zero_iff.1 hl.symm; subst this; rfl
      | cons f r ih =>
       intro fl hl hk
       cases fl with
       | nil => simp at hl
       | cons p fl =>
        obtain ⟨inf, h1, h2⟩ := hk 0 (by simp)
        simp only [List.getElem_cons_zero,List.getElem?_cons_zero,Option.some.injEq] at h1 h2
        subst h2
        have := ih fl (by simpa using hl) fun k c6 => hk (k + 1) (Nat.succ_lt_succ c6)
        simp only [List.mapM_cons,Sem.run_bind,ee h1,Result.andThen_ok,Sem.run_pure,this]
     have := gen fs.toList i.aJ hlen fun k hk => cK k hk
     rw [Array.mapM_eq_mapM_toList]
     simp only [Sem.run_map,this,Result.andThen_ok]
    have o3 : (parts.map fun (i, x) => (i, a.eval x)).toList = parts.toList.map fun p => (p.1, a.eval p.2) := by simp
    refine ⟨.agg ys, ?_, .agg _ _ _ (by simpa using h2.1) fun i c x hc hx => h2.2 i c x hc (by simpa using hx)⟩
    unfold Instr.build
    have S0 : (zeroValue T).run P w = .ok z w := by simp [zeroValue, dK vW, hz]
    simp only [Sem.run_bind,S0,Result.andThen_ok,aG hd,Co,o3]
    have S5 : (fun (k : Nat) => i.aJ.toArray[k]?) = (fun (k : Nat) => i.aJ[k]?) := by funext k; simp
    simp only [S5,h1]
    simp
   ·cases h
  ·split at h
   ·rename_i l hl
    have hp := nc hs.eval hl
    unfold Hv at h
    split at h
    ·rename_i cs xp
     cases h
     refine ⟨.agg cs, ?_, .agg _ _ _ (by simp) (j6 E cs)⟩
     have o3 : (parts.map fun (i, x) => (i, a.eval x)) = l.toArray := by rw [← hp]; apply Array.toList_inj.1; simp
     rw [o3]
     exact dD _ xp w
    ·cases h
   ·cases h
 ·cases h
end Go.Eng
end
