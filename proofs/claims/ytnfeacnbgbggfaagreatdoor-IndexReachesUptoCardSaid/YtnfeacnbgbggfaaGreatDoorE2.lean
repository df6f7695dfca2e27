/-
  THE ENGINE, K: regions, code, functions.
-/
import Derived.Test.YtnfeacnbgbggfaaGreatDoorE1
import Derived.LoopNIn
import Derived.RangeFuncLeaves
import Derived.RangeFuncCalls
set_option linter.all false
section
namespace Go.Eng
variable [aE]
open Go.RowKit (Below)

def aT (P : Program) (f : FuncId) (args : List V) (mem : List aw) (r : V) (aD : List aw) : Prop :=
 (∀ (xs : Array Value) (w : World), (callFunc f xs).run P w = .ok (.enter f xs) w) ∧
 ∀ (E : Env) (w : World) (xs : Array Value), aZ E w { tmps := #[], defers := [] } { fr := [], mem := mem } → aP E args xs.toList →
  Calls P f xs w fun e w' => ∃ E' x, e = .returned x ∧ dn E w E' w' ∧ aZ E' w' { tmps := #[], defers := [] } { fr := [], mem := aD } ∧ aW E' r x

def gA (P : Program) (f : FuncId) (args : List V) (mem : List aw) (R : V → List aw → Prop) : Prop :=
 (∀ (xs : Array Value) (w : World), (callFunc f xs).run P w = .ok (.enter f xs) w) ∧
 ∀ (E : Env) (w : World) (xs : Array Value), aZ E w { tmps := #[], defers := [] } { fr := [], mem := mem } → aP E args xs.toList →
  Calls P f xs w fun e w' => ∃ E' x r aD, e = .returned x ∧ R r aD ∧ dn E w E' w' ∧ aZ E' w' { tmps := #[], defers := [] } { fr := [], mem := aD } ∧ aW E' r x
theorem gA.W4 {P : Program} {f : FuncId} {args : List V} {mem : List aw} {r : V} {aD : List aw} (h : gA P f args mem fun r' m' => r' = r ∧ m' = aD) : aT P f args mem r aD :=
 ⟨h.1, fun E w xs hs hx => (h.2 E w xs hs hx).mono fun e w' ⟨E', x, r', m', h1, ⟨h2, h3⟩, h4, h5, h6⟩ => by subst h2; subst h3; exact ⟨E', x, h1, h4, h5, h6⟩⟩
theorem aT.rel {P : Program} {f : FuncId} {args : List V} {mem : List aw} {r : V} {aD : List aw} (h : aT P f args mem r aD) : gA P f args mem fun r' m' => r' = r ∧ m' = aD :=
 ⟨h.1, fun E w xs hs hx => (h.2 E w xs hs hx).mono fun e w' ⟨E', x, h1, h4, h5, h6⟩ => ⟨E', x, _, _, h1, ⟨rfl, rfl⟩, h4, h5, h6⟩⟩
theorem gA.mono {P : Program} {f : FuncId} {args : List V} {mem : List aw} {R R' : V → List aw → Prop} (h : gA P f args mem R) (hR : ∀ r m, R r m → R' r m) : gA P f args mem R' :=
 ⟨h.1, fun E w xs hs hx => (h.2 E w xs hs hx).mono fun e w' ⟨E', x, r', m', h1, h2, h4⟩ => ⟨E', x, r', m', h1, hR _ _ h2, h4⟩⟩

theorem aZ.bare {E : Env} {w : World} {a : Act} {st : St} (hs : aZ E w a st) : aZ E w { tmps := #[], defers := [] } { fr := [], mem := st.mem } :=
 ⟨hs.F, hs.lt, hs.mem, hs.top, hs.aA, hs.apart, .nil _⟩
theorem aZ.xD {E E' : Env} {w w' : World} {a : Act} {st : St} {aD : List aw} (hs : aZ E w a st) (h : aZ E' w' { tmps := #[], defers := [] } { fr := [], mem := aD }) (hle : E.le E') : aZ E' w' a { st with mem := aD } :=
 ⟨h.F, h.lt, h.mem, h.top, h.aA, h.apart, hs.fr.mono hle⟩

def bf (fv : V) (args : List V) : Option (FuncId × List V) :=
 match fv with
 | .sc (.func (.func g) first cap) => some (g, first.toList.map V.sc ++ args ++ cap.toList.map V.sc)
 | .fM (.func g) first cap => some (g, first ++ args ++ cap)
 | _ => none

def r6 (P : Program) (f : FuncId) (vs : List V) (r : V) : Prop :=
 ∀ (E : Env) (w : World) (xs : Array Value), (∀ ad x, E.F ad = some x → w.cell? ad = some x) → aP E vs xs.toList → ∃ x, (callFunc f xs).run P w = .ok (.value x) w ∧ aW E r x
def M7 (P : Program) (f : FuncId) (vs : List V) : Option V :=
 match iZ vs with
 | some l => match aF P (callFunc f l.toArray) with | some (.value v) => some (dF v) | _ => none
 | none => none
theorem Jd {P : Program} {f : FuncId} {vs : List V} {r : V} (h : M7 P f vs = some r) : r6 P f vs r := fun E w xs hF hx => by
 unfold M7 at h
 split at h
 ·rename_i l hl
  have := mY hx hl
  split at h
  ·rename_i v hv
   cases h
   exact ⟨v, cA _ (by rw [← this] at hv; simpa using hv) w, ft E v⟩
  ·cases h
 ·cases h

def uq (P : Program) (f : FuncId) (vs : List V) (st : St) (dst : Option Tmp) (Q : St → Prop) : Prop :=
 (∃ vs' r, cy st.mem vs = some vs' ∧ aQ P f vs' r ∧ Q ({ st with mem := cK st.mem (vs.flatMap cp) r }.put dst r)) ∨
 (∃ r aD, aT P f vs st.mem r aD ∧ Q ({ st with mem := aD }.put dst r)) ∨
 (∃ R, gA P f vs st.mem R ∧ ∀ r aD, R r aD → Q ({ st with mem := aD }.put dst r)) ∨
 (∃ r, r6 P f vs r ∧ Q (st.put dst r))

def Qb (P : Program) (k : Nat) (vs : List V) (mem : List aw) (b : Bool) (aD : List aw) : Prop :=
 ∀ (E : Env) (w : World) (xs : Array Value) (l e c : Nat), aZ E w { tmps := #[], defers := [] } { fr := [], mem := mem } → aP E vs xs.toList → E.aK k 0 = some (l, e, c) →
  ∃ fn tmps assign body, (Instr.yield l xs).run P w = .ok (.round l fn tmps assign body) w ∧ RoundIn Fence.wide 0 P l fn tmps assign body w fun e w' => ∃ E', e = .returned (.bool b) ∧ dn E w E' w' ∧
   aZ E' w' { tmps := #[], defers := [] } { fr := [], mem := aD }

def Dx (P : Program) (k : Nat) (vs : List V) (mem : List aw) (R : Bool → List aw → Prop) : Prop :=
 ∀ (E : Env) (w : World) (xs : Array Value) (l e c : Nat), aZ E w { tmps := #[], defers := [] } { fr := [], mem := mem } → aP E vs xs.toList → E.aK k 0 = some (l, e, c) →
  ∃ fn tmps assign body, (Instr.yield l xs).run P w = .ok (.round l fn tmps assign body) w ∧ RoundIn Fence.wide 0 P l fn tmps assign body w fun e w' => ∃ E' b aD, e = .returned (.bool b) ∧ R b aD ∧ dn E w E' w' ∧
   aZ E' w' { tmps := #[], defers := [] } { fr := [], mem := aD }
theorem Dx.W4 {P : Program} {k : Nat} {vs : List V} {mem aD : List aw} {b : Bool} (h : Dx P k vs mem fun b' m' => b' = b ∧ m' = aD) : Qb P k vs mem b aD := fun E w xs l e c hs hx hb => by
 obtain ⟨fn, tmps, assign, body, h1, h2⟩ := h E w xs l e c hs hx hb
 exact ⟨fn, tmps, assign, body, h1, h2.mono fun e w' ⟨E', b', m', h3, ⟨h4, h5⟩, h6, h7⟩ => by subst h4; subst h5; exact ⟨E', h3, h6, h7⟩⟩

def oh (br : List (Nat × Nat)) (ev : Operand → V) : List (Nat × Operand) → List V → Option (List V)
 | [], cs => some cs
 | (i, x) :: r, cs => match br[i]? with
  | some p => match fy (ev x) with
   | some new => if new.length = p.2 ∧ p.1 + p.2 ≤ cs.length then oh br ev r (b8 cs p.1 new) else none
   | none => none
  | none => none
def gC (ev : Operand → V) : List (Nat × Operand) → Option (List (Nat × Value))
 | [] => some []
 | (i, x) :: r => match ev x with
  | .sc v => match gC ev r with | some l => some ((i, v) :: l) | none => none
  | _ => none
def zT (P : Program) (T : TypeId) (l : List (Nat × Value)) : Option V := match aF P (Instr.build T l.toArray) with
 | some (.agg cs) => some (.agg (cs.toList.map V.sc))
 | _ => none
def gG (P : Program) (tt : Table) (T : TypeId) (parts : List (Nat × Operand)) (ev : Operand → V) : Option V :=
 match tt T with
 | some i => if i.br ≠ [] then (match oh i.br ev parts (i.zero.map V.sc) with | some cs => some (.agg cs) | none => none) else
  match gC ev parts with | some l => zT P T l | none => none
 | none => none
theorem k9 {E : Env} {st : St} {a : Act} (dq : ∀ x, aW E (st.eval x) (a.eval x)) : ∀ {ps : List (Nat × Operand)} {l : List (Nat × Value)}, gC st.eval ps = some l → (ps.map fun p => (p.1, a.eval p.2)) = l
 | [], l, h => by cases h; rfl
 | (i, x) :: r, l, h => by
  simp only [gC] at h
  split at h
  ·rename_i v hv
   split at h
   ·rename_i l' hl
    cases h
    have hx := dq x
    rw [hv] at hx
    have : a.eval x = v := by cases hx; rfl
    simp only [List.map_cons,this,k9 dq hl]
   ·cases h
  ·cases h

def la (tt : Table) (T : TypeId) : V → Option Nat
 | .slice rows => match dw tt T with | some _ => some rows.length | none => none
 | .ms _ _ _ l => match dw tt T with | some _ => some l | none => none
 | _ => none
def je (tt : Table) (op : BinOp) (T : TypeId) (x y : V) : Option Nat :=
 match op, y with
 | .eql, .sc (.slice none 0 0) => la tt T x
 | .neq, .sc (.slice none 0 0) => la tt T x
 | _, _ => none
def jW (op : BinOp) (b : Bool) : Bool := match op with | .neq => !b | _ => b
theorem nc {P : Program} {tt : Table} (ht : TT P tt) {T e : TypeId} (he : dw tt T = some e) (w : World) (xo yo : Operand) {op : BinOp} (jN : op = .eql ∨ op = .neq) (a : Option Addr) (l c : Nat) :
  (do eqGuard op T xo yo (.slice a l c) (.slice none 0 0); binOp op T (.slice a l c) (.slice none 0 0) : Sem Value).run P w = .ok (.bool (jW op a.isNone)) w := by
 unfold dw at he
 split at he
 ·rename_i i hi
  obtain ⟨d, hd, -, kS, -⟩ := ht.desc T i hi
  obtain rfl := kS e he
  have heq : (Op.equal T (.slice a l c) (.slice none 0 0)).run P w = .ok a.isNone w := by
   show (Op.equalIn (9999 + 1) T (.slice a l c) (.slice none 0 0)).run P w = _
   rw [Op.equalIn]
   simp only [Sem.run_bind,ao hd,Result.andThen_ok]
   cases a <;> rfl
  have hg : (eqGuard op T xo yo (.slice a l c) (.slice none 0 0)).run P w = .ok () w := by rcases jN with rfl | rfl <;> rfl
  rw [Sem.run_bind, hg, Result.andThen_ok]
  rcases jN with rfl | rfl
  ·show (do pure (Value.bool (← Op.equal T (.slice a l c) (.slice none 0 0))) : Sem Value).run P w = _
   rw [Sem.run_bind, heq]; rfl
  ·show (do pure (Value.bool (!(← Op.equal T (.slice a l c) (.slice none 0 0)))) : Sem Value).run P w = _
   rw [Sem.run_bind, heq]; rfl
 ·cases he
theorem vG {P : Program} {tt : Table} (ht : TT P tt) {E : Env} {w : World} {T : TypeId} {op : BinOp} {vx vy : V} {x y : Value} (xo yo : Operand) (hx : aW E vx x) (hy : aW E vy y) {n : Nat} (h : je tt op T vx vy = some n) :
  ∃ b : Bool, (n ≠ 0 → b = false) ∧ (do eqGuard op T xo yo x y; binOp op T x y : Sem Value).run P w = .ok (.bool (jW op b)) w := by
 have gen : (op = .eql ∨ op = .neq) → y = .slice none 0 0 → la tt T vx = some n → ∃ b : Bool, (n ≠ 0 → b = false) ∧ (do eqGuard op T xo yo x y; binOp op T x y : Sem Value).run P w = .ok (.bool (jW op b)) w := by
  intro jN Yj h
  subst Yj
  unfold la at h
  split at h
  ·split at h
   ·rename_i e he
    cases h
    cases hx with
    | slice _ _ a cap mW ad xf ha gQ hs hF h1 h2 =>
     refine ⟨a.isNone, fun hn => ?_, nc ht he w xo yo jN _ _ _⟩
     rw [ha (fun e => hn (by rw [e]; rfl))]; rfl
   ·cases h
  ·split at h
   ·rename_i e he
    cases h
    cases hx with
    | ms _ b v s l g e c a cap hb hl h0 hc =>
     refine ⟨a.isNone, fun hn => ?_, nc ht he w xo yo jN _ _ _⟩
     rw [hl (by omega)]; rfl
    | dc => exact ⟨true, fun hn => absurd rfl hn, nc ht he w xo yo jN _ _ _⟩
   ·cases h
  ·cases h
 unfold je at h
 split at h
 ·exact gen (.inl rfl) (bZ hy) h
 ·exact gen (.inr rfl) (bZ hy) h
 ·cases h

def BW (mem : List aw) (ev : Operand → V) (x : Operand) : V := match fi mem (ev x) with | some v => v | none => ev x
def fa (ev : Operand → V) (parts : List (Nat × Operand)) : List (Nat × Nat) := (parts.map fun p => ev p.2).flatMap cp
def nd (tt : Table) (T : TypeId) (len : Nat) (parts : List (Nat × Operand)) (st : St) : Option (Nat × List V) :=
 match cy st.mem (parts.map fun p => st.eval p.2) with
 | some _ => o6 tt T len parts (BW st.mem st.eval)
 | none => none
def vH (tt : Table) (mem : List aw) (T : TypeId) (p v : V) : Option (List aw) :=
 match fi mem v with
 | some v' => gF tt (bT mem (cp v)) T p v'
 | none => none
def qj (tt : Table) (st : St) (ts : List TypeId) (s x : V) (dst : Option Tmp) (Q : St → Prop) : Prop :=
 match iP tt st.mem ts s x with
 | some (size, b, v, l, rs, xs) => ∀ (o : Nat) (rs' : List V), rs'.drop o = rs ++ xs → o + (l + xs.length) = rs'.length → Q ({ st with mem := st.mem.set b (.rows (v + 1) size rs') }.put dst (.ms b (v + 1) o (l + xs.length)))
 | none => False
def bD (P : Program) (tt : Table) (key : Nat) (o : Oper) (st : St) (Q : St → Prop) : Prop :=
 match o.op with
 | .alloc T => match tt T with
  | some i => Q ({ st with mem := bc st.mem key (.box (i.zero.map V.sc)) }.put o.dst (.ptr key 0))
  | none => False
 | .box _ x => match fy (st.eval x) with
  | some cs => Q ({ st with mem := bc st.mem key (.box cs) }.put o.dst (.ptr key 0))
  | none => False
 | .build T parts => match gG P tt T parts.toList st.eval with
  | some v => Q (st.put o.dst v)
  | none => False
 | .buildSlice T len parts => match o6 tt T len parts.toList st.eval with
  | some (size, rs) => Q ({ st with mem := bc st.mem key (.rows 0 size rs) }.put o.dst (.ms key 0 0 len))
  | none => match nd tt T len parts.toList st with
   | some (size, rs) => Q ({ st with mem := bc (bT st.mem (fa st.eval parts.toList)) key (.rows 0 size rs) }.put o.dst (.ms key 0 0 len))
   | none => False
 | .store T p x => match gF tt st.mem T (st.eval p) (st.eval x) with
  | some aD => Q ({ st with mem := aD }.put o.dst (.sc undef))
  | none => match vH tt st.mem T (st.eval p) (st.eval x) with
   | some aD => Q ({ st with mem := aD }.put o.dst (.sc undef))
   | none => False
 | .call { callee := .builtin .append, args := xs, argTypes := ts } => match xs.toList.map st.eval with
  | [s, x] => match dr tt st.mem ts.toList s x with
   | some (size, nR, rows) => Q ({ st with mem := (cu st.mem key size rows nR).1 }.put o.dst (cu st.mem key size rows nR).2)
   | none => qj tt st ts.toList s x o.dst Q
  | _ => False
 | .call { callee := .value f, args := xs, .. } => match st.eval f with
  | .gY k => (∃ b aD, Qb P k (xs.toList.map st.eval) st.mem b aD ∧ Q ({ st with mem := aD }.put o.dst (.sc (.bool b)))) ∨
    (∃ R, Dx P k (xs.toList.map st.eval) st.mem R ∧ ∀ b aD, R b aD → Q ({ st with mem := aD }.put o.dst (.sc (.bool b))))
  | fv => match bf fv (xs.toList.map st.eval) with
   | some (g, vs) => uq P g vs st o.dst Q
   | none => False
 | .makeSlice T l c => match mO tt T (st.eval l) (st.eval c) with
  | some (size, rs, _) => Q ({ st with mem := bc st.mem key (.rows 0 size rs) }.put o.dst (.ms key 0 0 rs.length))
  | none => False
 | .makeMap _ none => Q ({ st with mem := bc st.mem key (.map [] 0) }.put o.dst (.mp key))
 | .mapUpdate T m k x => match cn P st.mem T (st.eval m) (st.eval k) (st.eval x) with
  | some aD => Q ({ st with mem := aD }.put o.dst (.sc undef))
  | none => False
 | .insert T m k x => match cn P st.mem T (st.eval m) (st.eval k) (st.eval x) with
  | some aD => Q ({ st with mem := aD }.put o.dst (.sc undef))
  | none => False
 | .mapEntry T m k => match o7 P st.mem T (st.eval m) (st.eval k) with
  | some (aD, v) => Q ({ st with mem := aD }.put o.dst v)
  | none => False
 | .entryStore _ m s x => match o8 st.mem (st.eval m) (st.eval s) (st.eval x) with
  | some aD => Q ({ st with mem := aD }.put o.dst (.sc undef))
  | none => False
 | .call { callee := .builtin .delete, args := xs, argTypes := ts } => match l0 P st.mem ts (xs.toList.map st.eval) with
  | some aD => Q ({ st with mem := aD }.put o.dst (.sc (.tuple #[])))
  | none => False
 | .range T x => match js P st.mem T (st.eval x) with
  | some B => Q ({ st with mem := bc st.mem key B }.put o.dst (.ptr key 0))
  | none => False
 | .next it str => og st o.dst (st.eval it) str Q
 | .binOp op T x y _ => match je tt op T (st.eval x) (st.eval y) with
  | some n => ∀ b : Bool, (n ≠ 0 → b = false) → Q (st.put o.dst (.sc (.bool (jW op b))))
  | none => match fJ P tt st o with
   | some v => Q (st.put o.dst v)
   | none => False
 | _ => match fJ P tt st o with
  | some v => Q (st.put o.dst v)
  | none => False

theorem r7 {P : Program} {E : Env} {w : World} {fv : V} {fx : Value} {args : List V} {xs : Array Value} {g : FuncId} {vs : List V} (hf : aW E fv fx) (ha : aP E args xs.toList) (h : bf fv args = some (g, vs)) :
  ∃ d, ∃ ys : Array Value, aP E vs ys.toList ∧ (Deferred.ofValue fx xs).run P w = .ok d w ∧ (invoke d.target d.args).run P w = (callFunc g ys).run P w := by
 unfold bf at h
 split at h
 ·simp only [Option.some.injEq,Prod.mk.injEq] at h
  obtain ⟨rfl, rfl⟩ := h
  obtain rfl := bZ hf
  rename_i g first cap
  have zU : ∀ zs : Array Value, aP E (zs.toList.map V.sc) zs.toList := fun zs => ⟨by simp, fun i c x hc hx => ic E zs i c x hc (by simpa using hx)⟩
  exact ⟨{ target := .fn (.func g) cap, args := first ++ xs }, first ++ xs ++ cap, by simp only [Array.toList_append]; exact ((zU first).append ha).append (zU cap), rfl, by simp [invoke]⟩
 ·simp only [Option.some.injEq,Prod.mk.injEq] at h
  obtain ⟨rfl, rfl⟩ := h
  rename_i g _ _
  cases hf with
  | fM _ _ first cap ys zs h1 h2 h3 h4 =>
   refine ⟨{ target := .fn (.func g) zs, args := ys ++ xs }, ys ++ xs ++ zs, ?_, rfl, by simp [invoke]⟩
   simp only [Array.toList_append]
   exact (aP.append (aP.append ⟨by simpa using h1, fun i c x hc hx => h3 i c x hc (by simpa using hx)⟩ ha) ⟨by simpa using h2, fun i c x hc hx => h4 i c x hc (by simpa using hx)⟩)
 ·cases h

theorem lb {P : Program} {E : Env} {w : World} {fv : V} {fx : Value} {args : List V} {xs : Array Value} {g : FuncId} {vs : List V} (hf : aW E fv fx) (ha : aP E args xs.toList) (h : bf fv args = some (g, vs)) :
  ∃ ys : Array Value, aP E vs ys.toList ∧ (do let d ← Deferred.ofValue fx xs; invoke d.target d.args : Sem Next).run P w = (callFunc g ys).run P w := by
 unfold bf at h
 split at h
 ·simp only [Option.some.injEq,Prod.mk.injEq] at h
  obtain ⟨rfl, rfl⟩ := h
  obtain rfl := bZ hf
  rename_i first cap
  have zU : ∀ zs : Array Value, aP E (zs.toList.map V.sc) zs.toList := fun zs => ⟨by simp, fun i c x hc hx => ic E zs i c x hc (by simpa using hx)⟩
  refine ⟨first ++ xs ++ cap, by simp only [Array.toList_append]; exact ((zU first).append ha).append (zU cap), ?_⟩
  simp [Deferred.ofValue, invoke]
 ·simp only [Option.some.injEq,Prod.mk.injEq] at h
  obtain ⟨rfl, rfl⟩ := h
  cases hf with
  | fM _ _ first cap ys zs h1 h2 h3 h4 =>
   refine ⟨ys ++ xs ++ zs, ?_, ?_⟩
   ·simp only [Array.toList_append]
    exact (aP.append (aP.append ⟨by simpa using h1, fun i c x hc hx => h3 i c x hc (by simpa using hx)⟩ ha) ⟨by simpa using h2, fun i c x hc hx => h4 i c x hc (by simpa using hx)⟩)
   ·simp [Deferred.ofValue, invoke]
 ·cases h

theorem xE {P : Program} {tt : Table} {E : Env} {br : List (Nat × Nat)} {ev : Operand → V} {av : Operand → Value} (od : ∀ o, aW E (ev o) (av o)) : ∀ (parts : List (Nat × Operand)) (cs : List V) (xs : Array Value) (out : List V),
  aP E cs xs.toList → oh br ev parts cs = some out → ∃ ys, Instr.fill (br[·]?) xs (parts.map fun p => (p.1, av p.2)) = some ys ∧ aP E out ys.toList := by
 intro parts
 induction parts with
 | nil => intro cs xs out hr h; simp only [oh,Option.some.injEq] at h; subst h; exact ⟨xs, rfl, hr⟩
 | cons p r ih =>
  intro cs xs out hr h
  obtain ⟨i, x⟩ := p
  simp only [oh] at h
  split at h
  ·rename_i p hp
   split at h
   ·rename_i new im
    split at h
    ·rename_i hc
     obtain ⟨h1, h2⟩ := jS (od x) im
     have jL : (av x).cells.size = p.2 := by have := h1.1; simp at this; omega
     have mZ : xs.size = cs.length := by have := hr.1; simp at this; omega
     obtain ⟨ys, h3, h4⟩ := ih _ _ out (qe new _ cs xs p.1 h1 hr) h
     refine ⟨ys, ?_, h4⟩
     simp only [List.map_cons,Instr.fill,hp,jL]
     rw [if_neg (by simp; omega), ← h3]
     congr 1
     rw [← Array.foldl_toList, Array.toList_zipIdx]
     exact qg p.1 (av x).cells.toList 0 xs
    ·cases h
   ·cases h
  ·cases h

theorem oi {P : Program} {tt : Table} (ht : TT P tt) {E : Env} {w : World} {a : Act} {st : St} (hs : aZ E w a st) {T : TypeId} {parts : Array (Nat × Operand)} {v : V} (h : gG P tt T parts.toList st.eval = some v) :
  ∃ x, (Instr.build T (parts.map fun (i, x) => (i, a.eval x))).run P w = .ok x w ∧ aW E v x := by
 unfold gG at h
 split at h
 ·rename_i i hi
  split at h
  ·rename_i bL
   split at h
   ·rename_i cs tD
    simp only [Option.some.injEq] at h; subst h
    obtain ⟨info, nQ, -, -, z, hz, Dq⟩ := ht.size T i hi
    obtain ⟨d, hd, -, -, TH⟩ := ht.desc T i hi
    obtain ⟨ys, h1, h2⟩ := xE (P := P) (tt := tt) hs.eval parts.toList _ z.cells cs (by rw [Dq]; exact ⟨by simp, fun i c x hc hx => by
     simp only [List.getElem?_map,hx,Option.map_some,Option.some.injEq] at hc; subst hc; exact .sc _ _⟩) tD
    have UG : ∃ fs, d = .struct fs ∧ fs.size = i.br.length ∧ ∀ k (hk : k < fs.size), ∃ inf, P.info? fs[k].type = some inf ∧ i.br[k]? = some (fs[k].offset, inf.size) := by
     have ir : 0 < i.br.length := List.length_pos_iff.2 bL
     obtain ⟨fs, fd, inf, rfl, hlen, -⟩ := TH 0 (i.br[0]).1 (i.br[0]).2 (List.getElem?_eq_getElem ir)
     refine ⟨fs, rfl, hlen, fun k hk => ?_⟩
     obtain ⟨W5, fd, inf, he, -, QZ, TI, UH, Yk, -⟩ := TH k (i.br[k]'(by omega)).1 (i.br[k]'(by omega)).2 (List.getElem?_eq_getElem (by omega))
     cases he
     rw [Array.getElem?_eq_getElem hk] at QZ; cases QZ
     exact ⟨inf, UH, by rw [List.getElem?_eq_getElem (by omega), TI, Yk]⟩
    obtain ⟨fs, rfl, hlen, aV⟩ := UG
    have zU : (fs.mapM fun f => do pure (f.offset, ← sizeOf f.type) : Sem (Array (Nat × Nat))).run P w = .ok i.br.toArray w := by
     have gen : ∀ (l : List Field) (fl : List (Nat × Nat)), l.length = fl.length → (∀ k (hk : k < l.length), ∃ inf, P.info? l[k].type = some inf ∧ fl[k]? = some (l[k].offset, inf.size)) →
       (l.mapM fun f => do pure (f.offset, ← sizeOf f.type) : Sem (List (Nat × Nat))).run P w = .ok fl w := by
      intro l
      induction l with
      | nil => intro fl hl _; have : fl = [] := List.length_eq_zero_iff.1 hl.symm; subst this; rfl
      | cons f r ih =>
       intro fl hl hk
       cases fl with
       | nil => simp at hl
       | cons p fl =>
        obtain ⟨inf, h1, h2⟩ := hk 0 (by simp)
        simp only [List.getElem_cons_zero,List.getElem?_cons_zero,Option.some.injEq] at h1 h2
        subst h2
        have := ih fl (by simpa using hl) fun k bO => hk (k + 1) (Nat.succ_lt_succ bO)
        simp only [List.mapM_cons,Sem.run_bind,dd h1,Result.andThen_ok,Sem.run_pure,this]
     have := gen fs.toList i.br hlen fun k hk => aV k hk
     rw [Array.mapM_eq_mapM_toList]
     simp only [Sem.run_map,this,Result.andThen_ok]
    have na : (parts.map fun (i, x) => (i, a.eval x)).toList = parts.toList.map fun p => (p.1, a.eval p.2) := by simp
    refine ⟨.agg ys, ?_, .agg _ _ _ (by simpa using h2.1) fun i c x hc hx => h2.2 i c x hc (by simpa using hx)⟩
    unfold Instr.build
    have QX : (zeroValue T).run P w = .ok z w := by simp [zeroValue, cE nQ, hz]
    simp only [Sem.run_bind,QX,Result.andThen_ok,ao hd,zU,na]
    have Q0 : (fun (k : Nat) => i.br.toArray[k]?) = (fun (k : Nat) => i.br[k]?) := by funext k; simp
    simp only [Q0,h1]
    simp
   ·cases h
  ·split at h
   ·rename_i l hl
    have hp := k9 hs.eval hl
    unfold zT at h
    split at h
    ·rename_i cs tD
     cases h
     refine ⟨.agg cs, ?_, .agg _ _ _ (by simp) (ic E cs)⟩
     have na : (parts.map fun (i, x) => (i, a.eval x)) = l.toArray := by rw [← hp]; apply Array.toList_inj.1; simp
     rw [na]
     exact cA _ tD w
    ·cases h
   ·cases h
 ·cases h
end Go.Eng
end
