/-
  THE ENGINE, A: abstract values, and what it means that one stands for a value of the model in a world.
  THE ENGINE, B: the table of types, the store, the state of a call, and what one operation makes of it.
  THE ENGINE, C: the operations that write nothing, and that each does in the model what it says.
  THE ENGINE, D: one word for all operations that write nothing.
  THE ENGINE, DM: maps: reading them.
  THE ENGINE, E: the word for every operation that writes nothing, and its soundness.
  THE ENGINE, F: new blocks, stores, what is read for good.
  THE ENGINE, G: stores.
  THE ENGINE, H: slices that are made: literals, append.
  THE ENGINE, I: append.
  THE ENGINE, IM: maps: writing them; ranging over them, and over strings.
  THE ENGINE, SF: append to a slice that begins behind its block's beginning: it may stay where it is, or go to a new block.
  THE ENGINE, J: what a call hands over; contracts.
-/
import Derived.Orders
import Derived.Below
import Derived.Laws.AppendOwn
import Derived.Laws.Cells
import Derived.Laws.Entries
import Derived.Laws.ResultCell
import Derived.Laws.BytesArg
import Derived.Laws.Append
import Derived.IntWalk
set_option linter.all false
section
namespace Go.Eng

class aE where
 n : Int
 κ : Int → Option Bool
 ok : ∀ k b, κ k = some b → decide (k ≤ n) = b
 g : Option Nat
 MK : Nat → Option (List Value)
variable [aE]
structure Gl (F : Addr → Option Value) : Prop where
 n : ∀ g, aE.g = some g → F ⟨g, 0, none⟩ = some (.int .i64 aE.n)
 t : ∀ g cs (j : Nat) x, aE.MK g = some cs → cs[j]? = some x → F ⟨g, j, none⟩ = some x
theorem Gl.mono {F F' : Addr → Option Value} (h : Gl F) (hF : ∀ ad x, F ad = some x → F' ad = some x) : Gl F' := ⟨fun g hg => hF _ _ (h.n g hg), fun g cs j x h1 h2 => hF _ _ (h.t g cs j x h1 h2)⟩

inductive V where
 | undef
 | sc (v : Value)
 | agg (cs : List V)
 | slice (rows : List V)
 | ms (b v s l : Nat)
 | ptr (b o : Nat)
 | da (b v i o : Nat)
 | cj (cs : List V)
 | fM (f : Fn) (first cap : List V)
 | bP (vs : List V)
 | gY (b : Nat)
 | mp (b : Nat)
 | gn
 | full (rows : List V)
 deriving Inhabited

def V.cells : V → List V
 | .agg cs => cs
 | v => [v]

structure Env where
 F : Addr → Option Value
 aK : Nat → Nat → Option (Nat × Nat × Nat)
 gl : Gl F

def Env.pure (E : Env) : Env := { F := E.F, aK := fun _ _ => none, gl := E.gl }

inductive aW : Env → V → Value → Prop
 | undef (E : Env) (x : Value) : aW E .undef x
 | sc (E : Env) (v : Value) : aW E (.sc v) v
 | agg (E : Env) (cs : List V) (xs : Array Value) (hl : cs.length = xs.size) (h : ∀ (i : Nat) (c : V) (x : Value), cs[i]? = some c → xs[i]? = some x → aW E c x) : aW E (.agg cs) (.agg xs)
 | slice (E : Env) (rows : List V) (a : Option Addr) (cap mW : Nat) (ad : Addr) (xf : Nat → Nat → Value) (ha : rows ≠ [] → a = some ad) (gQ : rows.length ≤ cap)
   (hs : ∀ (i : Nat) (row : V), rows[i]? = some row → row.cells.length = mW)
   (hF : ∀ (i : Nat) (row : V) (j : Nat) (c : V), rows[i]? = some row → row.cells[j]? = some c → E.F (ad.add (i * mW + j)) = some (xf i j))
   (h1 : ∀ (i : Nat) (row : V) (j : Nat) (c : V), rows[i]? = some row → row.cells[j]? = some c → (xf i j).oneCell' = true)
   (h : ∀ (i : Nat) (row : V) (j : Nat) (c : V), rows[i]? = some row → row.cells[j]? = some c → aW E.pure c (xf i j)) : aW E (.slice rows) (.slice a rows.length cap)
 | ms (E : Env) (b v s l g e c : Nat) (a : Option Addr) (cap : Nat) (hb : E.aK b v = some (g, e, c)) (hl : 0 < l → a = some ⟨g, s * e, none⟩) (h0 : s = 0 → a = some ⟨g, 0, none⟩ ∧ cap = c) (hc : l ≤ cap ∧ s + cap = c ∧ (0 < cap → a = some ⟨g, s * e, none⟩)) :
   aW E (.ms b v s l) (.slice a l cap)
 | dc (E : Env) (b v s : Nat) : aW E (.ms b v s 0) (.slice none 0 0)
 | ptr (E : Env) (b o g e c : Nat) (hb : E.aK b 0 = some (g, e, c)) : aW E (.ptr b o) (.pointer (some ⟨g, o, none⟩))
 | da (E : Env) (b v i o g e c : Nat) (hb : E.aK b v = some (g, e, c)) : aW E (.da b v i o) (.pointer (some ⟨g, i * e + o, none⟩))
 | cj (E : Env) (cs : List V) (ad : Addr) (xf : Nat → Value) (hF : ∀ (j : Nat) (c : V), cs[j]? = some c → E.F (ad.add j) = some (xf j)) (h : ∀ (j : Nat) (c : V), cs[j]? = some c → aW E.pure c (xf j)) :
   aW E (.cj cs) (.pointer (some ad))
 | fM (E : Env) (f : Fn) (first cap : List V) (xs ys : Array Value) (hx : first.length = xs.size) (hy : cap.length = ys.size)
   (h1 : ∀ (i : Nat) (c : V) (x : Value), first[i]? = some c → xs[i]? = some x → aW E c x) (h2 : ∀ (i : Nat) (c : V) (x : Value), cap[i]? = some c → ys[i]? = some x → aW E c x) : aW E (.fM f first cap) (.func f xs ys)
 | gY (E : Env) (b l e c : Nat) (hb : E.aK b 0 = some (l, e, c)) : aW E (.gY b) (.func (.yield l) #[] #[])
 | mp (E : Env) (b l e c : Nat) (hb : E.aK b 0 = some (l, e, c)) : aW E (.mp b) (.map (some l))
 | gn (E : Env) : aW E .gn (.int .i64 aE.n)
 | full (E : Env) (rows : List V) (a : Option Addr) (h : aW E (.slice rows) (.slice a rows.length rows.length)) : aW E (.full rows) (.slice a rows.length rows.length)
 | bP (E : Env) (vs : List V) (xs : Array Value) (hl : vs.length = xs.size) (h : ∀ (i : Nat) (c : V) (x : Value), vs[i]? = some c → xs[i]? = some x → aW E c x) : aW E (.bP vs) (.tuple xs)

def aP (E : Env) (vs : List V) (xs : List Value) : Prop := vs.length = xs.length ∧ ∀ (i : Nat) (v : V) (x : Value), vs[i]? = some v → xs[i]? = some x → aW E v x

theorem Env.Dj {a b : Env} (h1 : a.F = b.F) (h2 : a.aK = b.aK) : a = b := by
 cases a; cases b; dsimp only at h1 h2; subst h1; subst h2; rfl

structure Env.le (E E' : Env) : Prop where
 F : ∀ ad x, E.F ad = some x → E'.F ad = some x
 aK : ∀ b v t, E.aK b v = some t → E'.aK b v = some t

theorem Env.le_refl (E : Env) : E.le E := ⟨fun _ _ h => h, fun _ _ _ h => h⟩
theorem Env.le_trans {a b c : Env} (h : a.le b) (k : b.le c) : a.le c := ⟨fun ad x hx => k.F _ _ (h.F _ _ hx), fun b v t hx => k.aK _ _ _ (h.aK _ _ _ hx)⟩
theorem Env.fq {a b : Env} (h : a.le b) : a.pure.le b.pure := ⟨h.F, fun _ _ _ h => h⟩
theorem Env.lW (a : Env) : a.pure.le a := ⟨fun _ _ h => h, fun _ _ _ h => by simp [Env.pure] at h⟩

theorem aW.mono {E E' : Env} {v : V} {x : Value} (h : aW E v x) (hle : E.le E') : aW E' v x := by
 induction h generalizing E' with
 | undef => exact .undef _ _
 | sc => exact .sc _ _
 | agg E cs xs hl h ih => exact .agg _ _ _ hl fun i c x hc hx => ih i c x hc hx hle
 | slice E rows a cap mW ad xf ha gQ hs hF h1 h ih => exact .slice _ _ _ _ mW ad xf ha gQ hs (fun i row j c hi hj => hle.F _ _ (hF i row j c hi hj)) h1 fun i row j c hi hj => ih i row j c hi hj (Env.fq hle)
 | ms E b v s l g e c a cap hb hl h0 hc => exact .ms _ _ _ _ _ g e c _ _ (hle.aK _ _ _ hb) hl h0 hc
 | dc E b v s => exact .dc _ _ _ _
 | ptr E b o g e c hb => exact .ptr _ _ _ g e c (hle.aK _ _ _ hb)
 | da E b v i o g e c hb => exact .da _ _ _ _ _ g e c (hle.aK _ _ _ hb)
 | cj E cs ad xf hF h ih => exact .cj _ _ _ xf (fun j c hj => hle.F _ _ (hF j c hj)) fun j c hj => ih j c hj (Env.fq hle)
 | fM E f first cap xs ys hx hy h1 h2 ML MM => exact .fM _ _ _ _ _ _ hx hy (fun i c x hc hx => ML i c x hc hx hle) fun i c x hc hx => MM i c x hc hx hle
 | gY E b l e c hb => exact .gY _ _ l e c (hle.aK _ _ _ hb)
 | mp E b l e c hb => exact .mp _ _ l e c (hle.aK _ _ _ hb)
 | gn E => exact .gn _
 | full E rows a h ih => exact .full _ _ _ (ih hle)
 | bP E vs xs hl h ih => exact .bP _ _ _ hl fun i c x hc hx => ih i c x hc hx hle

theorem aP.mono {E E' : Env} {vs : List V} {xs : List Value} (h : aP E vs xs) (hle : E.le E') : aP E' vs xs :=
 ⟨h.1, fun i v x hv hx => (h.2 i v x hv hx).mono hle⟩
theorem aP.nil (E : Env) : aP E [] [] := ⟨rfl, fun i v x h => by simp at h⟩
theorem aP.cons {E : Env} {v : V} {x : Value} {vs : List V} {xs : List Value} (h : aW E v x) (hs : aP E vs xs) : aP E (v :: vs) (x :: xs) := by
 refine ⟨by simp [hs.1], fun i => ?_⟩
 cases i with
 | zero => intro v' x' hv hx; simp at hv hx; subst hv; subst hx; exact h
 | succ i => intro v' x' hv hx; simp at hv hx; exact hs.2 i v' x' hv hx
theorem aP.of_cons {E : Env} {v : V} {vs : List V} {xs : List Value} (h : aP E (v :: vs) xs) : ∃ x ys, xs = x :: ys ∧ aW E v x ∧ aP E vs ys := by
 cases xs with
 | nil => have := h.1; simp at this
 | cons x ys => exact ⟨x, ys, rfl, h.2 0 v x rfl rfl, by have := h.1; simpa using this, fun i v' x' hv hx => h.2 (i + 1) v' x' (by simpa using hv) (by simpa using hx)⟩
theorem aP.of_nil {E : Env} {xs : List Value} (h : aP E [] xs) : xs = [] := by
 have := h.1; simp at this; exact List.length_eq_zero_iff.1 this.symm
theorem aP.append {E : Env} {vs us : List V} {xs ys : List Value} (h : aP E vs xs) (k : aP E us ys) : aP E (vs ++ us) (xs ++ ys) := by
 refine ⟨by simp [h.1, k.1], fun i v x hv hx => ?_⟩
 by_cases hi : i < vs.length
 ·rw [List.getElem?_append_left hi] at hv; rw [List.getElem?_append_left (h.1 ▸ hi)] at hx; exact h.2 i v x hv hx
 ·rw [List.getElem?_append_right (by omega)] at hv; rw [List.getElem?_append_right (by have := h.1; omega), ← h.1] at hx; exact k.2 _ v x hv hx
theorem aP.get {E : Env} {vs : List V} {xs : List Value} (h : aP E vs xs) {i : Nat} {v : V} (hv : vs[i]? = some v) : ∃ x, xs[i]? = some x ∧ aW E v x := by
 have hi : i < xs.length := by rw [← h.1]; exact (List.getElem?_eq_some_iff.1 hv).1
 exact ⟨xs[i], List.getElem?_eq_getElem hi, h.2 i v _ hv (List.getElem?_eq_getElem hi)⟩
theorem aP.drop {E : Env} {vs : List V} {xs : List Value} (h : aP E vs xs) (n : Nat) : aP E (vs.drop n) (xs.drop n) :=
 ⟨by simp [h.1], fun i v x hv hx => h.2 (n + i) v x (by simpa using hv) (by simpa using hx)⟩
theorem aP.take {E : Env} {vs : List V} {xs : List Value} (h : aP E vs xs) (n : Nat) : aP E (vs.take n) (xs.take n) := by
 refine ⟨by simp [h.1], fun i v x hv hx => ?_⟩
 have hi : i < n := by
  by_cases hi : i < n
  ·exact hi
  ·rw [List.getElem?_take] at hv; simp [hi] at hv
 rw [List.getElem?_take_of_lt hi] at hv hx
 exact h.2 i v x hv hx
theorem aP.set {E : Env} {vs : List V} {xs : List Value} (h : aP E vs xs) (n : Nat) {v : V} {x : Value} (hv : aW E v x) : aP E (vs.set n v) (xs.set n x) := by
 refine ⟨by simp [h.1], fun i v' x' qJ EV => ?_⟩
 by_cases hi : n = i
 ·subst hi
  rw [List.getElem?_set] at qJ EV
  simp only [if_true] at qJ EV
  split at qJ
  ·split at EV
   ·simp at qJ EV; subst qJ; subst EV; exact hv
   ·simp at EV
  ·simp at qJ
 ·rw [List.getElem?_set_ne hi] at qJ EV; exact h.2 i v' x' qJ EV

theorem aW.cells {E : Env} {v : V} {x : Value} (h : aW E v x) (hu : v ≠ .undef) (hs : ∀ y, v = .sc y → ∀ cs, y ≠ .agg cs) : aP E v.cells x.cells.toList := by
 cases h with
 | undef => exact absurd rfl hu
 | sc =>
  have : x.cells = #[x] := by
   have := hs x rfl
   cases x <;> simp [Value.cells] at this ⊢
  simp only [V.cells,this]; exact .cons (.sc _ _) (.nil _)
 | agg _ cs xs hl h => exact ⟨by simpa [V.cells, Value.cells] using hl, fun i c x hc hx => h i c x hc (by simpa [Value.cells] using hx)⟩
 | slice _ rows a cap mW ad xf ha gQ hz hF h1 h => exact .cons (.slice _ _ _ _ mW ad xf ha gQ hz hF h1 h) (.nil _)
 | ms _ b v s l g e c a cap hb hl h0 hc => exact .cons (.ms _ _ _ _ _ g e c _ _ hb hl h0 hc) (.nil _)
 | dc _ b v s => exact .cons (.dc _ _ _ _) (.nil _)
 | ptr _ b o g e c hb => exact .cons (.ptr _ _ _ g e c hb) (.nil _)
 | da _ b v i o g e c hb => exact .cons (.da _ _ _ _ _ g e c hb) (.nil _)
 | cj _ cs ad xf hF h => exact .cons (.cj _ _ _ xf hF h) (.nil _)
 | fM _ f first cap xs ys hx hy h1 h2 => exact .cons (.fM _ _ _ _ _ _ hx hy h1 h2) (.nil _)
 | gY _ b l e c hb => exact .cons (.gY _ _ l e c hb) (.nil _)
 | mp _ b l e c hb => exact .cons (.mp _ _ l e c hb) (.nil _)
 | gn => exact .cons (.gn _) (.nil _)
 | full _ rows a h => exact .cons (.full _ _ _ h) (.nil _)
 | bP _ vs xs hl h => exact .cons (.bP _ _ _ hl h) (.nil _)
end Go.Eng
end

section
namespace Go.Eng
variable [aE]

structure Ti where
 size : Nat
 agg : Bool
 zero : List Value
 br : List (Nat × Nat) := []
 elem : Option TypeId := none
 bytes : Nat := 0
 deriving Inhabited

abbrev Table := TypeId → Option Ti

structure TT (P : Program) (tt : Table) : Prop where
 size : ∀ t i, tt t = some i → ∃ info, P.info? t = some info ∧ info.size = i.size ∧ info.bytes = i.bytes ∧ ∃ z, info.zero = some z ∧ z.cells.toList = i.zero
 desc : ∀ t i, tt t = some i → ∃ d, P.underlying t = some d ∧ (i.agg = true ↔ ((∃ fs, d = .struct fs) ∨ ∃ n e, d = .array n e)) ∧
  (∀ e, i.elem = some e → d = .slice e) ∧
  (∀ (f off sz : Nat), i.br[f]? = some (off, sz) → ∃ fs fd inf, d = .struct fs ∧ fs.size = i.br.length ∧ fs[f]? = some fd ∧ fd.offset = off ∧ P.info? fd.type = some inf ∧ inf.size = sz ∧ sz ≠ 0)

def aF {α : Type} (P : Program) : Sem α → Option α
 | .pure a => some a
 | .program k => aF P (k P)
 | .mark _ k => aF P k
 | _ => none

theorem cA {α : Type} {P : Program} (s : Sem α) {v : α} (h : aF P s = some v) (w : World) : s.run P w = .ok v w := by
 induction s with
 | pure a => simp [aF] at h; subst h; rfl
 | program k ih => exact ih P h
 | mark m k ih => exact ih h
 | _ => simp [aF] at h

def dF : Value → V
 | .agg cs => .agg (cs.toList.map V.sc)
 | .tuple vs => .bP (vs.toList.map V.sc)
 | v => .sc v

theorem ic (E : Env) (cs : Array Value) (i : Nat) (c : V) (x : Value) (hc : (cs.toList.map V.sc)[i]? = some c) (hx : cs[i]? = some x) : aW E c x := by
 simp only [List.getElem?_map,Array.getElem?_toList,hx,Option.map_some,Option.some.injEq] at hc
 subst hc; exact .sc _ _
theorem ft (E : Env) (v : Value) : aW E (dF v) v := by
 cases v with
 | agg cs => exact .agg _ _ _ (by simp) (ic E cs)
 | tuple cs => exact .bP _ _ _ (by simp) (ic E cs)
 | _ => exact .sc _ _

inductive aw where
 | hole
 | dead
 | box (cs : List V)
 | rows (v e : Nat) (rs : List V)
 | mv (v e : Nat) (rs : List V)
 | loop (s : LoopState) (iY : Option Code) (fr : List V) (params : Array Tmp) (assign body : Code)
 | map (bm : List (Value × Nat × V)) (clock : Nat)
 | eh (m since : Nat) (seen : List Nat) (last : Nat)
 | gJ (s : ByteArray) (pos : Nat)
 | ig
 deriving Inhabited

structure St where
 fr : List V
 mem : List aw

def St.eval (st : St) : Operand → V
 | .tmp t => st.fr.getD t .undef
 | .const v => dF v
 | .global g => if aE.g = some g then .cj [.gn] else match aE.MK g with | some cs => .cj (cs.map V.sc) | none => .undef
 | .func f => .sc (.func (.func f) #[] #[])

def St.put (st : St) (dst : Option Tmp) (v : V) : St :=
 match dst with
 | some d => { st with fr := st.fr.set d v }
 | none => st

def fu (E : Env) (e : Nat) (rs : List V) (at_ : Nat → Option Value) : Prop :=
 ∀ (i : Nat) (row : V), rs[i]? = some row → row.cells.length = e ∧ ∀ (j : Nat) (c : V), row.cells[j]? = some c → ∃ x, at_ (i * e + j) = some x ∧ x.oneCell' = true ∧ aW E c x

def cx (E : Env) (bm : List (Value × Nat × V)) (es : List MapEntry) : Prop :=
 bm.length = es.length ∧ ∀ (i : Nat) (k : Value × Nat × V) (e : MapEntry), bm[i]? = some k → es[i]? = some e → e.key = k.1 ∧ e.born = k.2.1 ∧ aW E k.2.2 e.val
theorem cx.mono {E E' : Env} {bm : List (Value × Nat × V)} {es : List MapEntry} (h : cx E bm es) (hle : E.le E') : cx E' bm es :=
 ⟨h.1, fun i k e hk he => let ⟨h1, h2, h3⟩ := h.2 i k e hk he; ⟨h1, h2, h3.mono hle⟩⟩

def ij (E : Env) (w : World) (k : Nat) : aw → Prop
 | .hole => ∀ v, E.aK k v = none
 | .dead => True
 | .box cs => ∃ g T xs, E.aK k 0 = some (g, 0, 0) ∧ w.heap[g]? = some (.cells xs T (0, 0)) ∧ aP E cs xs.toList ∧ ∀ o, E.F ⟨g, o, none⟩ = none
 | .rows v e rs => (rs = [] ∧ E.aK k v = none) ∨ ∃ g T xs c, E.aK k v = some (g, e, c) ∧ w.heap[g]? = some (.cells xs T (0, 0)) ∧ xs.size = c * e ∧ rs.length ≤ c ∧ fu E.pure e rs (fun o => xs[o]?) ∧ ∀ o, E.F ⟨g, o, none⟩ = none
 | .mv v e rs => (rs = [] ∧ E.aK k v = none) ∨ ∃ g c, E.aK k v = some (g, e, c) ∧ rs.length ≤ c ∧ fu E.pure e rs (fun o => E.F ⟨g, o, none⟩)
 | .loop s iY fr params assign body => ∃ l fn tmps db, E.aK k 0 = some (l, 0, 0) ∧ w.heap[l]? = some (.loop { state := s, pending := iY, fn := fn, tmps := tmps, params := params, assign := assign, body := body, defers := db }) ∧ aP E fr tmps.toList ∧ ∀ o, E.F ⟨l, o, none⟩ = none

 | .map bm clock => ∃ g es, E.aK k 0 = some (g, 0, 0) ∧ w.heap[g]? = some (.map es clock) ∧ cx E bm es.toList ∧ ∀ o, E.F ⟨g, o, none⟩ = none
 | .eh m since seen last => ∃ g gm e c, E.aK k 0 = some (g, 0, 0) ∧ E.aK m 0 = some (gm, e, c) ∧ w.heap[g]? = some (.mapIter (some gm) since seen.toArray last) ∧ ∀ o, E.F ⟨g, o, none⟩ = none
 | .gJ s pos => ∃ g, E.aK k 0 = some (g, 0, 0) ∧ w.heap[g]? = some (.stringIter s pos) ∧ ∀ o, E.F ⟨g, o, none⟩ = none
 | .ig => ∃ g, E.aK k 0 = some (g, 0, 0) ∧ w.heap[g]? = some (.mapIter none 0 #[] 0) ∧ ∀ o, E.F ⟨g, o, none⟩ = none

def aw.aA : aw → Nat
 | .rows v _ _ => v
 | .mv v _ _ => v
 | _ => 0
def aw.held : aw → Bool
 | .hole | .dead => false
 | _ => true

structure aZ (E : Env) (w : World) (a : Act) (st : St) : Prop where
 F : ∀ ad x, E.F ad = some x → w.cell? ad = some x
 lt : ∀ k v g e c, E.aK k v = some (g, e, c) → g < w.heap.size
 mem : ∀ k B, st.mem[k]? = some B → ij E w k B
 top : ∀ k, st.mem.length ≤ k → ∀ v, E.aK k v = none
 aA : ∀ k B, st.mem[k]? = some B → ∀ v, B.aA < v → E.aK k v = none
 apart : ∀ k k' v v' g e c e' c', E.aK k v = some (g, e, c) → E.aK k' v' = some (g, e', c') → k = k'
 fr : aP E st.fr a.tmps.toList

theorem aZ.eval {E : Env} {w : World} {a : Act} {st : St} (h : aZ E w a st) (x : Operand) : aW E (st.eval x) (a.eval x) := by
 cases x with
 | tmp t =>
  simp only [St.eval,Act.eval]
  cases hv : st.fr[t]? with
  | none => rw [List.getD_eq_getElem?_getD, hv]; exact .undef _ _
  | some v =>
   obtain ⟨x, hx, hr⟩ := h.fr.get hv
   rw [List.getD_eq_getElem?_getD, hv, Array.getD_eq_getD_getElem?]
   simp only [Array.getElem?_toList] at hx
   rw [hx]; exact hr
 | const v => exact ft E v
 | global g =>
  simp only [St.eval,Act.eval]
  split
  ·rename_i hg
   refine .cj _ _ _ (fun _ => .int .i64 aE.n) (fun j c hc => ?_) fun j c hc => ?_
   ·match j with
    | 0 => exact E.gl.n g hg
    | j + 1 => simp at hc
   ·match j with
    | 0 => simp at hc; subst hc; exact .gn _
    | j + 1 => simp at hc
  ·split
   ·rename_i cs tD
    refine .cj _ _ _ (fun j => (cs[j]?).getD undef) (fun j c hc => ?_) fun j c hc => ?_
    ·simp only [List.getElem?_map,Option.map_eq_some_iff] at hc
     obtain ⟨x, hx, rfl⟩ := hc
     have h1 : (Addr.mk g 0 none).add j = ⟨g, j, none⟩ := by unfold Addr.add; by_cases hj : j = 0 <;> simp [hj]
     rw [h1, hx]
     exact E.gl.t g cs j x tD hx
    ·simp only [List.getElem?_map,Option.map_eq_some_iff] at hc
     obtain ⟨x, hx, rfl⟩ := hc
     rw [hx]; exact .sc _ _
   ·exact .undef _ _
 | func f => exact .sc _ _

structure dn (E : Env) (w : World) (E' : Env) (w' : World) : Prop where
 le : E.le E'
 aK : ∀ k v g e c, E'.aK k v = some (g, e, c) → (∃ k0 v0 e0 c0, E.aK k0 v0 = some (g, e0, c0)) ∨ w.heap.size ≤ g
 F : ∀ ad x, E'.F ad = some x → E.F ad = some x ∨ w.heap.size ≤ ad.block ∨ ∃ k0 v0 e0 c0, E.aK k0 v0 = some (ad.block, e0, c0)
 os : w'.os = w.os
 tape : w'.tape = w.tape
 output : w'.output = w.output
 size : w.heap.size ≤ w'.heap.size
 heap : ∀ b, b < w.heap.size → (∀ k v e c, E.aK k v ≠ some (b, e, c)) → w'.heap[b]? = w.heap[b]?

theorem dn.refl (E : Env) (w : World) : dn E w E w :=
 ⟨E.le_refl, fun k v g e c h => .inl ⟨k, v, e, c, h⟩, fun _ _ h => .inl h, rfl, rfl, rfl, Nat.le_refl _, fun _ _ _ => rfl⟩
theorem dn.trans {E E1 E2 : Env} {w w1 w2 : World} (h : dn E w E1 w1) (k : dn E1 w1 E2 w2) : dn E w E2 w2 := by
 refine ⟨Env.le_trans h.le k.le, ?_, ?_, k.os.trans h.os, k.tape.trans h.tape, k.output.trans h.output, Nat.le_trans h.size k.size, ?_⟩
 ·intro q v g e c hq
  rcases k.aK q v g e c hq with ⟨k0, v0, e0, c0, h0⟩ | h0
  ·exact h.aK _ _ _ _ _ h0
  ·exact .inr (Nat.le_trans h.size h0)
 ·intro ad x hx
  rcases k.F ad x hx with h0 | h0 | ⟨k0, v0, e0, c0, h0⟩
  ·exact h.F _ _ h0
  ·exact .inr (.inl (Nat.le_trans h.size h0))
  ·rcases h.aK _ _ _ _ _ h0 with h1 | h1
   ·exact .inr (.inr h1)
   ·exact .inr (.inl h1)
 ·intro b hb bL
  rw [k.heap b (Nat.lt_of_lt_of_le hb h.size) ?_, h.heap b hb bL]
  intro q v e c hq
  rcases h.aK _ _ _ _ _ hq with ⟨k0, v0, e0, c0, h0⟩ | h0
  ·exact bL _ _ _ _ h0
  ·omega
theorem dn.drew (E : Env) (w : World) : dn E w E w.drew :=
 ⟨E.le_refl, fun k v g e c h => .inl ⟨k, v, e, c, h⟩, fun _ _ h => .inl h, rfl, rfl, rfl, Nat.le_refl _, fun _ _ _ => rfl⟩
theorem aZ.drew {E : Env} {w : World} {a : Act} {st : St} (h : aZ E w a st) : aZ E w.drew a st :=
 ⟨h.F, h.lt, fun k B hB => by have := h.mem k B hB; cases B <;> exact this, h.top, h.aA, h.apart, h.fr⟩

theorem aZ.put {E : Env} {w : World} {a : Act} {st : St} (h : aZ E w a st) (dst : Option Tmp) {v : V} {x : Value} (hr : aW E v x) : aZ E w (a.put dst x) (st.put dst v) := by
 cases dst with
 | none => exact h
 | some d => exact ⟨h.F, h.lt, h.mem, h.top, h.aA, h.apart, by simpa [St.put, Act.put] using h.fr.set d hr⟩
end Go.Eng
end

section
namespace Go.Eng
variable [aE]

def dv (tt : Table) (T : TypeId) (cs : List V) : Option V :=
 match tt T with
 | some i => if i.agg then (if i.size ≤ cs.length then some (.agg (cs.take i.size)) else none) else cs.head?
 | none => none

def rowOf (mem : List aw) (b v i : Nat) : Option V :=
 match mem[b]? with
 | some (.rows v' _ rs) => if v' = v then rs[i]? else none
 | some (.mv v' _ rs) => if v' = v then rs[i]? else none
 | _ => none

def kC (tt : Table) (mem : List aw) (T : TypeId) : V → Option V
 | .ptr b o => match mem[b]? with | some (.box cs) => dv tt T (cs.drop o) | _ => none
 | .da b v i o => match rowOf mem b v i with | some row => dv tt T (row.cells.drop o) | none => none
 | .cj cs => dv tt T cs
 | _ => none

def I2 (tt : Table) (S : TypeId) (f : Nat) : Option Nat := match tt S with | some i => (match i.br[f]? with | some p => some p.1 | none => none) | none => none
def dw (tt : Table) (T : TypeId) : Option TypeId := match tt T with | some i => i.elem | none => none
def iJ (tt : Table) (T : TypeId) : Option Nat := match tt T with | some i => some i.size | none => none

def fieldAt (off : Nat) : V → Option V
 | .ptr b o => some (.ptr b (o + off))
 | .da b v i o => some (.da b v i (o + off))
 | .cj cs => some (.cj (cs.drop off))
 | _ => none
def vg (tt : Table) (S : TypeId) (f : Nat) (x : V) : Option V := match I2 tt S f with | some off => fieldAt off x | none => none

def eJ (mem : List aw) (b v : Nat) : Option Nat :=
 match mem[b]? with
 | some (.rows v' e _) => if v' = v then some e else none
 | some (.mv v' e _) => if v' = v then some e else none
 | _ => none

def indexAt (mem : List aw) (size : Nat) (n : Int) : V → Option V
 | .slice rows => if 0 ≤ n then (match rows[n.toNat]? with | some row => if row.cells.length = size then some (.cj row.cells) else none | none => none) else none
 | .ms b v s l => if 0 ≤ n ∧ n < l ∧ eJ mem b v = some size then some (.da b v (s + n.toNat) 0) else none
 | _ => none
def ik (tt : Table) (mem : List aw) (T : TypeId) (x i : V) : Option V :=
 match i with
 | .sc (.int _ n) => match dw tt T with
  | some e => match iJ tt e with
   | some size => indexAt mem size n x
   | none => none
  | none => none
 | _ => none

theorem add_add (a : Addr) (m n : Nat) : (a.add m).add n = a.add (m + n) := by
 unfold Addr.add
 by_cases hm : m = 0 <;> by_cases hn : n = 0 <;> simp [hm, hn, Nat.add_assoc]
theorem add_lit (b o n : Nat) : (Addr.mk b o none).add n = ⟨b, o + n, none⟩ := by
 unfold Addr.add; by_cases hn : n = 0 <;> simp [hn]

theorem ao {P : Program} {t : TypeId} {d : TypeDesc} (h : P.underlying t = some d) (w : World) : (underlying t).run P w = .ok d w := by
 simp [underlying, h]
theorem cE {P : Program} {t : TypeId} {i : TypeInfo} (h : P.info? t = some i) (w : World) : (typeInfo t).run P w = .ok i w := by
 simp [typeInfo, h]
theorem dd {P : Program} {t : TypeId} {i : TypeInfo} (h : P.info? t = some i) (w : World) : (sizeOf t).run P w = .ok i.size w := by
 simp [sizeOf, cE h]
theorem TT.isAgg {P : Program} {tt : Table} (h : TT P tt) {t : TypeId} {i : Ti} (ht : tt t = some i) (w : World) : (isAgg t).run P w = .ok i.agg w := by
 obtain ⟨d, hd, ha, -⟩ := h.desc t i ht
 simp only [Go.isAgg,Sem.run_bind,ao hd,Result.andThen_ok]
 cases hi : i.agg with
 | true =>
  rcases ha.1 hi with ⟨fs, rfl⟩ | ⟨n, e, rfl⟩ <;> rfl
 | false =>
  have : ¬ ((∃ fs, d = .struct fs) ∨ ∃ n e, d = .array n e) := fun hh => by rw [ha.2 hh] at hi; cases hi
  cases d <;> first | rfl | (exfalso; apply this; first | exact .inl ⟨_, rfl⟩ | exact .inr ⟨_, _, rfl⟩)
theorem TT.sizeOf {P : Program} {tt : Table} (h : TT P tt) {t : TypeId} {i : Ti} (ht : tt t = some i) (w : World) : (Go.sizeOf t).run P w = .ok i.size w := by
 obtain ⟨info, h1, h2, -⟩ := h.size t i ht
 rw [dd h1, h2]

def iK (E : Env) (w : World) (ad : Addr) (cs : List V) : Prop := ∀ (j : Nat) (c : V), cs[j]? = some c → ∃ x, w.cell? (ad.add j) = some x ∧ aW E c x
theorem iK.drop {E : Env} {w : World} {ad : Addr} {cs : List V} (h : iK E w ad cs) (n : Nat) : iK E w (ad.add n) (cs.drop n) := fun j c hc => by
 rw [add_add]; exact h _ _ (by simpa using hc)

theorem qK {P : Program} {tt : Table} (ht : TT P tt) {E : Env} {w : World} {ad : Addr} {cs : List V} {T : TypeId} {v : V} (h : iK E w ad cs) (hp : dv tt T cs = some v) :
  ∃ x, (loadVar T ad).run P w = .ok x w ∧ aW E v x := by
 unfold dv at hp
 cases hi : tt T with
 | none => rw [hi] at hp; simp at hp
 | some i =>
  rw [hi] at hp; simp only at hp
  cases ha : i.agg with
  | false =>
   simp only [ha,Bool.false_eq_true,if_false] at hp
   obtain ⟨x, hx, hr⟩ := h 0 v (by simpa [List.head?_eq_getElem?] using hp)
   have h0 : ad.add 0 = ad := by simp [Addr.add]
   rw [h0] at hx
   refine ⟨x, ?_, hr⟩
   simp [loadVar, ht.isAgg hi, ha, hx]
  | true =>
   simp only [ha,if_true] at hp
   split at hp
   ·rename_i hle
    simp only [Option.some.injEq] at hp; subst hp
    have hx : ∀ j, j < i.size → ∃ x, w.cell? (ad.add j) = some x ∧ ∀ c, cs[j]? = some c → aW E c x := fun j hj => by
     have qb : j < cs.length := by omega
     obtain ⟨x, hx, hr⟩ := h j _ (List.getElem?_eq_getElem qb)
     exact ⟨x, hx, fun c hc => by rw [List.getElem?_eq_getElem qb] at hc; cases hc; exact hr⟩
    let f : Nat → Value := fun j => (w.cell? (ad.add j)).getD default
    have hf : ∀ j, j < i.size → w.cell? (ad.add j) = some (f j) := fun j hj => by
     obtain ⟨x, hx, -⟩ := hx j hj
     simp [f, hx]
    refine ⟨.agg ((List.range i.size).map f).toArray, ?_, ?_⟩
    ·simp only [loadVar,Sem.run_bind,ht.isAgg hi,Result.andThen_ok,ha,if_true,ht.sizeOf hi]
     rw [run_loadCells w ad i.size f hf]
     simp
    ·refine .agg _ _ _ (by simp; omega) fun j c x hc WX => ?_
     have hj : j < i.size := by
      by_cases hj : j < i.size
      ·exact hj
      ·rw [List.getElem?_take] at hc; simp [hj] at hc
     rw [List.getElem?_take_of_lt hj] at hc
     obtain ⟨y, hy, hr⟩ := hx j hj
     simp [hj] at WX
     rw [← WX]
     have : f j = y := by simp [f, hy]
     rw [this]; exact hr c hc
   ·simp at hp

theorem zJ {E : Env} {w : World} (hF : ∀ ad x, E.F ad = some x → w.cell? ad = some x) {cs : List V} {x : Value} (h : aW E (.cj cs) x) : ∃ ad, x = .pointer (some ad) ∧ iK E w ad cs := by
 cases h with
 | cj _ _ ad xf hf hr => exact ⟨ad, rfl, fun j c hc => ⟨xf j, hF _ _ (hf j c hc), (hr j c hc).mono E.lW⟩⟩

theorem iL {w : World} {g : Nat} {xs : Array Value} {T : TypeId} {fz : Nat × Nat} (h : w.heap[g]? = some (.cells xs T fz)) (o : Nat) : w.cell? ⟨g, o, none⟩ = xs[o]? := by
 simp [World.cell?, h]

theorem Dk {E : Env} {w : World} {a : Act} {st : St} (hs : aZ E w a st) {b o : Nat} {cs : List V} (hm : st.mem[b]? = some (.box cs)) {x : Value} (h : aW E (.ptr b o) x) :
  ∃ ad, x = .pointer (some ad) ∧ iK E w ad (cs.drop o) := by
 cases h with
 | ptr _ _ _ g e c hb =>
  obtain ⟨g', T, xs, eN, hh, hr, -⟩ := hs.mem b _ hm
  rw [hb] at eN; cases eN
  refine ⟨_, rfl, fun j c hc => ?_⟩
  rw [add_lit, iL hh]
  obtain ⟨y, hy, Dl⟩ := hr.get (i := o + j) (by simpa using hc)
  exact ⟨y, by simpa using hy, Dl⟩

theorem zK {E : Env} {w : World} {a : Act} {st : St} (hs : aZ E w a st) {b v i o : Nat} {row : V} (hm : rowOf st.mem b v i = some row) {x : Value} (h : aW E (.da b v i o) x) :
  ∃ ad, x = .pointer (some ad) ∧ iK E w ad (row.cells.drop o) := by
 cases h with
 | da _ _ _ _ _ g e c hb =>
  refine ⟨_, rfl, fun j cc hc => ?_⟩
  rw [add_lit]
  have LD : row.cells[o + j]? = some cc := by simpa using hc
  unfold rowOf at hm
  split at hm
  ·rename_i v' e' rs hk
   split at hm
   ·rename_i hv
    subst hv
    rcases hs.mem b _ hk with ⟨rfl, -⟩ | ⟨g', T, xs, c', eN, hh, -, -, hr, -⟩
    ·simp at hm
    rw [hb] at eN; cases eN
    obtain ⟨-, h2⟩ := hr i row hm
    obtain ⟨y, hy, -, Dl⟩ := h2 _ _ LD
    exact ⟨y, by rw [iL hh, Nat.add_assoc]; exact hy, Dl.mono E.lW⟩
   ·cases hm
  ·rename_i v' e' rs hk
   split at hm
   ·rename_i hv
    subst hv
    rcases hs.mem b _ hk with ⟨rfl, -⟩ | ⟨g', c', eN, -, hr⟩
    ·simp at hm
    rw [hb] at eN; cases eN
    obtain ⟨-, h2⟩ := hr i row hm
    obtain ⟨y, hy, -, Dl⟩ := h2 _ _ LD
    exact ⟨y, hs.F _ _ (by rw [Nat.add_assoc]; exact hy), Dl.mono E.lW⟩
   ·cases hm
  ·simp at hm

theorem qc {P : Program} {tt : Table} (ht : TT P tt) {E : Env} {w : World} {a : Act} {st : St} (hs : aZ E w a st) {T : TypeId} {p v : V} {x : Value} (hr : aW E p x) (h : kC tt st.mem T p = some v) :
  ∃ y, (Instr.loadAt T x).run P w = .ok y w ∧ aW E v y := by
 have key : ∃ ad cs, x = .pointer (some ad) ∧ iK E w ad cs ∧ dv tt T cs = some v := by
  unfold kC at h
  split at h
  ·split at h
   ·rename_i hm
    obtain ⟨ad, h1, h2⟩ := Dk hs hm hr
    exact ⟨ad, _, h1, h2, h⟩
   ·simp at h
  ·split at h
   ·rename_i hm
    obtain ⟨ad, h1, h2⟩ := zK hs hm hr
    exact ⟨ad, _, h1, h2, h⟩
   ·simp at h
  ·obtain ⟨ad, h1, h2⟩ := zJ hs.F hr
   exact ⟨ad, _, h1, h2, h⟩
  ·simp at h
 obtain ⟨ad, cs, rfl, hc, hp⟩ := key
 obtain ⟨y, hy, Dl⟩ := qK ht hc hp
 exact ⟨y, by simp [Instr.loadAt, Instr.sureAddr, hy], Dl⟩

theorem vh {P : Program} {tt : Table} (ht : TT P tt) {E : Env} {S : TypeId} {f : Nat} {p v : V} {x : Value} (hr : aW E p x) (h : vg tt S f p = some v) (w : World) :
  ∃ y, (Instr.fieldAt S x f).run P w = .ok y w ∧ aW E v y := by
 unfold vg I2 at h
 cases hi : tt S with
 | none => rw [hi] at h; simp at h
 | some i =>
  rw [hi] at h; simp only at h
  cases ho : i.br[f]? with
  | none => rw [ho] at h; simp at h
  | some off =>
   rw [ho] at h; simp only at h
   obtain ⟨d, hd, -, -, Um⟩ := ht.desc S i hi
   obtain ⟨fs, fd, inf, rfl, -, hf, P5, fS, jn, gE⟩ := Um f off.1 off.2 ho
   have jL : inf.size ≠ 0 := by omega
   obtain ⟨off, sz⟩ := off
   dsimp only at P5
   subst P5
   have run : ∀ ad, (Instr.fieldAt S (.pointer (some ad)) f).run P w = .ok (.pointer (some (ad.add fd.offset))) w := fun ad => by
    simp [Instr.fieldAt, ao hd, hf, Instr.sureAddr, fieldPlace, dd fS, jL]
   unfold Eng.fieldAt at h
   split at h
   ·simp only [Option.some.injEq] at h; subst h
    cases hr with
    | ptr _ _ _ g e c hb => exact ⟨_, run _, by rw [add_lit]; exact .ptr _ _ _ g e c hb⟩
   ·simp only [Option.some.injEq] at h; subst h
    cases hr with
    | da _ _ _ _ _ g e c hb => exact ⟨_, run _, by rw [add_lit, Nat.add_assoc]; exact .da _ _ _ _ _ g e c hb⟩
   ·simp only [Option.some.injEq] at h; subst h
    cases hr with
    | cj _ _ ad xf hf hr => exact ⟨_, run _, .cj _ _ _ (fun j => xf (fd.offset + j)) (fun j c hc => by rw [add_add]; exact hf _ _ (by simpa using hc)) fun j c hc => hr _ _ (by simpa using hc)⟩
   ·simp at h

theorem xb {E : Env} {w : World} {a : Act} {st : St} (hs : aZ E w a st) {b v size g e c : Nat} (h : eJ st.mem b v = some size) (hb : E.aK b v = some (g, e, c)) : e = size := by
 unfold eJ at h
 split at h
 ·rename_i hk
  split at h
  ·rename_i hv
   subst hv
   rcases hs.mem b _ hk with ⟨-, hn⟩ | ⟨g', T', xs, c', eN, -⟩
   ·rw [hb] at hn; cases hn
   rw [hb] at eN; cases eN; simpa using h
  ·cases h
 ·rename_i hk
  split at h
  ·rename_i hv
   subst hv
   rcases hs.mem b _ hk with ⟨-, hn⟩ | ⟨g', c', eN, -⟩
   ·rw [hb] at hn; cases hn
   rw [hb] at eN; cases eN; simpa using h
  ·cases h
 ·simp at h

theorem vi {P : Program} {tt : Table} (ht : TT P tt) {E : Env} {w : World} {a : Act} {st : St} (hs : aZ E w a st) {T : TypeId} {p i v : V} {x y : Value} (hp : aW E p x) (hi : aW E i y) (h : ik tt st.mem T p i = some v) :
  ∃ z, (Instr.indexAt T x y).run P w = .ok z w ∧ aW E v z := by
 unfold ik at h
 split at h
 ·rename_i k n
  cases hi with
  | sc =>
  unfold dw iJ at h
  cases hT : tt T with
  | none => rw [hT] at h; simp at h
  | some iT =>
   rw [hT] at h; simp only at h
   cases he : iT.elem with
   | none => rw [he] at h; simp at h
   | some e =>
    rw [he] at h; simp only at h
    cases hE : tt e with
    | none => rw [hE] at h; simp at h
    | some ie =>
     rw [hE] at h; simp only at h
     obtain ⟨d, hd, -, kS, -⟩ := ht.desc T iT hT
     obtain rfl := kS e he
     have run : ∀ (ad : Addr) (len cap : Nat), 0 ≤ n → n < len → (Instr.indexAt T (.slice (some ad) len cap) (.int k n)).run P w = .ok (.pointer (some (ad.add (n.toNat * ie.size)))) w := fun ad len cap h0 h1 => by
      simp [Instr.indexAt, asIntOf, ao hd, ht.sizeOf hE, h0, h1]
     unfold Eng.indexAt at h
     split at h
     ·rename_i rows
      split at h
      ·rename_i h0
       split at h
       ·rename_i row b9
        split at h
        ·rename_i hlen
         simp only [Option.some.injEq] at h; subst h
         cases hp with
         | slice _ _ aa cap mW ad xf ha gQ hz hF h1 hR =>
          have az : n.toNat < rows.length := (List.getElem?_eq_some_iff.1 b9).1
          have bL : rows ≠ [] := by rintro rfl; simp at az
          obtain rfl := ha bL
          have Un : mW = ie.size := by rw [← hz _ _ b9, hlen]
          subst Un
          exact ⟨_, run ad _ cap h0 (by omega), .cj _ _ _ (fun j => xf n.toNat j) (fun j c hc => by rw [add_add]; exact hF _ _ _ _ b9 hc) fun j c hc => hR _ _ _ _ b9 hc⟩
        ·simp at h
       ·simp at h
      ·simp at h
     ·rename_i b v s l
      split at h
      ·rename_i h0
       obtain ⟨h0, h1, h2⟩ := h0
       simp only [Option.some.injEq] at h; subst h
       cases hp with
       | dc => simp at h1; omega
       | ms _ _ _ _ _ g e' c aa cap hb hl Fg hc =>
        obtain rfl := hl (by omega)
        have XV : e' = ie.size := xb hs h2 hb
        subst XV
        refine ⟨_, run _ _ cap h0 h1, ?_⟩
        have := aW.da E b v (s + n.toNat) 0 g ie.size c hb
        rw [add_lit, ← Nat.add_mul]
        simpa using this
      ·simp at h
     ·simp at h
 ·simp at h
end Go.Eng
end

section
namespace Go.Eng
variable [aE]

def mH : List V → Option (List Value)
 | [] => some []
 | .sc v :: r => match mH r with | some l => some (v :: l) | none => none
 | _ :: _ => none

def bw : V → Option Value
 | .sc v => some v
 | .agg cs => match mH cs with | some l => some (.agg l.toArray) | none => none
 | _ => none

theorem ud {E : Env} : ∀ {vs : List V} {xs : List Value} {l : List Value}, aP E vs xs → mH vs = some l → xs = l
 | [], xs, l, h, hl => by simp [mH] at hl; subst hl; exact h.of_nil
 | v :: vs, xs, l, h, hl => by
  obtain ⟨x, ys, rfl, h1, h2⟩ := h.of_cons
  cases v with
  | sc v =>
   simp only [mH] at hl
   split at hl
   ·rename_i l' MN
    simp only [Option.some.injEq] at hl; subst hl
    cases h1
    rw [ud h2 MN]
   ·simp at hl
  | _ => simp [mH] at hl

theorem eK {E : Env} {v : V} {x y : Value} (h : aW E v x) (hv : bw v = some y) : x = y := by
 cases v with
 | sc v => cases h; simpa [bw] using hv
 | agg cs =>
  simp only [bw] at hv
  split at hv
  ·rename_i l hl
   simp only [Option.some.injEq] at hv; subst hv
   cases h with
   | agg _ _ xs hlen hr =>
    have := ud (E := E) (xs := xs.toList) ⟨by simpa using hlen, fun i c x hc hx => hr i c x hc (by simpa using hx)⟩ hl
    rw [← this]
  ·simp at hv
 | _ => simp [bw] at hv

def mI (P : Program) (f : Value → Sem Value) (x : V) : Option V :=
 match bw x with
 | some a => match aF P (f a) with | some v => some (dF v) | none => none
 | none => none
def aS (P : Program) (f : Value → Value → Sem Value) (x y : V) : Option V :=
 match bw x with
 | some a => match bw y with
  | some b => match aF P (f a b) with | some v => some (dF v) | none => none
  | none => none
 | none => none

theorem kT {P : Program} {f : Value → Sem Value} {E : Env} {w : World} {x v : V} {a : Value} (hx : aW E x a) (h : mI P f x = some v) : ∃ y, (f a).run P w = .ok y w ∧ aW E v y := by
 unfold mI at h
 split at h
 ·rename_i a' ha
  cases eK hx ha
  split at h
  ·rename_i y hy
   simp only [Option.some.injEq] at h; subst h
   exact ⟨y, cA _ hy w, ft E y⟩
  ·simp at h
 ·simp at h
theorem gz {P : Program} {f : Value → Value → Sem Value} {E : Env} {w : World} {x y v : V} {a b : Value} (hx : aW E x a) (hy : aW E y b) (h : aS P f x y = some v) :
  ∃ z, (f a b).run P w = .ok z w ∧ aW E v z := by
 unfold aS at h
 split at h
 ·rename_i a' ha
  cases eK hx ha
  split at h
  ·rename_i b' hb
   cases eK hy hb
   split at h
   ·rename_i z hz
    simp only [Option.some.injEq] at h; subst h
    exact ⟨z, cA _ hz w, ft E z⟩
   ·simp at h
  ·simp at h
 ·simp at h

def MO : V → Option V
 | .ptr b o => some (.ptr b o)
 | .da b v i o => some (.da b v i o)
 | .cj cs => some (.cj cs)
 | .fM (.func f) a b => some (.fM (.func f) a b)
 | .sc (.func (.func f) a b) => some (.sc (.func (.func f) a b))
 | _ => none

def ck (rows : List V) (l size : Nat) : Bool := match rows[l]? with | some row => row.cells.length == size | none => true

def cutAt (mem : List aw) (size : Nat) (l : Int) (h : Option Int) : V → Option V
 | .slice rows =>
  if 0 ≤ l ∧ l ≤ h.getD rows.length ∧ h.getD rows.length ≤ rows.length ∧ ck rows l.toNat size = true then some (.slice ((rows.drop l.toNat).take (h.getD rows.length - l).toNat)) else none
 | .ms b v s n =>
  if 0 ≤ l ∧ l ≤ h.getD n ∧ h.getD n ≤ n ∧ eJ mem b v = some size then some (.ms b v (s + l.toNat) (h.getD n - l).toNat) else none
 | _ => none

def xd : V → Option Int
 | .sc (.int _ n) => some n
 | _ => none

def rE (P : Program) (tt : Table) (mem : List aw) (T : TypeId) (x : V) (lo hi : Option V) : Option V :=
 match x with
 | .sc a => match lo with
  | none => match hi with
   | none => mI P (fun a => Instr.sliceAt T a none none none) (.sc a)
   | some h => aS P (fun a h => Instr.sliceAt T a none (some h) none) (.sc a) h
  | some l => match hi with
   | none => aS P (fun a l => Instr.sliceAt T a (some l) none none) (.sc a) l
   | some h => match bw h with
    | some h => aS P (fun a l => Instr.sliceAt T a (some l) (some h) none) (.sc a) l
    | none => none
 | x => match dw tt T with
  | none => none
  | some e => match iJ tt e with
   | none => none
   | some size => match lo with
    | none => match hi with
     | none => cutAt mem size 0 none x
     | some h => match xd h with | some h => cutAt mem size 0 (some h) x | none => none
    | some l => match xd l with
     | none => none
     | some l => match hi with
      | none => cutAt mem size l none x
      | some h => match xd h with | some h => cutAt mem size l (some h) x | none => none

theorem kU {E : Env} {v : V} {x : Value} {n : Int} (h : aW E v x) (hv : xd v = some n) : ∃ k, x = .int k n := by
 unfold xd at hv
 split at hv
 ·cases h; simp at hv; subst hv; exact ⟨_, rfl⟩
 ·simp at hv

theorem iM {E : Env} {w : World} {a : Act} {st : St} (hs : aZ E w a st) {size : Nat} {l : Int} {h : Option Int} {x v : V} {y : Value} (hx : aW E x y) (hc : cutAt st.mem size l h x = some v) :
  ∃ aa len cap, y = .slice aa len cap ∧ 0 ≤ l ∧ l ≤ h.getD len ∧ h.getD len ≤ len ∧ len ≤ cap ∧
   aW E v (.slice (if cap = l.toNat then aa else aa.map (·.add (l.toNat * size))) (h.getD len - l).toNat (cap - l.toNat)) := by
 unfold cutAt at hc
 split at hc
 ·rename_i rows
  split at hc
  ·rename_i hh
   obtain ⟨h0, h1, h2, h3⟩ := hh
   simp only [Option.some.injEq] at hc; subst hc
   cases hx with
   | slice _ _ aa cap mW ad xf ha gQ hz hF jP hR =>
    refine ⟨aa, rows.length, cap, rfl, h0, h1, h2, gQ, ?_⟩
    have hlen : ((rows.drop l.toNat).take (h.getD rows.length - l).toNat).length = (h.getD rows.length - l).toNat := by simp; omega
    have hg : ∀ (i : Nat) (row : V), ((rows.drop l.toNat).take (h.getD rows.length - l).toNat)[i]? = some row → rows[l.toNat + i]? = some row := fun i row hi => by
     rw [List.getElem?_take] at hi
     split at hi
     ·simpa using hi
     ·simp at hi
    suffices xe : aW E (.slice ((rows.drop l.toNat).take (h.getD rows.length - l).toNat)) (.slice (if cap = l.toNat then aa else aa.map (·.add (l.toNat * size))) ((rows.drop l.toNat).take (h.getD rows.length - l).toNat).length (cap - l.toNat)) by
     rw [hlen] at xe; exact xe
    refine .slice _ _ _ (cap - l.toNat) mW (ad.add (l.toNat * mW)) (fun i j => xf (l.toNat + i) j) (fun bL => ?_) (by rw [hlen]; omega) (fun i row hi => hz _ _ (hg i row hi))
     (fun i row j c hi hj => by rw [add_add, ← Nat.add_assoc, ← Nat.add_mul]; exact hF _ _ _ _ (hg i row hi) hj) (fun i row j c hi hj => jP _ _ _ _ (hg i row hi) hj) fun i row j c hi hj => hR _ _ _ _ (hg i row hi) hj
    have az : l.toNat < rows.length := by
     rcases Nat.lt_or_ge l.toNat rows.length with az | cH
     ·exact az
     ·exact absurd (by rw [List.drop_eq_nil_of_le cH]; simp) bL
    have Fh : rows ≠ [] := by rintro rfl; simp at az
    rw [if_neg (by omega), ha Fh]
    unfold ck at h3
    rw [List.getElem?_eq_getElem az] at h3
    simp only [beq_iff_eq] at h3
    rw [← h3, hz _ _ (List.getElem?_eq_getElem az)]
    rfl
  ·simp at hc
 ·rename_i b v s n
  split at hc
  ·rename_i hh
   obtain ⟨h0, h1, h2, h3⟩ := hh
   simp only [Option.some.injEq] at hc; subst hc
   cases hx with
   | dc =>
    refine ⟨none, 0, 0, rfl, h0, h1, h2, Nat.le_refl _, ?_⟩
    have e1 : l.toNat = 0 := by have : ((0 : Nat) : Int) = 0 := rfl; omega
    have e2 : (h.getD (0 : Nat) - l).toNat = 0 := by have : ((0 : Nat) : Int) = 0 := rfl; omega
    rw [e1, e2]
    exact .dc _ _ _ _
   | ms _ _ _ _ _ g e c aa cap hb hl Fg ue =>
    obtain rfl := xb hs h3 hb
    refine ⟨aa, n, cap, rfl, h0, h1, h2, ue.1, ?_⟩
    refine .ms _ _ _ _ _ g e c _ _ hb (fun hp => ?_) (fun hz => ?_) ⟨by omega, by omega, fun hp => by
     rw [if_neg (by omega), ue.2.2 (by omega)]
     simp only [Option.map_some,add_lit,← Nat.add_mul]⟩
    ·rw [if_neg (by omega), hl (by omega)]
     simp only [Option.map_some,add_lit,← Nat.add_mul]
    ·obtain ⟨h5, h6⟩ := Fg (by omega)
     have : l.toNat = 0 := by omega
     rw [this, h5]
     refine ⟨?_, by omega⟩
     split
     ·rfl
     ·simp [Addr.add]
  ·simp at hc
 ·simp at hc

theorem iN {P : Program} {tt : Table} (ht : TT P tt) {T e : TypeId} {size : Nat} (he : dw tt T = some e) (hz : iJ tt e = some size) (w : World) (aa : Option Addr) (len cap : Nat) (lo hi : Option Value)
  (l : Int) (h : Option Int) (kD : (lo = none ∧ l = 0) ∨ ∃ k, lo = some (.int k l)) (nV : (hi = none ∧ h = none) ∨ ∃ k n, hi = some (.int k n) ∧ h = some n)
  (h0 : 0 ≤ l) (h1 : l ≤ h.getD len) (h2 : h.getD len ≤ len) (h3 : len ≤ cap) :
  (Instr.sliceAt T (.slice aa len cap) lo hi none).run P w = .ok (.slice (if cap = l.toNat then aa else aa.map (·.add (l.toNat * size))) (h.getD len - l).toNat (cap - l.toNat)) w := by
 unfold dw at he
 unfold iJ at hz
 cases hT : tt T with
 | none => rw [hT] at he; simp at he
 | some iT =>
  rw [hT] at he; simp only at he
  cases hE : tt e with
  | none => rw [hE] at hz; simp at hz
  | some ie =>
   rw [hE] at hz; simp only [Option.some.injEq] at hz; subst hz
   obtain ⟨d, hd, -, kS, -⟩ := ht.desc T iT hT
   obtain rfl := kS e he
   have dQ : ∀ m : Int, (m - l).toNat = m.toNat - l.toNat := fun m => by omega
   rcases kD with ⟨rfl, rfl⟩ | ⟨k, rfl⟩ <;> rcases nV with ⟨rfl, rfl⟩ | ⟨k', n, rfl, rfl⟩ <;>
    simp only [Option.getD_some,Option.getD_none] at h1 h2 ⊢ <;>
    simp only [Instr.sliceAt,Instr.slice,Sem.run_bind,ao hd,Result.andThen_ok,Instr.sliceBounds,Instr.sliceBound,asIntOf,Sem.run_pure,ht.sizeOf hE,Option.isSome_none]
   ·simp
   ·rw [if_pos ⟨by omega, by omega⟩]; simp
   ·rw [if_pos ⟨by omega, by omega⟩]; simp; omega
   ·rw [if_pos ⟨by omega, by omega⟩]
    simp only [Sem.run_pure,Result.andThen_ok]
    rw [if_pos ⟨by omega, by omega⟩]
    simp; omega
end Go.Eng
end

section
namespace Go.Eng
variable [aE]

def dR (kind : TypeDesc) (k : Value) : List (Value × Nat × V) → Nat → Option (Option (Nat × V))
 | [], _ => some none
 | e :: r, i => match Instr.sameNow kind k e.1 with
  | some true => some (some (i, e.2.2))
  | some false => dR kind k r (i + 1)
  | none => none
def il (P : Program) (T : TypeId) (k : Value) : List (Value × Nat × V) → Nat → Option (Option (Nat × V))
 | [], _ => some none
 | e :: r, i => match aF P (Op.equal T k e.1) with
  | some true => some (some (i, e.2.2))
  | some false => il P T k r (i + 1)
  | none => none
def kE (P : Program) (T : TypeId) (k : Value) (bm : List (Value × Nat × V)) : Option (Option (Nat × V)) :=
 match P.underlying T with
 | some d => match dR d k bm 0 with
  | some r => some r
  | none => il P T k bm 0
 | none => none

def Found (E : Env) (bm : List (Value × Nat × V)) (es : List MapEntry) : Option (Nat × V) → Option (Nat × Value) → Prop
 | none, none => True
 | some (i, v), some (j, x) => i = j ∧ aW E v x ∧ ∃ kb e, bm[i]? = some kb ∧ es[i]? = some e ∧ kb.2.2 = v ∧ e.val = x
 | _, _ => False

theorem cx.get {E : Env} {bm : List (Value × Nat × V)} {es : List MapEntry} (h : cx E bm es) {i : Nat} {kb : Value × Nat × V} (hk : bm[i]? = some kb) : ∃ e, es[i]? = some e ∧ e.key = kb.1 ∧ e.born = kb.2.1 ∧ aW E kb.2.2 e.val := by
 have hi : i < es.length := by rw [← h.1]; exact (List.getElem?_eq_some_iff.1 hk).1
 exact ⟨es[i], List.getElem?_eq_getElem hi, h.2 i kb _ hk (List.getElem?_eq_getElem hi)⟩
theorem cx.drop {E : Env} {bm : List (Value × Nat × V)} {es : List MapEntry} (h : cx E bm es) (n : Nat) : cx E (bm.drop n) (es.drop n) :=
 ⟨by simp [h.1], fun i k e hk he => h.2 (n + i) k e (by simpa using hk) (by simpa using he)⟩
theorem cx.of_nil {E : Env} {es : List MapEntry} (h : cx E [] es) : es = [] := by have := h.1; simp at this; exact List.length_eq_zero_iff.1 this.symm
theorem cx.of_cons {E : Env} {k : Value × Nat × V} {r : List (Value × Nat × V)} {es : List MapEntry} (h : cx E (k :: r) es) : ∃ e es', es = e :: es' ∧ e.key = k.1 ∧ e.born = k.2.1 ∧ aW E k.2.2 e.val ∧ cx E r es' := by
 cases es with
 | nil => have := h.1; simp at this
 | cons e es' =>
  obtain ⟨h1, h2, h3⟩ := h.2 0 k e rfl rfl
  exact ⟨e, es', rfl, h1, h2, h3, by have := h.1; simpa using this, fun i k' e' hk he => h.2 (i + 1) k' e' (by simpa using hk) (by simpa using he)⟩

theorem rF {E : Env} {kind : TypeDesc} {k : Value} {bm : List (Value × Nat × V)} {es : List MapEntry} (h : cx E bm es) : ∀ (n : Nat) {r : Option (Nat × V)}, dR kind k (bm.drop n) n = some r →
  ∃ r', Instr.findNow kind k (es.drop n) n = some r' ∧ Found E bm es r r' := by
 intro n
 generalize hl : bm.length - n = m
 induction m generalizing n with
 | zero =>
  intro r hr
  have h1 : bm.drop n = [] := List.drop_eq_nil_of_le (by omega)
  have h2 : es.drop n = [] := List.drop_eq_nil_of_le (by have := h.1; omega)
  rw [h1] at hr; rw [h2]
  simp only [dR,Option.some.injEq] at hr; subst hr
  exact ⟨none, rfl, trivial⟩
 | succ m ih =>
  intro r hr
  have hn : n < bm.length := by omega
  have LF : n < es.length := by have := h.1; omega
  rw [List.drop_eq_getElem_cons hn] at hr
  rw [List.drop_eq_getElem_cons LF]
  have hk := List.getElem?_eq_getElem hn
  have he := List.getElem?_eq_getElem LF
  obtain ⟨h1, h2, h3⟩ := h.2 n _ _ hk he
  simp only [dR] at hr
  simp only [Instr.findNow,h1]
  split at hr
  ·rename_i hs; rw [hs]; simp only [Option.some.injEq] at hr; subst hr
   exact ⟨_, rfl, rfl, h3, _, _, hk, he, rfl, rfl⟩
  ·rename_i hs; rw [hs]; exact ih (n + 1) (by omega) hr
  ·cases hr
theorem tI {E : Env} {kind : TypeDesc} {k : Value} {bm : List (Value × Nat × V)} {es : List MapEntry} (h : cx E bm es) : ∀ (n : Nat), dR kind k (bm.drop n) n = none → Instr.findNow kind k (es.drop n) n = none := by
 intro n
 generalize hl : bm.length - n = m
 induction m generalizing n with
 | zero =>
  intro hr
  have h1 : bm.drop n = [] := List.drop_eq_nil_of_le (by omega)
  rw [h1] at hr
  simp [dR] at hr
 | succ m ih =>
  intro hr
  have hn : n < bm.length := by omega
  have LF : n < es.length := by have := h.1; omega
  rw [List.drop_eq_getElem_cons hn] at hr
  rw [List.drop_eq_getElem_cons LF]
  obtain ⟨h1, h2, h3⟩ := h.2 n _ _ (List.getElem?_eq_getElem hn) (List.getElem?_eq_getElem LF)
  simp only [dR] at hr
  simp only [Instr.findNow,h1]
  split at hr
  ·cases hr
  ·rename_i hs; rw [hs]; exact ih (n + 1) (by omega) hr
  ·rename_i hs; rw [hs]
theorem rG {P : Program} {E : Env} {T : TypeId} {k : Value} {bm : List (Value × Nat × V)} {es : List MapEntry} (h : cx E bm es) (w : World) : ∀ (n : Nat) {r : Option (Nat × V)}, il P T k (bm.drop n) n = some r →
  ∃ r', (Instr.findAsking T k (es.drop n) n).run P w = .ok r' w ∧ Found E bm es r r' := by
 intro n
 generalize hl : bm.length - n = m
 induction m generalizing n with
 | zero =>
  intro r hr
  have h1 : bm.drop n = [] := List.drop_eq_nil_of_le (by omega)
  have h2 : es.drop n = [] := List.drop_eq_nil_of_le (by have := h.1; omega)
  rw [h1] at hr; rw [h2]
  simp only [il,Option.some.injEq] at hr; subst hr
  exact ⟨none, rfl, trivial⟩
 | succ m ih =>
  intro r hr
  have hn : n < bm.length := by omega
  have LF : n < es.length := by have := h.1; omega
  rw [List.drop_eq_getElem_cons hn] at hr
  rw [List.drop_eq_getElem_cons LF]
  have hk := List.getElem?_eq_getElem hn
  have he := List.getElem?_eq_getElem LF
  obtain ⟨h1, h2, h3⟩ := h.2 n _ _ hk he
  simp only [il] at hr
  simp only [Instr.findAsking,h1,Sem.run_bind]
  split at hr
  ·rename_i hs; rw [cA _ hs w]; simp only [Option.some.injEq] at hr; subst hr
   exact ⟨_, rfl, rfl, h3, _, _, hk, he, rfl, rfl⟩
  ·rename_i hs; rw [cA _ hs w]
   simpa using ih (n + 1) (by omega) hr
  ·cases hr
theorem de {P : Program} {E : Env} {T : TypeId} {k : Value} {bm : List (Value × Nat × V)} {es : Array MapEntry} (h : cx E bm es.toList) (w : World) {r : Option (Nat × V)} (hr : kE P T k bm = some r) :
  ∃ r', (Instr.findKey T k es.toList).run P w = .ok r' w ∧ Found E bm es.toList r r' := by
 unfold kE at hr
 split at hr
 ·rename_i d hd
  simp only [Instr.findKey,Sem.run_bind,ao hd,Result.andThen_ok]
  split at hr
  ·rename_i r1 h1
   simp only [Option.some.injEq] at hr; subst hr
   obtain ⟨r', h2, h3⟩ := rF h 0 (r := r1) (by simpa using h1)
   simp only [List.drop_zero] at h2
   rw [h2]
   exact ⟨r', rfl, h3⟩
  ·rename_i h1
   have h2 := tI h 0 (by simpa using h1)
   simp only [List.drop_zero] at h2
   rw [h2]
   simpa using rG h w 0 (r := r) (by simpa using hr)
 ·cases hr

def mJ (P : Program) (T : TypeId) (k : Value) : Bool :=
 match P.underlying T with
 | some (.int _) => true
 | some .string => true
 | some .bool => true
 | _ => match aF P (Instr.checkKey false 10000 T k), aF P (Instr.checkKey true 10000 T k) with
  | some _, some _ => true
  | _, _ => false
theorem iO {P : Program} {T : TypeId} {k : Value} (h : mJ P T k = true) (b : Bool) (w : World) : (Instr.checkKey b 10000 T k).run P w = .ok () w := by
 unfold mJ at h
 have MQ : ∀ d, P.underlying T = some d → (∀ m, d ≠ .interface m) → (∀ n e, d ≠ .array n e) → (∀ fs, d ≠ .struct fs) → (Instr.checkKey b 10000 T k).run P w = .ok () w := by
  intro d hd h1 h2 h3
  show (Instr.checkKey b (9999 + 1) T k).run P w = _
  rw [Instr.checkKey]
  simp only [Sem.run_bind,ao hd,Result.andThen_ok]
  cases d <;> first | (cases k <;> rfl) | exact absurd rfl (h1 _) | exact absurd rfl (h2 _ _) | exact absurd rfl (h3 _)
 split at h
 ·rename_i hd; exact MQ _ hd (by simp) (by simp) (by simp)
 ·rename_i hd; exact MQ _ hd (by simp) (by simp) (by simp)
 ·rename_i hd; exact MQ _ hd (by simp) (by simp) (by simp)
 ·split at h
  ·rename_i h1 h2
   cases b
   ·exact cA _ h1 w
   ·exact cA _ h2 w
  ·cases h

def zeroV (P : Program) (T : TypeId) : Option V :=
 match P.info? T with
 | some i => match i.zero with | some z => some (dF z) | none => none
 | none => none
theorem kV {P : Program} {T : TypeId} {v : V} (h : zeroV P T = some v) (E : Env) (w : World) : ∃ z, (zeroValue T).run P w = .ok z w ∧ aW E v z := by
 unfold zeroV at h
 split at h
 ·rename_i i hi
  split at h
  ·rename_i z hz
   cases h
   exact ⟨z, by simp [zeroValue, cE hi, hz], ft E z⟩
  ·cases h
 ·cases h
def cQ (P : Program) (T : TypeId) : Option (TypeId × TypeId) := match P.underlying T with | some (.map k e) => some (k, e) | _ => none
theorem eZ {P : Program} {T kt et : TypeId} (h : cQ P T = some (kt, et)) : P.underlying T = some (.map kt et) := by
 unfold cQ at h
 split at h
 ·rename_i hd; cases h; exact hd
 ·cases h

def P6 (ok b : Bool) (v : V) : V := if ok = true then .bP [v, .sc (.bool b)] else v
theorem vj {E : Env} {v : V} {x : Value} (h : aW E v x) (ok b : Bool) : aW E (P6 ok b v) (if ok = true then .tuple #[x, .bool b] else x) := by
 unfold P6
 split
 ·refine .bP _ _ _ rfl fun i c y hc hy => ?_
  match i with
  | 0 => simp at hc hy; subst hc; subst hy; exact h
  | 1 => simp at hc hy; subst hc; subst hy; exact .sc _ _
  | i + 2 => simp at hc
 ·exact h
def nW (P : Program) (mem : List aw) (kt et : TypeId) (m : V) (key : Value) (ok : Bool) : Option V :=
 match m with
 | .mp b => match mem[b]? with
  | some (.map bm _) => match kE P kt key bm with
   | some (some (_, v)) => some (P6 ok true v)
   | some none => match zeroV P et with | some z => some (P6 ok false z) | none => none
   | none => none
  | _ => none
 | .sc (.map none) => match kE P kt key [] with
  | some none => match zeroV P et with | some z => some (P6 ok false z) | none => none
  | _ => none
 | _ => none
def df (P : Program) (mem : List aw) (T : TypeId) (m i : V) (ok : Bool) : Option V :=
 match cQ P T with
 | some (kt, et) => match bw i with
  | some key => if mJ P kt key = true then nW P mem kt et m key ok else none
  | none => none
 | none => none

theorem mX {E : Env} {b : Nat} {x : Value} (h : aW E (.mp b) x) : ∃ g e c, x = .map (some g) ∧ E.aK b 0 = some (g, e, c) := by
 cases h with | mp _ _ l e c hb => exact ⟨l, e, c, rfl, hb⟩
theorem gr {E : Env} {w : World} {a : Act} {st : St} (hs : aZ E w a st) {b : Nat} {bm : List (Value × Nat × V)} {clock : Nat} (hm : st.mem[b]? = some (.map bm clock)) {g e c : Nat} (hb : E.aK b 0 = some (g, e, c)) :
  ∃ es, w.heap[g]? = some (.map es clock) ∧ cx E bm es.toList ∧ (∀ o, E.F ⟨g, o, none⟩ = none) ∧ (e, c) = (0, 0) := by
 obtain ⟨g', es, h1, h2, h3, h4⟩ := hs.mem b _ hm
 rw [hb] at h1; cases h1
 exact ⟨es, h2, h3, h4, rfl⟩
theorem cf {P : Program} {w : World} {g : Nat} {es : Array MapEntry} {clock : Nat} (h : w.heap[g]? = some (.map es clock)) : (getObj g).run P w = .ok (.map es clock) w := by simp [getObj, Sem.run, h]
theorem dK {P : Program} {w : World} {g : Nat} {o o' : Obj} (h : w.heap[g]? = some o) (hc : ∀ a b c, o ≠ .cells a b c) : (setObj g o').run P w = .ok () { w with heap := w.heap.setIfInBounds g o' } := by
 unfold setObj
 rw [Sem.run, h]
 cases o <;> first | rfl | exact absurd rfl (hc _ _ _)

theorem lX {E : Env} {v y : Value} (h : aW E (.sc v) y) : y = v := by cases h; rfl
theorem tJ {P : Program} {E : Env} {w : World} {a : Act} {st : St} (hs : aZ E w a st) {T : TypeId} {m i v : V} {ok : Bool} {x y : Value} (hm : aW E m x) (hi : aW E i y) (h : df P st.mem T m i ok = some v) :
  ∃ z, (Instr.lookup T x y ok).run P w = .ok z w ∧ aW E v z := by
 unfold df at h
 split at h
 ·rename_i kt et hd
  have hd := eZ hd
  split at h
  ·rename_i key ca
   cases eK hi ca
   split at h
   ·rename_i bK
    have EW := fun b => iO bK b w
    unfold nW at h
    split at h
    ·rename_i b
     obtain ⟨g, e, c, rfl, hb⟩ := mX hm
     split at h
     ·rename_i bm clock hB
      obtain ⟨es, hh, hr, -⟩ := gr hs hB hb
      split at h
      ·rename_i j u hf
       obtain ⟨r', h1, h2⟩ := de hr w hf
       match r', h2 with
       | some (j', z), h2 =>
        cases h
        exact ⟨_, by simp [Instr.lookup, ao hd, cf hh, EW, h1], vj h2.2.1 ok true⟩
      ·rename_i hf
       obtain ⟨r', h1, h2⟩ := de hr w hf
       match r', h2 with
       | none, h2 =>
        split at h
        ·rename_i z hz
         cases h
         obtain ⟨z', h3, h4⟩ := kV hz E w
         exact ⟨_, by simp [Instr.lookup, ao hd, cf hh, EW, h1, h3], vj h4 ok false⟩
        ·cases h
      ·cases h
     ·cases h
    ·obtain rfl := lX hm
     split at h
     ·rename_i hf
      obtain ⟨r', h1, h2⟩ := de (E := E) (es := #[]) ⟨rfl, fun i k e h => by simp at h⟩ w hf
      match r', h2 with
      | none, h2 =>
       split at h
       ·rename_i z hz
        cases h
        obtain ⟨z', h3, h4⟩ := kV hz E w
        exact ⟨_, by simp at h1; simp [Instr.lookup, ao hd, EW, h1, h3], vj h4 ok false⟩
       ·cases h
     ·cases h
    ·cases h
   ·cases h
  ·cases h
 ·cases h
def nX (mem : List aw) (ts : Array TypeId) (P : Program) : List V → Option V
 | [.mp b] => match mem[b]? with
  | some (.map bm _) => match ts[0]? with
   | some T => match cQ P T with | some _ => some (.sc (.int .i64 bm.length)) | none => none
   | none => none
  | _ => none
 | _ => none
theorem zL {P : Program} {E : Env} {w : World} {a : Act} {st : St} (hs : aZ E w a st) {ts : Array TypeId} {ty : TypeId} {xs : List V} {v : V} {ys : Array Value} (hx : aP E xs ys.toList) (h : nX st.mem ts P xs = some v) :
  ∃ z, (Builtin.len_ ts ty ys).run P w = .ok z w ∧ aW E v z := by
 unfold nX at h
 split at h
 ·rename_i b
  split at h
  ·rename_i bm clock hB
   split at h
   ·rename_i T h0
    split at h
    ·rename_i p hp
     cases h
     obtain ⟨kt, et⟩ := p
     have hd := eZ hp
     obtain ⟨x, r, hy, h1, h2⟩ := hx.of_cons
     have := h2.of_nil; subst this
     obtain rfl : ys = #[x] := by rw [← Array.toArray_toList (xs := ys), hy]
     obtain ⟨g, e, c, rfl, hb⟩ := mX h1
     obtain ⟨es, hh, hr, -⟩ := gr hs hB hb
     refine ⟨.int .i64 es.size, by simp [Builtin.len_, h0, ao hd, cf hh, goInt], ?_⟩
     have : bm.length = es.size := by simpa using hr.1
     rw [this]; exact .sc _ _
    ·cases h
   ·cases h
  ·cases h
 ·cases h
def Dm (mem : List aw) (it : V) : Option V :=
 match it with
 | .ptr b 0 => match mem[b]? with
  | some (.eh m _ seen last) => match mem[m]? with
   | some (.map bm clock) => if clock = last then (match seen.getLast? with
    | some xg => match bm.find? (fun e => e.2.1 == xg) with
     | some e => some (.bP [dF e.1, e.2.2])
     | none => none
    | none => none) else none
   | _ => none
  | _ => none
 | _ => none
theorem cx.find {E : Env} (p : Nat → Bool) : ∀ {bm : List (Value × Nat × V)} {es : List MapEntry} {k : Value × Nat × V}, cx E bm es → bm.find? (fun e => p e.2.1) = some k → ∃ e, es.find? (fun e => p e.born) = some e ∧ e.key = k.1 ∧ aW E k.2.2 e.val
 | [], es, k, h, hf => by simp at hf
 | c :: r, es, k, h, hf => by
  obtain ⟨e, es', rfl, h1, h2, h3, h4⟩ := h.of_cons
  rw [List.find?_cons] at hf ⊢
  rw [h2]
  split at hf
  ·rename_i hp; cases hf; exact ⟨e, rfl, h1, h3⟩
  ·exact cx.find p h4 hf
theorem zM {P : Program} {E : Env} {w : World} {a : Act} {st : St} (hs : aZ E w a st) {it v : V} {x : Value} (hi : aW E it x) (h : Dm st.mem it = some v) : ∃ z, (Instr.entry x).run P w = .ok z w ∧ aW E v z := by
 unfold Dm at h
 split at h
 ·rename_i b
  split at h
  ·rename_i m since seen last hB
   split at h
   ·rename_i bm clock hM
    split at h
    ·rename_i jo
     split at h
     ·rename_i xg gR
      split at h
      ·rename_i e he
       cases h
       obtain ⟨g, gm, em, cm, hb, IE, hh, hf⟩ := hs.mem b _ hB
       obtain ⟨es, Uo, hr, XW, h0⟩ := gr hs hM IE
       cases hi with
       | ptr _ _ _ g' e' c' eN =>
       rw [hb] at eN; cases eN
       have eR : (getObj g).run P w = .ok (.mapIter (some gm) since seen.toArray last) w := by simp [getObj, Sem.run, hh]
       obtain ⟨en, h1, h2, h3⟩ := cx.find (fun n => n == xg) hr he
       have QH : seen.toArray.back? = some xg := by simpa using gR
       have Fi : es.find? (fun e => e.born == xg) = some en := by
        rw [← List.find?_toArray, Array.toArray_toList] at h1; exact h1
       refine ⟨.tuple #[en.key, en.val], ?_, ?_⟩
       ·subst jo
        simp only [Instr.entry,Sem.run_bind,eR,Result.andThen_ok,QH,cf Uo,bne_self_eq_false,Bool.false_eq_true,if_false,Fi]
        rfl
       ·refine .bP _ _ _ rfl fun i c y hc hy => ?_
        match i with
        | 0 => simp at hc hy; subst hc; subst hy; rw [h2]; exact ft E _
        | 1 => simp at hc hy; subst hc; subst hy; exact h3
        | i + 2 => simp at hc
      ·cases h
     ·cases h
    ·cases h
   ·cases h
  ·cases h
 ·cases h
end Go.Eng
end

section
namespace Go.Eng
variable [aE]

theorem bZ {E : Env} {v y : Value} (h : aW E (.sc v) y) : y = v := by cases h; rfl

theorem zN {P : Program} {tt : Table} (ht : TT P tt) {E : Env} {w : World} {a : Act} {st : St} (hs : aZ E w a st) {T : TypeId} {x v : V} {lo hi : Option Operand} {y : Value} (hx : aW E x y)
  (h : rE P tt st.mem T x (lo.map st.eval) (hi.map st.eval) = some v) : ∃ z, (Instr.sliceAt T y (lo.map a.eval) (hi.map a.eval) none).run P w = .ok z w ∧ aW E v z := by
 unfold rE at h
 split at h
 ·cases lo with
  | none =>
   cases hi with
   | none => exact kT hx h
   | some hi => exact gz (f := fun a h => Instr.sliceAt T a none (some h) none) hx (hs.eval hi) h
  | some lo =>
   cases hi with
   | none => exact gz (f := fun a l => Instr.sliceAt T a (some l) none none) hx (hs.eval lo) h
   | some hi =>
    simp only [Option.map_some] at h ⊢
    split at h
    ·rename_i hv Tz
     rw [eK (hs.eval hi) Tz]
     exact gz (f := fun a l => Instr.sliceAt T a (some l) (some hv) none) hx (hs.eval lo) h
    ·simp at h
 ·split at h
  ·simp at h
  ·rename_i e he
   split at h
   ·simp at h
   ·rename_i size hz
    cases lo with
    | none =>
     cases hi with
     | none =>
      obtain ⟨aa, len, cap, rfl, h0, h1, h2, h3, hr⟩ := iM hs hx h
      exact ⟨_, iN ht he hz w aa len cap none none 0 none (.inl ⟨rfl, rfl⟩) (.inl ⟨rfl, rfl⟩) h0 h1 h2 h3, hr⟩
     | some hi =>
      simp only [Option.map_some,Option.map_none] at h ⊢
      split at h
      ·rename_i n hn
       obtain ⟨k, hk⟩ := kU (hs.eval hi) hn
       obtain ⟨aa, len, cap, rfl, h0, h1, h2, h3, hr⟩ := iM hs hx h
       exact ⟨_, iN ht he hz w aa len cap none _ 0 (some n) (.inl ⟨rfl, rfl⟩) (.inr ⟨k, n, by rw [hk], rfl⟩) h0 h1 h2 h3, hr⟩
      ·simp at h
    | some lo =>
     simp only [Option.map_some] at h ⊢
     split at h
     ·simp at h
     ·rename_i l hl
      obtain ⟨k, hk⟩ := kU (hs.eval lo) hl
      cases hi with
      | none =>
       simp only [Option.map_none] at h ⊢
       obtain ⟨aa, len, cap, rfl, h0, h1, h2, h3, hr⟩ := iM hs hx h
       exact ⟨_, iN ht he hz w aa len cap _ none l none (.inr ⟨k, by rw [hk]⟩) (.inl ⟨rfl, rfl⟩) h0 h1 h2 h3, hr⟩
      | some hi =>
       simp only [Option.map_some] at h ⊢
       split at h
       ·rename_i n hn
        obtain ⟨k', eP⟩ := kU (hs.eval hi) hn
        obtain ⟨aa, len, cap, rfl, h0, h1, h2, h3, hr⟩ := iM hs hx h
        exact ⟨_, iN ht he hz w aa len cap _ _ l (some n) (.inr ⟨k, by rw [hk]⟩) (.inr ⟨k', n, by rw [eP], rfl⟩) h0 h1 h2 h3, hr⟩
       ·simp at h

def iZ : List V → Option (List Value)
 | [] => some []
 | v :: r => match bw v with
  | some x => match iZ r with | some l => some (x :: l) | none => none
  | none => none
theorem mY {E : Env} : ∀ {vs : List V} {xs l : List Value}, aP E vs xs → iZ vs = some l → xs = l
 | [], xs, l, h, hl => by simp [iZ] at hl; subst hl; exact h.of_nil
 | v :: vs, xs, l, h, hl => by
  obtain ⟨x, ys, rfl, h1, h2⟩ := h.of_cons
  simp only [iZ] at hl
  split at hl
  ·rename_i x' EV
   split at hl
   ·rename_i l' MN
    simp only [Option.some.injEq] at hl; subst hl
    rw [eK h1 EV, mY h2 MN]
   ·simp at hl
  ·simp at hl

def cI (P : Program) (f : Array Value → Sem Value) (xs : List V) : Option V :=
 match iZ xs with
 | some l => match aF P (f l.toArray) with | some v => some (dF v) | none => none
 | none => none

theorem aZ.jq {E : Env} {w : World} {a : Act} {st : St} (hs : aZ E w a st) (xs : Array Operand) : aP E (xs.toList.map st.eval) (xs.map a.eval).toList := by
 refine ⟨by simp, fun i v x hv hx => ?_⟩
 simp only [List.getElem?_map,Array.toList_map,Option.map_eq_some_iff] at hv hx
 obtain ⟨o, ho, rfl⟩ := hv
 obtain ⟨o', LG, rfl⟩ := hx
 rw [ho] at LG; cases LG
 exact hs.eval o

def qL (P : Program) (tt : Table) (ts : Array TypeId) (ty : TypeId) : List V → Option V
 | [.slice rows] => match ts[0]? with
  | some t => match dw tt t with | some _ => some (.sc (.int .i64 rows.length)) | none => none
  | none => none
 | [.ms _ _ _ l] => match ts[0]? with
  | some t => match dw tt t with | some _ => some (.sc (.int .i64 l)) | none => none
  | none => none
 | xs => cI P (Builtin.len_ ts ty) xs

def WY (tt : Table) (S : TypeId) (f : Nat) (T : TypeId) (x : V) : Option V :=
 match x with
 | .agg cs => match I2 tt S f with
  | some off => dv tt T (cs.drop off)
  | none => none
 | _ => none

def Dn (k : Int) : Bool := match aE.κ k with | some b => b | none => decide (k ≤ aE.n)
theorem vk (k : Int) : Dn k = decide (k ≤ aE.n) := by
 unfold Dn
 split
 ·rename_i b h; exact (aE.ok k b h).symm
 ·rfl
def BN (op : BinOp) (x y : V) : Option V :=
 match y with
 | .gn => match op, x with
  | .leq, .sc (.int .i64 k) => some (.sc (.bool (Dn k)))
  | .gtr, .sc (.int .i64 k) => some (.sc (.bool (!Dn k)))
  | _, _ => none
 | _ => none
theorem xh {P : Program} {E : Env} {w : World} {op : BinOp} {T : TypeId} {x y v : V} {a b : Value} (xo yo : Operand) (hx : aW E x a) (hy : aW E y b) (h : BN op x y = some v) :
  ∃ z, (do eqGuard op T xo yo a b; binOp op T a b : Sem Value).run P w = .ok z w ∧ aW E v z := by
 unfold BN at h
 split at h
 ·cases hy
  split at h
  ·rename_i k
   cases h
   cases hx
   refine ⟨.bool (decide (k ≤ aE.n)), by simp [binOp, Op.intCmp, eqGuard], by rw [vk]; exact .sc _ _⟩
  ·rename_i k
   cases h
   cases hx
   refine ⟨.bool (decide (k > aE.n)), by simp [binOp, Op.intCmp, eqGuard], ?_⟩
   have : (!Dn k) = decide (k > aE.n) := by
    rw [vk]
    by_cases h : k ≤ aE.n
    ·rw [decide_eq_true h, decide_eq_false (by omega)]; rfl
    ·rw [decide_eq_false h, decide_eq_true (by omega)]; rfl
   rw [this]; exact .sc _ _
  ·cases h
 ·cases h
def o4 (P : Program) (op : BinOp) (T : TypeId) (y : V) : Option V :=
 match y with
 | .sc (.pointer none) => match P.underlying T with
  | some (.pointer _) => match op with
   | .eql => some (.sc (.bool false))
   | .neq => some (.sc (.bool true))
   | _ => none
  | _ => none
 | _ => none
def vl (P : Program) (op : BinOp) (T : TypeId) (x y : V) : Option V :=
 match x with
 | .cj _ => o4 P op T y
 | .ptr _ _ => o4 P op T y
 | .da _ _ _ _ => o4 P op T y
 | _ => none
theorem vm {P : Program} {E : Env} {w : World} {op : BinOp} {T : TypeId} {x y v : V} {a b : Value} (xo yo : Operand) (hx : aW E x a) (hy : aW E y b) (h : vl P op T x y = some v) :
  ∃ z, (do eqGuard op T xo yo a b; binOp op T a b : Sem Value).run P w = .ok z w ∧ aW E v z := by
 have key : ∀ ad : Addr, a = .pointer (some ad) → o4 P op T y = some v → ∃ z, (do eqGuard op T xo yo a b; binOp op T a b : Sem Value).run P w = .ok z w ∧ aW E v z := by
  rintro ad rfl h
  unfold o4 at h
  split at h
  ·split at h
   ·rename_i e hT
    cases hy
    have he : (Op.equal T (.pointer (some ad)) (.pointer none)).run P w = .ok false w := by
     show (Op.equalIn (9999 + 1) T _ _).run P w = _
     unfold Op.equalIn
     simp [ao hT]
    split at h
    ·cases h
     exact ⟨.bool false, by simp [binOp, eqGuard, he], .sc _ _⟩
    ·cases h
     exact ⟨.bool true, by simp [binOp, eqGuard, he], .sc _ _⟩
    ·cases h
   ·cases h
  ·cases h
 unfold vl at h
 split at h
 ·cases hx with
  | cj _ _ ad xf hF hR => exact key ad rfl h
 ·cases hx with
  | ptr _ _ _ g e c hb => exact key _ rfl h
 ·cases hx with
  | da _ _ _ _ _ g e c hb => exact key _ rfl h
 ·cases h
def ez : List V → Option (List Int)
 | [] => some []
 | .sc (.int .u8 n) :: r => match ez r with | some l => some (n :: l) | none => none
 | _ => none
def ja (P : Program) (s d : TypeId) (rows : List V) : Option V :=
 match P.underlying s with
 | some (.slice e) => match P.underlying e with
  | some (.int .u8) => match P.underlying d with
   | some .string => match ez rows with | some ns => some (.sc (.string (strOfNums ns))) | none => none
   | _ => none
  | _ => none
 | _ => none
def kF (P : Program) (mem : List aw) (s d : TypeId) : V → Option V
 | .slice rows => ja P s d rows
 | .ms b v o l => match mem[b]? with
  | some (.rows v' e rs) => if v' = v ∧ e = 1 ∧ o + l ≤ rs.length then ja P s d ((rs.drop o).take l) else none
  | some (.mv v' e rs) => if v' = v ∧ e = 1 ∧ o + l ≤ rs.length then ja P s d ((rs.drop o).take l) else none
  | _ => none
 | x => mI P (convert s d) x
theorem Fj (P : Program) (mem : List aw) (s d : TypeId) (x : Value) : kF P mem s d (.sc x) = mI P (convert s d) (.sc x) := rfl
theorem xi {P : Program} {mem : List aw} {s d e : TypeId} {rows : List V} {ns : List Int} (hs : P.underlying s = some (.slice e)) (he : P.underlying e = some (.int .u8)) (hd : P.underlying d = some .string) (hb : ez rows = some ns) :
  kF P mem s d (.slice rows) = some (.sc (.string (strOfNums ns))) := by simp only [kF,ja,hs,he,hd,hb]
theorem kG : ∀ {rows : List V} {ns : List Int}, ez rows = some ns → ns.length = rows.length
 | [], ns, h => by simp [ez] at h; subst h; rfl
 | r :: rs, ns, h => by
  unfold ez at h
  split at h
  ·rename_i heq; exact absurd heq (by simp)
  ·rename_i n l heq
   cases heq
   split at h
   ·rename_i l' hl
    cases h
    simp [kG hl]
   ·cases h
  ·cases h
theorem gU : ∀ {rows : List V} {ns : List Int}, ez rows = some ns → ∀ (i : Nat) (r : V), rows[i]? = some r → r = .sc (.int .u8 (ns.getD i 0))
 | [], ns, h, i, r, hr => by simp at hr
 | r0 :: rs, ns, h, i, r, hr => by
  unfold ez at h
  split at h
  ·rename_i heq; exact absurd heq (by simp)
  ·rename_i n l heq
   cases heq
   split at h
   ·rename_i l' hl
    cases h
    cases i with
    | zero => simp at hr; subst hr; rfl
    | succ i => exact gU hl i r (by simpa using hr)
   ·cases h
  ·cases h
theorem jQ {P : Program} {w : World} {E : Env} {s d : TypeId} {rows : List V} {v : V} {aa : Option Addr} {cap : Nat} (h : ja P s d rows = some v) (hn : rows ≠ [] → ∃ g o, aa = some ⟨g, o, none⟩ ∧ ∀ (i : Nat) (r : V), rows[i]? = some r → ∃ x, w.cell? ⟨g, o + i, none⟩ = some x ∧ aW E r x) :
  ∃ y, (convert s d (.slice aa rows.length cap)).run P w = .ok y w ∧ aW E v y := by
 unfold ja at h
 split at h
 ·rename_i e hs
  split at h
  ·rename_i he
   split at h
   ·rename_i hd
    split at h
    ·rename_i ns hb
     cases h
     refine ⟨_, ?_, .sc _ _⟩
     have hl := kG hb
     cases rows with
     | nil =>
      have : ns = [] := List.length_eq_zero_iff.1 hl
      subst this
      rw [run_convert_bytes_string w s d e aa _ cap hs he hd]
      cases aa with
      | none => simp [Conv.bytesToString]; rfl
      | some a0 =>
       have := run_bytesToString (P := P) w a0 0 cap [] (by simp [loadCells, loadCellsFrom])
       have e0 : strOfNums [] = ByteArray.empty := rfl
       rw [e0]
       simpa using this
     | cons r0 rr =>
      obtain ⟨g, o, rfl, hc⟩ := hn (by simp)
      refine run_convert_bytes_arg w s e hs he g o _ cap ns hl (fun i hi => ?_) d hd
      obtain ⟨x, hx, hr⟩ := hc i _ (List.getElem?_eq_getElem hi)
      rw [hx, gU hb i _ (List.getElem?_eq_getElem hi)] at *
      rw [bZ hr]
    ·cases h
   ·cases h
  ·cases h
 ·cases h
theorem qd {P : Program} {s d : TypeId} {rows : List V} {v : V} (h : ja P s d rows = some v) : ∃ ns, ez rows = some ns := by
 unfold ja at h
 split at h
 ·split at h
  ·split at h
   ·split at h
    ·rename_i ns hb; exact ⟨ns, hb⟩
    ·cases h
   ·cases h
  ·cases h
 ·cases h
theorem Dp {w : World} {ad : Addr} {x : Value} (h : w.cell? ad = some x) : ad.spot = none := by
 unfold World.cell? at h
 split at h
 ·split at h
  ·simp at h
  ·rename_i h1; cases hs : ad.spot with | none => rfl | some s => simp [hs] at h1
 ·simp at h
theorem xj {P : Program} {E : Env} {w : World} {a : Act} {st : St} (hs : aZ E w a st) {s d : TypeId} {x v : V} {y : Value} (hx : aW E x y) (h : kF P st.mem s d x = some v) : ∃ z, (convert s d y).run P w = .ok z w ∧ aW E v z := by
 have ms : ∀ (b v' o l e : Nat) (rs : List V), aW E (.ms b v' o l) y → e = 1 → o + l ≤ rs.length → (∀ g e' c, E.aK b v' = some (g, e', c) → e' = e ∧ fu E.pure e rs (fun k => w.cell? ⟨g, k, none⟩)) →
   ja P s d ((rs.drop o).take l) = some v → ∃ z, (convert s d y).run P w = .ok z w ∧ aW E v z := by
  intro b v' o l e rs hr he hl ff hb
  obtain ⟨ns, Up⟩ := qd hb
  have hlen : ((rs.drop o).take l).length = l := by simp; omega
  cases hr with
  | dc =>
   have h0 : (rs.drop o).take 0 = [] := List.take_zero
   rw [h0] at hb
   exact jQ (aa := none) (cap := 0) (w := w) (E := E) hb (fun bL => absurd rfl bL)
  | ms _ _ _ _ _ g e' c aa cap dS LH Fg ue =>
   have eN := hb
   rw [← hlen]
   refine jQ hb fun bL => ?_
   have QI : 0 < l := by
    rcases Nat.eq_zero_or_pos l with h0 | h0
    ·subst h0; exact absurd List.take_zero bL
    ·exact h0
   obtain ⟨XX, MR⟩ := ff g e' c dS
   subst he
   subst XX
   refine ⟨g, o * 1, LH QI, fun i r hi => ?_⟩
   have TA : rs[o + i]? = some r := by
    rw [List.getElem?_take] at hi
    split at hi
    ·simpa using hi
    ·simp at hi
   obtain ⟨-, h2⟩ := MR _ r TA
   have zO := gU Up i r hi
   obtain ⟨x, hx, -, EX⟩ := h2 0 r (by rw [zO]; rfl)
   refine ⟨x, ?_, EX.mono (Env.lW E)⟩
   have : (o + i) * 1 + 0 = o * 1 + i := by omega
   rw [← this]; exact hx
 unfold kF at h
 split at h
 ·rename_i rows
  obtain ⟨ns, Up⟩ := qd h
  cases hx with
  | slice _ _ aa cap mW ad xf ha gQ hz hF jP hR =>
   refine jQ h fun bL => ?_
   have key : ∀ (i : Nat) (r : V), rows[i]? = some r → ∃ x, w.cell? (ad.add i) = some x ∧ aW E r x := fun i r hi => by
    have zO := gU Up i r hi
    have hc : r.cells = [r] := by rw [zO]; rfl
    have he : mW = 1 := by rw [← hz i r hi, hc]; rfl
    have h1 := hF i r 0 r hi (by rw [hc]; rfl)
    have h2 := hR i r 0 r hi (by rw [hc]; rfl)
    rw [he, Nat.mul_one, Nat.add_zero] at h1
    exact ⟨_, hs.F _ _ h1, h2.mono (Env.lW E)⟩
   obtain ⟨r0, h0⟩ : ∃ r0, rows[0]? = some r0 := by
    cases rows with
    | nil => exact absurd rfl bL
    | cons r0 rr => exact ⟨r0, rfl⟩
   obtain ⟨x0, nY, -⟩ := key 0 r0 h0
   have QJ : ad.add 0 = ad := by simp [Addr.add]
   have tE := Dp nY
   rw [QJ] at tE
   obtain ⟨g, o, sp⟩ := ad
   obtain rfl : sp = none := tE
   refine ⟨g, o, ha bL, fun i r hi => ?_⟩
   obtain ⟨x, hx, hr⟩ := key i r hi
   exact ⟨x, by rw [← hx]; congr 1; unfold Addr.add; by_cases h0 : i = 0 <;> simp [h0], hr⟩
 ·rename_i b v' o l
  split at h
  ·rename_i v1 e rs hm
   split at h
   ·rename_i hc
    obtain ⟨rfl, rfl, hl⟩ := hc
    refine ms b v1 o l 1 rs hx rfl hl (fun g e' c dS => ?_) h
    rcases hs.mem b _ hm with ⟨I3, hn⟩ | ⟨g', T, xs, c', eN, hh, -, -, ff, -⟩
    ·rw [hn] at dS; cases dS
    ·rw [eN] at dS; cases dS
     refine ⟨rfl, fun i row hi => ?_⟩
     obtain ⟨h1, h2⟩ := ff i row hi
     refine ⟨h1, fun j cc hj => ?_⟩
     obtain ⟨x, hx, h3⟩ := h2 j cc hj
     exact ⟨x, (iL hh _).trans hx, h3⟩
   ·cases h
  ·rename_i v1 e rs hm
   split at h
   ·rename_i hc
    obtain ⟨rfl, rfl, hl⟩ := hc
    refine ms b v1 o l 1 rs hx rfl hl (fun g e' c dS => ?_) h
    rcases hs.mem b _ hm with ⟨I3, hn⟩ | ⟨g', c', eN, -, ff⟩
    ·rw [hn] at dS; cases dS
    ·rw [eN] at dS; cases dS
     refine ⟨rfl, fun i row hi => ?_⟩
     obtain ⟨h1, h2⟩ := ff i row hi
     refine ⟨h1, fun j cc hj => ?_⟩
     obtain ⟨x, hx, h3⟩ := h2 j cc hj
     exact ⟨x, hs.F _ _ hx, h3⟩
   ·cases h
  ·cases h
 ·exact kT hx h
def fI (op : BinOp) (T : TypeId) (x y : Operand) : Value → Value → Sem Value := fun u v => do eqGuard op T x y u v; binOp op T u v
def rH (P : Program) (tt : Table) (T : TypeId) (x i : V) : Option V :=
 match x with
 | .ptr b o => match i with
  | .sc (.int _ n) => match P.underlying T with
   | some (.array len e) => match iJ tt e with
    | some size => if 0 ≤ n ∧ n < len then some (.ptr b (o + n.toNat * size)) else none
    | none => none
   | _ => none
  | _ => none
 | _ => none
theorem xk {P : Program} {tt : Table} (ht : TT P tt) {E : Env} {T : TypeId} {p i v : V} {x y : Value} (hp : aW E p x) (hi : aW E i y) (h : rH P tt T p i = some v) (w : World) :
  ∃ z, (Instr.indexAt T x y).run P w = .ok z w ∧ aW E v z := by
 unfold rH iJ at h
 split at h
 ·rename_i b o
  split at h
  ·rename_i k n
   split at h
   ·rename_i len e hd
    cases hE : tt e with
    | none => rw [hE] at h; simp at h
    | some ie =>
     rw [hE] at h; simp only at h
     split at h
     ·rename_i h0
      cases h
      cases hi with
      | sc =>
      cases hp with
      | ptr _ _ _ g e' c hb =>
      refine ⟨.pointer (some ⟨g, o + n.toNat * ie.size, none⟩), ?_, .ptr _ _ _ g e' c hb⟩
      simp [Instr.indexAt, asIntOf, ao hd, Instr.sureAddr, ht.sizeOf hE, h0, add_lit]
     ·cases h
   ·cases h
  ·cases h
 ·cases h
def LI (rows : List V) : Bool → V
 | true => .full rows
 | false => .slice rows
def BO (tt : Table) (T : TypeId) (x h m : V) : Option V :=
 match x with
 | .slice rows => match xd h with
  | some a => match xd m with
   | some b => match dw tt T with
    | some e => match iJ tt e with
     | some _ => if 0 ≤ a ∧ a ≤ b ∧ b ≤ rows.length then some (LI (rows.take a.toNat) (decide (a = b))) else none
     | none => none
    | none => none
   | none => none
  | none => none
 | _ => none
theorem xl {P : Program} {tt : Table} (ht : TT P tt) {E : Env} {T : TypeId} {x h m v : V} {y z u : Value} (hx : aW E x y) (hh : aW E h z) (hm : aW E m u) (hc : BO tt T x h m = some v) (w : World) :
  ∃ q, (Instr.sliceAt T y none (some z) (some u)).run P w = .ok q w ∧ aW E v q := by
 unfold BO at hc
 split at hc
 ·rename_i rows
  split at hc
  ·rename_i a ha
   split at hc
   ·rename_i b hb
    obtain ⟨k1, rfl⟩ := kU hh ha
    obtain ⟨k2, rfl⟩ := kU hm hb
    unfold dw iJ at hc
    cases hT : tt T with
    | none => rw [hT] at hc; simp at hc
    | some iT =>
     rw [hT] at hc; simp only at hc
     cases he : iT.elem with
     | none => rw [he] at hc; simp at hc
     | some e =>
      rw [he] at hc; simp only at hc
      cases hE : tt e with
      | none => rw [hE] at hc; simp at hc
      | some ie =>
       rw [hE] at hc; simp only at hc
       obtain ⟨d, hd, -, kS, -⟩ := ht.desc T iT hT
       obtain rfl := kS e he
       split at hc
       ·rename_i oZ
        obtain ⟨h0, h1, h2⟩ := oZ
        cases hc
        cases hx with
        | slice _ _ aa cap mW ad xf XY gQ hz hF jP hR =>
        have hlen : (rows.take a.toNat).length = a.toNat := by rw [List.length_take]; omega
        have cJ : (Instr.sliceAt T (.slice aa rows.length cap) none (some (.int k1 a)) (some (.int k2 b))).run P w = .ok (.slice aa a.toNat b.toNat) w := by
         simp only [Instr.sliceAt,Instr.slice,Sem.run_bind,ao hd,Result.andThen_ok,Instr.sliceBounds,Instr.sliceBound,asIntOf,Sem.run_pure,ht.sizeOf hE,Option.isSome_some]
         rw [if_pos ⟨by omega, by omega⟩]
         simp only [Sem.run_pure,Result.andThen_ok]
         rw [if_pos ⟨by omega, by omega⟩]
         simp [Addr.add]
        refine ⟨_, cJ, ?_⟩
        have hg : ∀ (i : Nat) (row : V), (rows.take a.toNat)[i]? = some row → rows[i]? = some row := fun i row hi => by
         rw [List.getElem?_take] at hi
         split at hi
         ·exact hi
         ·cases hi
        have := aW.slice E (rows.take a.toNat) aa b.toNat mW ad xf (fun bL => XY fun h => bL (by rw [h, List.take_nil])) (by omega) (fun i row hi => hz _ _ (hg i row hi)) (fun i row j c hi hj => hF _ _ _ _ (hg i row hi) hj) (fun i row j c hi hj => jP _ _ _ _ (hg i row hi) hj) fun i row j c hi hj => hR _ _ _ _ (hg i row hi) hj
        rw [hlen] at this
        by_cases I4 : a = b
        ·rw [decide_eq_true I4]
         have XZ : b.toNat = (rows.take a.toNat).length := by rw [hlen, I4]
         have h4 : (Value.slice aa a.toNat b.toNat) = .slice aa (rows.take a.toNat).length (rows.take a.toNat).length := by rw [← XZ, ← I4]
         rw [h4]
         exact .full _ _ _ (by rw [← h4]; exact this)
        ·rw [decide_eq_false I4]
         exact this
       ·cases hc
   ·cases hc
  ·cases hc
 ·cases hc
def nZ (P : Program) (tt : Table) (S : TypeId) (f : Nat) (x : V) : Option V :=
 match x with
 | .agg cs => match P.underlying S with
  | some (.struct fs) => match fs[f]? with
   | some fd => dv tt fd.type (cs.drop fd.offset)
   | none => none
  | _ => none
 | _ => none
theorem tK {P : Program} {tt : Table} (ht : TT P tt) {E : Env} {S : TypeId} {f : Nat} {x v : V} {y : Value} (hx : aW E x y) (h : nZ P tt S f x = some v) (w : World) : ∃ z, (Instr.field S y f).run P w = .ok z w ∧ aW E v z := by
 unfold nZ at h
 split at h
 ·rename_i cs
  split at h
  ·rename_i fs hu
   split at h
   ·rename_i fd hf
    cases hx with
    | agg _ _ xs hl hr =>
     simp only [Instr.field,Sem.run_bind,ao hu,Result.andThen_ok,hf]
     unfold dv at h
     cases hi : tt fd.type with
     | none => rw [hi] at h; simp at h
     | some i =>
      rw [hi] at h; simp only at h
      cases ha : i.agg with
      | false =>
       simp only [ha,Bool.false_eq_true,if_false] at h
       have h0 : cs[fd.offset]? = some v := by simpa [List.head?_eq_getElem?] using h
       have az : fd.offset < xs.size := by rw [← hl]; exact (List.getElem?_eq_some_iff.1 h0).1
       refine ⟨xs[fd.offset], ?_, hr _ _ _ h0 (Array.getElem?_eq_getElem az)⟩
       simp [part, asAgg, ht.isAgg hi, ha, Array.getElem?_eq_getElem az]
      | true =>
       simp only [ha,if_true] at h
       split at h
       ·rename_i hle
        simp only [Option.some.injEq] at h; subst h
        rw [List.length_drop] at hle
        refine ⟨.agg (xs.extract fd.offset (fd.offset + i.size)), ?_, .agg _ _ _ (by simp; omega) fun j c z hc hz => ?_⟩
        ·simp [part, asAgg, ht.isAgg hi, ha, ht.sizeOf hi]
        ·have hj : j < i.size := by
          by_cases hj : j < i.size
          ·exact hj
          ·rw [List.getElem?_take] at hc; simp [hj] at hc
         rw [List.getElem?_take_of_lt hj, List.getElem?_drop] at hc
         refine hr (fd.offset + j) c z hc ?_
         rw [Array.getElem?_extract] at hz
         split at hz
         ·exact hz
         ·cases hz
       ·cases h
   ·cases h
  ·cases h
 ·cases h
def fJ (P : Program) (tt : Table) (st : St) (o : Oper) : Option V :=
 match o.op with
 | .move x => some (st.eval x)
 | .assign x => some (st.eval x)
 | .pick c a b => match st.eval c with | .sc (.bool t) => some (if t = true then st.eval a else st.eval b) | _ => none
 | .load T x => kC tt st.mem T (st.eval x)
 | .nilCheck x => MO (st.eval x)
 | .binOp op T x y _ => match BN op (st.eval x) (st.eval y) with
  | some v => some v
  | none => match vl P op T (st.eval x) (st.eval y) with
   | some v => some v
   | none => aS P (fI op T x y) (st.eval x) (st.eval y)
 | .unOp op _ x => mI P (Op.unary op) (st.eval x)
 | .convert s d x => kF P st.mem s d (st.eval x)
 | .makeFunc fn first cap => some (.fM fn (first.toList.map st.eval) (cap.toList.map st.eval))
 | .slice T x lo hi none => rE P tt st.mem T (st.eval x) (lo.map st.eval) (hi.map st.eval)
 | .fieldAddr S x f => vg tt S f (st.eval x)
 | .field S x f => nZ P tt S f (st.eval x)
 | .slice T x none (some h) (some m) => BO tt T (st.eval x) (st.eval h) (st.eval m)
 | .indexAddr T x i => match ik tt st.mem T (st.eval x) (st.eval i) with
  | some v => some v
  | none => rH P tt T (st.eval x) (st.eval i)
 | .index T x i => aS P (Instr.index T) (st.eval x) (st.eval i)
 | .extract t i => match st.eval t with | .bP vs => vs[i]? | _ => none
 | .lookup T x i ok => df P st.mem T (st.eval x) (st.eval i) ok
 | .entry it => Dm st.mem (st.eval it)
 | .call { callee := .builtin .len, args := xs, argTypes := ts } => match nX st.mem ts P (xs.toList.map st.eval) with
  | some v => some v
  | none => qL P tt ts o.type (xs.toList.map st.eval)
 | .call { callee := .builtin .max, args := xs, argTypes := ts } => cI P (Builtin.max_ ts o.type) (xs.toList.map st.eval)
 | .call { callee := .builtin .min, args := xs, argTypes := ts } => cI P (Builtin.min_ ts o.type) (xs.toList.map st.eval)
 | _ => none

theorem kW {P : Program} {f : Array Value → Sem Value} {E : Env} {w : World} {xs : List V} {v : V} {ys : Array Value} (hx : aP E xs ys.toList) (h : cI P f xs = some v) : ∃ z, (f ys).run P w = .ok z w ∧ aW E v z := by
 unfold cI at h
 split at h
 ·rename_i l hl
  have := mY hx hl
  split at h
  ·rename_i z hz
   simp only [Option.some.injEq] at h; subst h
   subst this
   exact ⟨z, cA _ (by simpa using hz) w, ft E z⟩
  ·simp at h
 ·simp at h

theorem vn {P : Program} {tt : Table} (ht : TT P tt) {ts : Array TypeId} {ty t e : TypeId} (h0 : ts[0]? = some t) (he : dw tt t = some e) (w : World) (aa : Option Addr) (len cap : Nat) :
  (Builtin.len_ ts ty #[.slice aa len cap]).run P w = .ok (.int .i64 len) w := by
 unfold dw at he
 cases hT : tt t with
 | none => rw [hT] at he; simp at he
 | some iT =>
  rw [hT] at he; simp only at he
  obtain ⟨d, hd, -, kS, -⟩ := ht.desc t iT hT
  obtain rfl := kS e he
  simp [Builtin.len_, h0, ao hd, goInt]

theorem zP {P : Program} {tt : Table} (ht : TT P tt) {E : Env} {w : World} {ts : Array TypeId} {ty : TypeId} {xs : List V} {v : V} {ys : Array Value} (hx : aP E xs ys.toList) (h : qL P tt ts ty xs = some v) :
  ∃ z, (Builtin.len_ ts ty ys).run P w = .ok z w ∧ aW E v z := by
 unfold qL at h
 split at h
 ·split at h
  ·rename_i t h0
   split at h
   ·rename_i e he
    simp only [Option.some.injEq] at h; subst h
    obtain ⟨x, r, hy, h1, h2⟩ := hx.of_cons
    have := h2.of_nil; subst this
    obtain rfl : ys = #[x] := by rw [← Array.toArray_toList (xs := ys), hy]
    cases h1 with
    | slice _ _ aa cap mW ad xf ha gQ hz hF jP hR => exact ⟨_, vn ht h0 he w aa _ cap, .sc _ _⟩
   ·simp at h
  ·simp at h
 ·split at h
  ·rename_i t h0
   split at h
   ·rename_i e he
    simp only [Option.some.injEq] at h; subst h
    obtain ⟨x, r, hy, h1, h2⟩ := hx.of_cons
    have := h2.of_nil; subst this
    obtain rfl : ys = #[x] := by rw [← Array.toArray_toList (xs := ys), hy]
    cases h1 with
    | dc => exact ⟨_, vn ht h0 he w none _ 0, .sc _ _⟩
    | ms _ _ _ _ _ g e' c aa cap hb hl Fg ue => exact ⟨_, vn ht h0 he w aa _ cap, .sc _ _⟩
   ·simp at h
  ·simp at h
 ·exact kW hx h

theorem ba {P : Program} {s : Sem Value} {w : World} {x : Value} (h : s.run P w = .ok x w) : (do pure (Next.value (← s)) : Sem Next).run P w = .ok (.value x) w := by
 simp [h]

theorem lY {P : Program} {tt : Table} (ht : TT P tt) {E : Env} {w : World} {a : Act} {st : St} (hs : aZ E w a st) {o : Oper} {v : V} (h : fJ P tt st o = some v) :
  ∃ x, (execOp a.eval o).run P w = .ok (.value x) w ∧ aW E v x := by
 obtain ⟨dst, op, type, pos, after, guard⟩ := o
 unfold fJ at h
 dsimp only at h
 split at h
 ·simp only [Option.some.injEq] at h; subst h; exact ⟨_, rfl, hs.eval _⟩
 ·simp only [Option.some.injEq] at h; subst h; exact ⟨_, rfl, hs.eval _⟩
 ·rename_i c x y
  split at h
  ·rename_i t hc
   simp only [Option.some.injEq] at h; subst h
   have := hs.eval c
   rw [hc] at this
   refine ⟨if t = true then a.eval x else a.eval y, ?_, ?_⟩
   ·simp [execOp, bZ this, asBool]
   ·cases t <;> exact hs.eval _
  ·simp at h
 ·obtain ⟨y, h1, h2⟩ := qc ht hs (hs.eval _) h
  exact ⟨y, ba h1, h2⟩
 ·rename_i x
  have hx := hs.eval x
  generalize hy : a.eval x = y at hx
  have cJ : ∀ z, (∀ m f c, z ≠ .func (.method m) f c) → z ≠ .pointer none → z ≠ .nilIface → z ≠ .nilFunc → a.eval x = z → (execOp a.eval { dst, op := .nilCheck x, type, pos, after, guard }).run P w = .ok (.value z) w := by
   intro z h1 h2 h3 h4 he
   simp only [execOp,he]
   rfl
  unfold MO at h
  split at h <;> simp only [Option.some.injEq,reduceCtorEq] at h <;> subst h <;> rename_i hv <;> rw [hv] at hx
  ·cases hx with
   | ptr _ _ _ g e c hb => exact ⟨_, cJ _ (by simp) (by simp) (by simp) (by simp) hy, .ptr _ _ _ g e c hb⟩
  ·cases hx with
   | da _ _ _ _ _ g e c hb => exact ⟨_, cJ _ (by simp) (by simp) (by simp) (by simp) hy, .da _ _ _ _ _ g e c hb⟩
  ·cases hx with
   | cj _ _ ad xf hF hr => exact ⟨_, cJ _ (by simp) (by simp) (by simp) (by simp) hy, .cj _ _ _ xf hF hr⟩
  ·cases hx with
   | fM _ f first cap xs ys h1 h2 h3 h4 => exact ⟨_, cJ _ (by simp) (by simp) (by simp) (by simp) hy, .fM _ _ _ _ _ _ h1 h2 h3 h4⟩
  ·have := bZ hx
   subst this
   exact ⟨_, cJ _ (by simp) (by simp) (by simp) (by simp) hy, .sc _ _⟩
 ·rename_i op T x y _
  split at h
  ·rename_i hg
   cases h
   obtain ⟨z, h1, h2⟩ := xh (P := P) (w := w) (T := T) x y (hs.eval x) (hs.eval y) hg
   exact ⟨z, ba h1, h2⟩
  ·split at h
   ·rename_i hg
    cases h
    obtain ⟨z, h1, h2⟩ := vm (P := P) (w := w) (T := T) x y (hs.eval x) (hs.eval y) hg
    exact ⟨z, ba h1, h2⟩
   ·obtain ⟨z, h1, h2⟩ := gz (w := w) (hs.eval x) (hs.eval y) h
    exact ⟨z, ba h1, h2⟩
 ·obtain ⟨z, h1, h2⟩ := kT (w := w) (hs.eval _) h
  exact ⟨z, ba h1, h2⟩
 ·obtain ⟨z, h1, h2⟩ := xj (w := w) hs (hs.eval _) h
  exact ⟨z, ba h1, h2⟩
 ·rename_i fn first cap
  simp only [Option.some.injEq] at h; subst h
  have h1 := hs.jq first
  have h2 := hs.jq cap
  exact ⟨_, ba rfl, .fM _ _ _ _ _ _ (by simp) (by simp) (fun i c x hc hx => h1.2 i c x hc (by simpa using hx)) fun i c x hc hx => h2.2 i c x hc (by simpa using hx)⟩
 ·obtain ⟨z, h1, h2⟩ := zN ht hs (hs.eval _) h
  exact ⟨z, ba h1, h2⟩
 ·obtain ⟨z, h1, h2⟩ := vh ht (hs.eval _) h w
  exact ⟨z, ba h1, h2⟩
 ·obtain ⟨z, h1, h2⟩ := tK ht (hs.eval _) h w
  exact ⟨z, ba h1, h2⟩
 ·obtain ⟨z, h1, h2⟩ := xl ht (hs.eval _) (hs.eval _) (hs.eval _) h w
  exact ⟨z, ba h1, h2⟩
 ·split at h
  ·rename_i hv
   cases h
   obtain ⟨z, h1, h2⟩ := vi ht hs (hs.eval _) (hs.eval _) hv
   exact ⟨z, ba h1, h2⟩
  ·obtain ⟨z, h1, h2⟩ := xk ht (hs.eval _) (hs.eval _) h w
   exact ⟨z, ba h1, h2⟩
 ·obtain ⟨z, h1, h2⟩ := gz (w := w) (hs.eval _) (hs.eval _) h
  exact ⟨z, ba h1, h2⟩
 ·rename_i t i
  split at h
  ·rename_i vs hv
   have := hs.eval t
   rw [hv] at this
   generalize hy : a.eval t = y at this
   cases this with
   | bP _ _ xs hl hr =>
    have hi : i < xs.size := by rw [← hl]; exact (List.getElem?_eq_some_iff.1 h).1
    exact ⟨xs[i], ba (by simp [hy, Instr.extract, Array.getElem?_eq_getElem hi]), hr i v _ h (Array.getElem?_eq_getElem hi)⟩
  ·simp at h
 ·obtain ⟨z, h1, h2⟩ := tJ hs (hs.eval _) (hs.eval _) h
  exact ⟨z, ba h1, h2⟩
 ·obtain ⟨z, h1, h2⟩ := zM hs (hs.eval _) h
  exact ⟨z, ba h1, h2⟩
 ·split at h
  ·rename_i hl
   cases h
   obtain ⟨z, h1, h2⟩ := zL hs (hs.jq _) hl
   exact ⟨z, ba h1, h2⟩
  ·obtain ⟨z, h1, h2⟩ := zP ht (w := w) (hs.jq _) h
   exact ⟨z, ba h1, h2⟩
 ·obtain ⟨z, h1, h2⟩ := kW (w := w) (hs.jq _) h
  exact ⟨z, ba h1, h2⟩
 ·obtain ⟨z, h1, h2⟩ := kW (w := w) (hs.jq _) h
  exact ⟨z, ba h1, h2⟩
 ·simp at h
end Go.Eng
end

section
namespace Go.Eng
variable [aE]
open Go.RowKit (Below)

def bc (mem : List aw) (key : Nat) (B : aw) : List aw := if key < mem.length then mem.set key B else mem ++ [B]
def dL (mem : List aw) (key : Nat) : Prop := mem[key]? = some .hole ∨ key = mem.length
def Env.with (E : Env) (key aA : Nat) (t : Nat × Nat × Nat) : Env := { F := E.F, aK := fun k v => if k = key ∧ v = aA then some t else E.aK k v, gl := E.gl }

theorem jR {mem : List aw} {key : Nat} (h : key ≤ mem.length) (B : aw) (k : Nat) : (bc mem key B)[k]? = if k = key then some B else mem[k]? := by
 unfold bc
 split
 ·rename_i az
  rw [List.getElem?_set]
  by_cases hk : key = k
  ·subst hk; simp [az]
  ·rw [if_neg hk, if_neg (fun e => hk e.symm)]
 ·rename_i cH
  have ca : key = mem.length := by omega
  by_cases hk : k = key
  ·subst hk; rw [if_pos rfl, ca]; simp
  ·rw [if_neg hk, List.getElem?_append]
   split
   ·rfl
   ·rw [List.getElem?_eq_none (by simp; omega), List.getElem?_eq_none (by omega)]
theorem mK {mem : List aw} {key : Nat} (h : key ≤ mem.length) (B : aw) : mem.length ≤ (bc mem key B).length ∧ key < (bc mem key B).length := by
 unfold bc
 split <;> simp <;> omega
theorem dL.le {mem : List aw} {key : Nat} (h : dL mem key) : key ≤ mem.length := by
 rcases h with h | h
 ·exact Nat.le_of_lt (List.getElem?_eq_some_iff.1 h).1
 ·omega
theorem aZ.free {E : Env} {w : World} {a : Act} {st : St} (hs : aZ E w a st) {key : Nat} (h : dL st.mem key) : ∀ v, E.aK key v = none := by
 rcases h with h | h
 ·exact hs.mem _ _ h
 ·exact hs.top _ (by omega)
theorem Env.gu {E : Env} {key aA : Nat} (h : E.aK key aA = none) (t : Nat × Nat × Nat) : E.le (E.with key aA t) :=
 ⟨fun _ _ h => h, fun b v u hb => by
  show (if b = key ∧ v = aA then some t else E.aK b v) = some u
  rw [if_neg (fun e => by rw [e.1, e.2, h] at hb; cases hb)]; exact hb⟩

theorem ij.mono {E E' : Env} {w w' : World} {k : Nat} {B : aw} (h : ij E w k B) (hle : E.le E') (Fk : ∀ v, E.aK k v = none → E'.aK k v = none)
  (n4 : ∀ g e c, E.aK k B.aA = some (g, e, c) → w'.heap[g]? = w.heap[g]?) (hF : ∀ g e c o, E.aK k B.aA = some (g, e, c) → E.F ⟨g, o, none⟩ = none → E'.F ⟨g, o, none⟩ = none) : ij E' w' k B := by
 have ff : ∀ {e rs} {f f' : Nat → Option Value}, (∀ o x, f o = some x → f' o = some x) → fu E.pure e rs f → fu E'.pure e rs f' := fun hf hr i row hi => by
  obtain ⟨h1, h2⟩ := hr i row hi
  exact ⟨h1, fun j c hj => let ⟨x, hx, h1, hr⟩ := h2 j c hj; ⟨x, hf _ _ hx, h1, hr.mono (Env.fq hle)⟩⟩
 cases B with
 | hole => exact fun v => Fk v (h v)
 | dead => trivial
 | box cs =>
  obtain ⟨g, T, xs, hb, hh, hr, hf⟩ := h
  exact ⟨g, T, xs, hle.aK _ _ _ hb, (n4 _ _ _ hb).trans hh, hr.mono hle, fun o => hF _ _ _ o hb (hf o)⟩
 | rows v e rs =>
  rcases h with ⟨h1, h2⟩ | ⟨g, T, xs, c, hb, hh, jL, hl, hr, hf⟩
  ·exact .inl ⟨h1, Fk _ h2⟩
  ·exact .inr ⟨g, T, xs, c, hle.aK _ _ _ hb, (n4 _ _ _ hb).trans hh, jL, hl, ff (fun _ _ h => h) hr, fun o => hF _ _ _ o hb (hf o)⟩
 | loop s iY fr params assign body =>
  obtain ⟨l, fn, tmps, db, hb, hh, hr, hf⟩ := h
  exact ⟨l, fn, tmps, db, hle.aK _ _ _ hb, (n4 _ _ _ hb).trans hh, hr.mono hle, fun o => hF _ _ _ o hb (hf o)⟩
 | map bm clock =>
  obtain ⟨g, es, hb, hh, hr, hf⟩ := h
  exact ⟨g, es, hle.aK _ _ _ hb, (n4 _ _ _ hb).trans hh, hr.mono hle, fun o => hF _ _ _ o hb (hf o)⟩
 | eh m since seen last =>
  obtain ⟨g, gm, e, c, hb, hm, hh, hf⟩ := h
  exact ⟨g, gm, e, c, hle.aK _ _ _ hb, hle.aK _ _ _ hm, (n4 _ _ _ hb).trans hh, fun o => hF _ _ _ o hb (hf o)⟩
 | gJ s pos =>
  obtain ⟨g, hb, hh, hf⟩ := h
  exact ⟨g, hle.aK _ _ _ hb, (n4 _ _ _ hb).trans hh, fun o => hF _ _ _ o hb (hf o)⟩
 | ig =>
  obtain ⟨g, hb, hh, hf⟩ := h
  exact ⟨g, hle.aK _ _ _ hb, (n4 _ _ _ hb).trans hh, fun o => hF _ _ _ o hb (hf o)⟩
 | mv v e rs =>
  rcases h with ⟨h1, h2⟩ | ⟨g, c, hb, hl, hr⟩
  ·exact .inl ⟨h1, Fk _ h2⟩
  ·exact .inr ⟨g, c, hle.aK _ _ _ hb, hl, ff (fun _ _ h => hle.F _ _ h) hr⟩

theorem aZ.new {E : Env} {w : World} {a : Act} {st : St} (hs : aZ E w a st) {key : Nat} (hk : dL st.mem key) {obj : Obj} {B : aw} {e c : Nat} (EY : B.aA = 0)
  (hB : ij (E.with key 0 (w.heap.size, e, c)) (w.alloc obj) key B) :
  aZ (E.with key 0 (w.heap.size, e, c)) (w.alloc obj) a { st with mem := bc st.mem key B } ∧ dn E w (E.with key 0 (w.heap.size, e, c)) (w.alloc obj) := by
 have LJ := hs.free hk
 have hle := Env.gu (LJ 0) (w.heap.size, e, c)
 have hblk : ∀ k v, ¬ (k = key ∧ v = 0) → (E.with key 0 (w.heap.size, e, c)).aK k v = E.aK k v := fun k v bL => if_neg bL
 have ca : (E.with key 0 (w.heap.size, e, c)).aK key 0 = some (w.heap.size, e, c) := if_pos ⟨rfl, rfl⟩
 have IF : ∀ k v, k ≠ key → (E.with key 0 (w.heap.size, e, c)).aK k v = E.aK k v := fun k v bL => hblk k v fun h => bL h.1
 refine ⟨⟨fun ad x hx => ?_, fun k v g e' c' hb => ?_, fun k B' nO => ?_, fun k eP v => ?_, fun k B' nO v hv => ?_, ?_, hs.fr.mono hle⟩, hle, fun k v g e' c' hb => ?_, fun ad x hx => .inl hx, rfl, rfl, rfl, by simp, fun b hb _ => Go.RowKit.Below.heap_alloc w _ b hb⟩
 ·rw [World.cell?_alloc_lt w _ ad (World.block_lt_of_cell? w ad (hs.F ad x hx))]; exact hs.F ad x hx
 ·by_cases bO : k = key ∧ v = 0
  ·obtain ⟨rfl, rfl⟩ := bO; rw [ca] at hb; cases hb; simp
  ·rw [hblk k v bO] at hb; have := hs.lt _ _ _ _ _ hb; simp; omega
 ·rw [jR hk.le] at nO
  split at nO
  ·rename_i bO; subst bO; cases nO; exact hB
  ·rename_i bO
   exact (hs.mem k B' nO).mono hle (fun v h => by rw [IF k v bO]; exact h) (fun g e' c' hb => Go.RowKit.Below.heap_alloc w _ g (hs.lt _ _ _ _ _ hb)) fun _ _ _ o _ h => h
 ·have := mK hk.le B
  dsimp only at eP
  rw [IF k v (by omega)]; exact hs.top k (by omega) v
 ·dsimp only at nO
  rw [jR hk.le] at nO
  split at nO
  ·rename_i bO; subst bO; cases nO; rw [hblk k v (by omega)]; exact LJ v
  ·rename_i bO; rw [IF k v bO]; exact hs.aA k B' nO v hv
 ·intro k k' v v' g e1 c1 e2 c2 h5 h6
  by_cases bO : k = key ∧ v = 0 <;> by_cases vo : k' = key ∧ v' = 0
  ·rw [bO.1, vo.1]
  ·obtain ⟨rfl, rfl⟩ := bO; rw [ca] at h5; cases h5; rw [hblk k' _ vo] at h6; have := hs.lt _ _ _ _ _ h6; omega
  ·obtain ⟨rfl, rfl⟩ := vo; rw [ca] at h6; cases h6; rw [hblk k _ bO] at h5; have := hs.lt _ _ _ _ _ h5; omega
  ·rw [hblk k _ bO] at h5; rw [hblk k' _ vo] at h6
   exact hs.apart _ _ _ _ _ _ _ _ _ h5 h6
 ·by_cases bO : k = key ∧ v = 0
  ·obtain ⟨rfl, rfl⟩ := bO; rw [ca] at hb; cases hb; exact .inr (Nat.le_refl _)
  ·rw [hblk k v bO] at hb; exact .inl ⟨_, _, _, _, hb⟩

theorem aZ.Fl {E : Env} {w : World} {a : Act} {st : St} (hs : aZ E w a st) {key : Nat} (hk : dL st.mem key) {xs : Array Value} {cs : List V} (hr : aP E cs xs.toList) (T : TypeId) :
  ∃ E', aZ E' (w.alloc (.cells xs T (0, 0))) a { st with mem := bc st.mem key (.box cs) } ∧ dn E w E' (w.alloc (.cells xs T (0, 0))) ∧ aW E' (.ptr key 0) (.pointer (some ⟨w.heap.size, 0, none⟩)) := by
 have hle := Env.gu (hs.free hk 0) (w.heap.size, 0, 0)
 have := hs.new (obj := .cells xs T (0, 0)) (B := .box cs) (e := 0) (c := 0) hk rfl ⟨w.heap.size, T, xs, if_pos ⟨rfl, rfl⟩, heap_alloc_new w _, hr.mono hle, fun o => ?_⟩
 ·exact ⟨_, this.1, this.2, .ptr _ _ _ _ 0 0 (if_pos ⟨rfl, rfl⟩)⟩
 ·show E.F _ = none
  cases hx : E.F ⟨w.heap.size, o, none⟩ with
  | none => rfl
  | some x => have := World.block_lt_of_cell? w _ (hs.F _ _ hx); simp at this

theorem aZ.n5 {E : Env} {w : World} {a : Act} {st : St} (hs : aZ E w a st) {key : Nat} (hk : dL st.mem key) {xs : Array Value} {rs : List V} {e c : Nat} (T : TypeId) (jL : xs.size = c * e) (hl : rs.length ≤ c)
  (hr : fu E.pure e rs (fun o => xs[o]?)) :
  ∃ E', aZ E' (w.alloc (.cells xs T (0, 0))) a { st with mem := bc st.mem key (.rows 0 e rs) } ∧ dn E w E' (w.alloc (.cells xs T (0, 0))) ∧ aW E' (.ms key 0 0 rs.length) (.slice (some ⟨w.heap.size, 0, none⟩) rs.length c) := by
 have hle := Env.gu (hs.free hk 0) (w.heap.size, e, c)
 have := hs.new (obj := .cells xs T (0, 0)) (B := .rows 0 e rs) (e := e) (c := c) hk rfl (.inr ⟨w.heap.size, T, xs, c, if_pos ⟨rfl, rfl⟩, heap_alloc_new w _, jL, hl, fun i row hi => ?_, fun o => ?_⟩)
 ·exact ⟨_, this.1, this.2, .ms _ _ _ _ _ w.heap.size e c _ _ (if_pos ⟨rfl, rfl⟩) (fun _ => by simp) (fun _ => ⟨rfl, rfl⟩) ⟨hl, Nat.zero_add _, fun _ => by simp⟩⟩
 ·obtain ⟨h1, h2⟩ := hr i row hi
  exact ⟨h1, fun j c' hj => let ⟨x, hx, h1, hr⟩ := h2 j c' hj; ⟨x, hx, h1, hr.mono (Env.fq hle)⟩⟩
 ·show E.F _ = none
  cases hx : E.F ⟨w.heap.size, o, none⟩ with
  | none => rfl
  | some x => have := World.block_lt_of_cell? w _ (hs.F _ _ hx); simp at this

theorem aZ.I5 {E : Env} {w : World} {a : Act} {st : St} (hs : aZ E w a st) {key : Nat} (hk : dL st.mem key) (e : Nat) : aZ E w a { st with mem := bc st.mem key (.rows 0 e []) } := by
 have hn := hs.free hk
 refine ⟨hs.F, hs.lt, fun k B hB => ?_, fun k eP => hs.top k ?_, fun k B hB v hv => ?_, hs.apart, hs.fr⟩
 ·rw [jR hk.le] at hB
  split at hB
  ·rename_i bO; subst bO; cases hB; exact .inl ⟨rfl, hn 0⟩
  ·exact hs.mem k B hB
 ·have := mK hk.le (.rows 0 e []); dsimp only at eP; omega
 ·dsimp only at hB
  rw [jR hk.le] at hB
  split at hB
  ·rename_i bO; subst bO; exact hn v
  ·exact hs.aA k B hB v hv
end Go.Eng
end

section
namespace Go.Eng
variable [aE]
open Go.RowKit (Below)

def ei (xs : Array Value) (o : Nat) : List Value → Array Value
 | [] => xs
 | v :: r => ei (xs.setIfInBounds o v) (o + 1) r
def b8 (cs : List V) (o : Nat) : List V → List V
 | [] => cs
 | v :: r => b8 (cs.set o v) (o + 1) r

theorem fw (vs : List Value) : ∀ (xs : Array Value) (o : Nat), (ei xs o vs).size = xs.size := by
 induction vs with
 | nil => intro xs o; rfl
 | cons v r ih => intro xs o; simp [ei, ih]
theorem rI (vs : List V) : ∀ (cs : List V) (o : Nat), (b8 cs o vs).length = cs.length := by
 induction vs with
 | nil => intro cs o; rfl
 | cons v r ih => intro cs o; simp [b8, ih]
theorem qe {E : Env} (vs : List V) : ∀ (ys : List Value) (cs : List V) (xs : Array Value) (o : Nat), aP E vs ys → aP E cs xs.toList → aP E (b8 cs o vs) (ei xs o ys).toList := by
 induction vs with
 | nil => intro ys cs xs o h k; have := h.of_nil; subst this; exact k
 | cons v r ih =>
  intro ys cs xs o h k
  obtain ⟨y, ys, rfl, h1, h2⟩ := h.of_cons
  exact ih ys _ _ _ h2 (by simpa using k.set o h1)
theorem eA (vs : List Value) : ∀ (xs : Array Value) (o k : Nat), o + vs.length ≤ xs.size → (ei xs o vs)[k]? = if o ≤ k ∧ k < o + vs.length then vs[k - o]? else xs[k]? := by
 induction vs with
 | nil => intro xs o k _; simp [ei]; intro h1 h2; omega
 | cons v r ih =>
  intro xs o k h
  simp only [List.length_cons] at h
  rw [ei, ih _ _ _ (by simp; omega)]
  by_cases h1 : o + 1 ≤ k ∧ k < o + 1 + r.length
  ·rw [if_pos h1, if_pos ⟨by omega, by simp; omega⟩]
   have : k - o = (k - (o + 1)) + 1 := by omega
   rw [this, List.getElem?_cons_succ]
  ·rw [if_neg h1]
   by_cases h2 : k = o
   ·subst h2
    rw [if_pos ⟨Nat.le_refl _, by simp⟩]
    simp only [Nat.sub_self,List.getElem?_cons_zero]
    rw [Array.getElem?_setIfInBounds_self_of_lt (by omega)]
   ·rw [if_neg (by simp only [List.length_cons]; omega), Array.getElem?_setIfInBounds_ne (fun e => h2 e.symm)]
theorem xm (vs : List V) : ∀ (cs : List V) (o k : Nat), o + vs.length ≤ cs.length → (b8 cs o vs)[k]? = if o ≤ k ∧ k < o + vs.length then vs[k - o]? else cs[k]? := by
 induction vs with
 | nil => intro xs o k _; simp [b8]; intro h1 h2; omega
 | cons v r ih =>
  intro xs o k h
  simp only [List.length_cons] at h
  rw [b8, ih _ _ _ (by simp; omega)]
  by_cases h1 : o + 1 ≤ k ∧ k < o + 1 + r.length
  ·rw [if_pos h1, if_pos ⟨by omega, by simp; omega⟩]
   have : k - o = (k - (o + 1)) + 1 := by omega
   rw [this, List.getElem?_cons_succ]
  ·rw [if_neg h1]
   by_cases h2 : k = o
   ·subst h2
    rw [if_pos ⟨Nat.le_refl _, by simp⟩]
    simp only [Nat.sub_self,List.getElem?_cons_zero]
    rw [List.getElem?_set]; simp; omega
   ·rw [if_neg (by simp only [List.length_cons]; omega), List.getElem?_set_ne (fun e => h2 e.symm)]

structure n9 (w w' : World) (g : Nat) : Prop where
 os : w'.os = w.os
 tape : w'.tape = w.tape
 output : w'.output = w.output
 size : w'.heap.size = w.heap.size
 heap : ∀ b, b ≠ g → w'.heap[b]? = w.heap[b]?

theorem e9 {P : Program} {g : Nat} {T : TypeId} (o : Nat) : ∀ (vs : List Value) (i : Nat) (w : World) (xs : Array Value), w.heap[g]? = some (.cells xs T (0, 0)) → o + i + vs.length ≤ xs.size →
  (∀ v ∈ vs, v.oneCell' = true) → ∃ w', (storeCells ⟨g, o, none⟩ vs i).run P w = .ok () w' ∧ w'.heap[g]? = some (.cells (ei xs (o + i) vs) T (0, 0)) ∧ n9 w w' g := by
 intro vs
 induction vs with
 | nil => intro i w xs hh _ _; exact ⟨w, rfl, hh, rfl, rfl, rfl, rfl, fun _ _ => rfl⟩
 | cons v r ih =>
  intro i w xs hh hl h1
  simp only [List.length_cons] at hl
  have hc : w.cell? ⟨g, o + i, none⟩ = some (xs[o + i]'(by omega)) := by rw [iL hh, Array.getElem?_eq_getElem]
  have hf : w.frozen? ⟨g, o + i, none⟩ = false := by simp [World.frozen?, hh]
  have IG : (w.setCell ⟨g, o + i, none⟩ v).heap[g]? = some (.cells (xs.setIfInBounds (o + i) v) T (0, 0)) := by
   simp [World.setCell, Array.getElem?_modify, hh]
  obtain ⟨w', h2, h3, h4⟩ := ih (i + 1) _ _ IG (by simp; omega) (fun v hv => h1 v (List.mem_cons_of_mem _ hv))
  refine ⟨w', ?_, by rw [ei]; exact h3, h4.os, h4.tape, h4.output, by rw [h4.size]; simp, fun b hb => (h4.heap b hb).trans (Go.RowKit.Below.heap_setCell w _ v b hb)⟩
  rw [storeCells]
  simp only [Sem.run_bind,add_lit]
  rw [run_store P w _ v .plain (h1 v (List.mem_cons_self ..))]
  simp [stored, hc, hf, h2]

def vp : V → Bool
 | .sc v => v.oneCell'
 | .undef => false
 | .agg _ => false
 | .bP _ => false
 | _ => true
def fy : V → Option (List V)
 | .agg cs => if cs.all vp then some cs else none
 | v => if vp v then some [v] else none

theorem xn {E : Env} {c : V} {x : Value} (h : aW E c x) (ho : vp c = true) : x.oneCell' = true := by
 cases h <;> first | rfl | exact ho | simp [vp] at ho
theorem jS {E : Env} {v : V} {x : Value} {cs : List V} (h : aW E v x) (hc : fy v = some cs) : aP E cs x.cells.toList ∧ ∀ y ∈ x.cells.toList, y.oneCell' = true := by
 have key : ∀ (cs : List V) (xs : List Value), aP E cs xs → cs.all vp = true → ∀ y ∈ xs, y.oneCell' = true := by
  intro cs
  induction cs with
  | nil => intro xs h _ y hy; rw [h.of_nil] at hy; simp at hy
  | cons c r ih =>
   intro xs h ha y hy
   obtain ⟨x, ys, rfl, h1, h2⟩ := h.of_cons
   simp only [List.all_cons,Bool.and_eq_true] at ha
   rcases List.mem_cons.1 hy with rfl | hy
   ·exact xn h1 ha.1
   ·exact ih ys h2 ha.2 y hy
 unfold fy at hc
 split at hc
 ·split at hc
  ·rename_i mL aV
   simp only [Option.some.injEq] at hc; subst hc
   have := h.cells (by simp) (by simp)
   exact ⟨this, key _ _ this aV⟩
  ·simp at hc
 ·split at hc
  ·rename_i bL jP
   simp only [Option.some.injEq] at hc; subst hc
   have h1 : x.oneCell' = true := xn h jP
   have hx : x.cells = #[x] := by cases x <;> first | rfl | simp [Value.oneCell'] at h1
   rw [hx]
   exact ⟨.cons h (.nil _), fun y hy => by simp at hy; subst hy; exact h1⟩
  ·simp at hc

theorem aZ.vq {E : Env} {w : World} {a : Act} {st : St} (hs : aZ E w a st) {g : Nat} (hf : ∀ o, E.F ⟨g, o, none⟩ = none) {ad : Addr} {x : Value} (hx : E.F ad = some x) : ad.block ≠ g := by
 intro he
 have hc := hs.F ad x hx
 have tE : ad.spot = none := by
  unfold World.cell? at hc
  split at hc
  ·split at hc
   ·simp at hc
   ·rename_i h; cases tE : ad.spot with | none => rfl | some s => simp [tE] at h
  ·simp at hc
 have : ad = ⟨g, ad.off, none⟩ := by cases ad; simp_all
 rw [this, hf] at hx
 cases hx

theorem aZ.xp {E : Env} {w w' : World} {a : Act} {st : St} (hs : aZ E w a st) {b g e c : Nat} {B B' : aw} (hm : st.mem[b]? = some B) (hh : B.held = true) (QK : B'.aA = B.aA) (hb : E.aK b B.aA = some (g, e, c)) (hf : ∀ o, E.F ⟨g, o, none⟩ = none)
  (ho : n9 w w' g) (hB : ij E w' b B') : aZ E w' a { st with mem := st.mem.set b B' } ∧ dn E w E w' := by
 have az : b < st.mem.length := (List.getElem?_eq_some_iff.1 hm).1
 refine ⟨⟨fun ad x hx => ?_, fun k v g' e' c' hk => by rw [ho.size]; exact hs.lt _ _ _ _ _ hk, fun k B1 hk => ?_, fun k hk => hs.top k (by simpa using hk), fun k B1 hk v hv => ?_, hs.apart, hs.fr⟩,
  E.le_refl, fun k v g e c h => .inl ⟨k, v, e, c, h⟩, fun _ _ h => .inl h, ho.os, ho.tape, ho.output, by rw [ho.size]; exact Nat.le_refl _, fun b' eN bL => ho.heap b' fun e => by subst e; exact bL _ _ _ _ hb⟩
 ·have bL := hs.vq hf hx
  have : w'.heap[ad.block]? = w.heap[ad.block]? := ho.heap _ bL
  rw [← hs.F ad x hx]; simp [World.cell?, this]
 ·rw [List.getElem?_set] at hk
  by_cases dD : b = k
  ·subst dD; simp only [if_true,az] at hk; cases hk; exact hB
  ·rw [if_neg dD] at hk
   cases IH : B1.held with
   | false => cases B1 <;> first | exact hs.mem k _ hk | trivial | simp [aw.held] at IH
   | true =>
    refine (hs.mem k B1 hk).mono E.le_refl (fun _ h => h) (fun g' e' c' dS => ho.heap _ fun e => ?_) fun _ _ _ _ _ h => h
    subst e
    exact dD (hs.apart _ _ _ _ _ _ _ _ _ hb dS)
 ·dsimp only at hk
  rw [List.getElem?_set] at hk
  by_cases Fm : b = k
  ·subst Fm; simp only [if_true,az] at hk; cases hk; exact hs.aA b B hm v (by omega)
  ·rw [if_neg Fm] at hk; exact hs.aA k B1 hk v hv

def jr : V → Bool
 | .gn => true
 | .sc _ => true
 | .slice _ => true
 | .cj _ => true
 | .undef => true
 | _ => false
theorem vr {E : Env} {v : V} {x : Value} (h : aW E v x) (hp : jr v = true) : aW E.pure v x := by
 cases h with
 | undef => exact .undef _ _
 | gn => exact .gn _
 | sc => exact .sc _ _
 | slice _ rows a cap mW ad xf ha gQ hz hF h1 hR => exact .slice _ _ _ _ mW ad xf ha gQ hz hF h1 hR
 | cj _ cs ad xf hF hR => exact .cj _ _ _ xf hF hR
 | _ => simp [jr] at hp

def setRow (row : V) (o : Nat) (new : List V) : V :=
 match row with
 | .agg cs => .agg (b8 cs o new)
 | r => match o, new with
  | 0, [c] => c
  | _, _ => r

theorem vt {row : V} {o : Nat} {new : List V} (ho : o + new.length ≤ row.cells.length) (jP : new.all vp = true) (bL : new ≠ []) : (setRow row o new).cells = b8 row.cells o new := by
 cases row with
 | agg cs => rfl
 | _ =>
  simp only [V.cells,List.length_cons,List.length_nil] at ho ⊢
  match new, bL with
  | [c], _ =>
   obtain rfl : o = 0 := by simp at ho; omega
   simp only [List.all_cons,List.all_nil,Bool.and_true] at jP
   cases c <;> first | rfl | simp [vp] at jP
  | _ :: _ :: _, _ => simp at ho; omega

def gF (tt : Table) (mem : List aw) (T : TypeId) (p v : V) : Option (List aw) :=
 match fy v with
 | none => none
 | some new =>
  if iJ tt T = some new.length then
   match p with
   | .ptr b o => match mem[b]? with
    | some (.box cs) => if o + new.length ≤ cs.length then some (mem.set b (.box (b8 cs o new))) else none
    | _ => none
   | .da b v i o => match mem[b]? with
    | some (.rows v' e rs) => match rs[i]? with
     | some row => if v' = v ∧ o + new.length ≤ row.cells.length ∧ new ≠ [] ∧ new.all jr = true ∧ new.all vp = true then some (mem.set b (.rows v' e (rs.set i (setRow row o new)))) else none
     | none => none
    | _ => none
   | _ => none
  else none
instance (new : List V) : Decidable (new ≠ []) := match new with | [] => .isFalse (by simp) | _ :: _ => .isTrue (by simp)

theorem aP.pure {E : Env} : ∀ {vs : List V} {xs : List Value}, aP E vs xs → vs.all jr = true → aP E.pure vs xs
 | [], xs, h, _ => by rw [h.of_nil]; exact .nil _
 | v :: vs, xs, h, hp => by
  obtain ⟨x, ys, rfl, h1, h2⟩ := h.of_cons
  simp only [List.all_cons,Bool.and_eq_true] at hp
  exact .cons (vr h1 hp.1) (aP.pure h2 hp.2)

theorem oa {P : Program} {tt : Table} (ht : TT P tt) {E : Env} {w : World} {a : Act} {st : St} (hs : aZ E w a st) {T : TypeId} {p v : V} {x y : Value} {aD : List aw} (hp : aW E p x) (hv : aW E v y)
  (h : gF tt st.mem T p v = some aD) : ∃ w', (Instr.storeAt T x y).run P w = .ok () w' ∧ aZ E w' a { st with mem := aD } ∧ dn E w E w' := by
 unfold gF at h
 split at h
 ·simp at h
 ·rename_i new im
  obtain ⟨hr, jP⟩ := jS hv im
  split at h
  ·rename_i jL
   have hlen : y.cells.size = new.length := by have := hr.1; simp at this; exact this.symm
   have cJ : ∀ {g o : Nat} {xs : Array Value} {T' : TypeId}, w.heap[g]? = some (.cells xs T' (0, 0)) → o + new.length ≤ xs.size →
     ∃ w', (Instr.storeAt T (.pointer (some ⟨g, o, none⟩)) y).run P w = .ok () w' ∧ w'.heap[g]? = some (.cells (ei xs o y.cells.toList) T' (0, 0)) ∧ n9 w w' g := fun {g o xs T'} hh hle => by
    obtain ⟨w', h1, h2, h3⟩ := e9 (P := P) o y.cells.toList 0 w xs hh (by have := hr.1; simp at this ⊢; omega) jP
    refine ⟨w', ?_, by simpa using h2, h3⟩
    unfold iJ at jL
    split at jL
    ·rename_i i hi
     simp only [Option.some.injEq] at jL
     simp only [Instr.storeAt,Instr.sureAddr,Sem.run_bind,Sem.run_pure,Result.andThen_ok,storeVar,ht.sizeOf hi,hlen,jL,ne_eq,not_true_eq_false,if_false]
     exact h1
    ·simp at jL
   split at h
   ·rename_i b o
    split at h
    ·rename_i cs hm
     split at h
     ·rename_i hle
      simp only [Option.some.injEq] at h; subst h
      cases hp with
      | ptr _ _ _ g e c hb =>
       obtain ⟨g', T', xs, eN, hh, uf, hf⟩ := hs.mem b _ hm
       rw [hb] at eN; cases eN
       obtain ⟨w', h1, h2, h3⟩ := cJ (o := o) hh (by have := uf.1; simp at this; omega)
       exact ⟨w', h1, hs.xp hm rfl rfl hb hf h3 ⟨g, T', _, hb, h2, qe _ _ _ _ _ hr uf, hf⟩⟩
     ·simp at h
    ·simp at h
   ·rename_i b vv i o
    split at h
    ·rename_i v' e rs hm
     split at h
     ·rename_i row b9
      split at h
      ·rename_i ob
       obtain ⟨rfl, hle, bL, ug, QL⟩ := ob
       simp only [Option.some.injEq] at h; subst h
       cases hp with
       | da _ _ _ _ _ g e' c hb =>
        rcases hs.mem b _ hm with ⟨rfl, -⟩ | ⟨g', T', xs, c', eN, hh, mZ, jo, uf, hf⟩
        ·simp at b9
        rw [hb] at eN; cases eN
        obtain ⟨jb, X0⟩ := uf i row b9
        have hi : i < rs.length := (List.getElem?_eq_some_iff.1 b9).1
        have hmul : i * e + e ≤ xs.size := by
         rw [mZ, ← Nat.succ_mul]; exact Nat.mul_le_mul_right e (by omega)
        obtain ⟨w', h1, h2, h3⟩ := cJ (o := i * e + o) hh (by omega)
        refine ⟨w', h1, hs.xp hm rfl rfl hb hf h3 (.inr ⟨g, T', _, c, hb, h2, by rw [fw]; exact mZ, by simpa using jo, ?_, hf⟩)⟩
        have MT : y.cells.toList.length = new.length := hr.1.symm
        intro i' Uq xq
        rw [List.getElem?_set] at xq
        by_cases nP : i = i'
        ·subst nP
         simp only [if_true,hi] at xq
         cases xq
         have hc := vt hle QL bL
         refine ⟨by rw [hc, rI]; exact jb, fun j cc hj => ?_⟩
         rw [hc, xm _ _ _ _ hle] at hj
         dsimp only
         rw [eA _ _ _ _ (by rw [MT]; omega), MT]
         by_cases fS : o ≤ j ∧ j < o + new.length
         ·rw [if_pos fS] at hj
          rw [if_pos ⟨by omega, by omega⟩]
          obtain ⟨z, hz, Ur⟩ := (hr.pure ug).get hj
          exact ⟨z, by rw [← hz]; congr 1; omega, jP z (List.mem_of_getElem? hz), Ur⟩
         ·rw [if_neg fS] at hj
          rw [if_neg (by omega)]
          exact X0 j cc hj
        ·rw [if_neg nP] at xq
         obtain ⟨h5, h6⟩ := uf i' Uq xq
         refine ⟨h5, fun j cc hj => ?_⟩
         obtain ⟨z, hz, Fo, Ur⟩ := h6 j cc hj
         have qb : j < e := by rw [← h5]; exact (List.getElem?_eq_some_iff.1 hj).1
         refine ⟨z, ?_, Fo, Ur⟩
         dsimp only
         rw [eA _ _ _ _ (by rw [MT]; omega), MT, if_neg ?_]
         ·exact hz
         ·intro fS
          rcases Nat.lt_or_gt_of_ne nP with az | X1
          ·have : (i + 1) * e ≤ i' * e := Nat.mul_le_mul_right e az
           rw [Nat.succ_mul] at this
           omega
          ·have : (i' + 1) * e ≤ i * e := Nat.mul_le_mul_right e X1
           rw [Nat.succ_mul] at this
           omega
      ·simp at h
     ·simp at h
    ·simp at h
   ·simp at h
  ·simp at h
end Go.Eng
end

section
namespace Go.Eng
variable [aE]
open Go.RowKit (Below)

def qf (E : Env) (e : Nat) (rs : List V) (ys : Array Value) : Prop := ys.size = rs.length * e ∧ fu E e rs (fun o => ys[o]?)

theorem rJ {i n j e : Nat} (hi : i < n) (hj : j < e) : i * e + j < n * e := by
 have : (i + 1) * e ≤ n * e := Nat.mul_le_mul_right e hi
 rw [Nat.succ_mul] at this; omega

theorem uh {P : Program} {E : Env} {w : World} {ad : Addr} {rows : List V} {size : Nat} (hz : ∀ (i : Nat) (row : V), rows[i]? = some row → row.cells.length = size)
  (h : ∀ (i : Nat) (row : V) (j : Nat) (c : V), rows[i]? = some row → row.cells[j]? = some c → ∃ x, w.cell? (ad.add (i * size + j)) = some x ∧ x.oneCell' = true ∧ aW E c x) :
  ∃ ys : Array Value, (loadCells ad (rows.length * size)).run P w = .ok ys w ∧ qf E size rows ys := by
 let f : Nat → Value := fun k => (w.cell? (ad.add k)).getD default
 have hf : ∀ k, k < rows.length * size → w.cell? (ad.add k) = some (f k) := fun k hk => by
  have hs : 0 < size := Nat.pos_of_ne_zero fun e => by subst e; simp at hk
  have hi : k / size < rows.length := by rwa [Nat.div_lt_iff_lt_mul hs]
  have hj : k % size < size := Nat.mod_lt _ hs
  have b9 := List.getElem?_eq_getElem hi
  have jo := hz _ _ b9
  obtain ⟨x, hx, -⟩ := h _ _ (k % size) _ b9 (List.getElem?_eq_getElem (by rw [jo]; exact hj))
  rw [Nat.mul_comm, Nat.div_add_mod] at hx
  simp [f, hx]
 refine ⟨((List.range (rows.length * size)).map f).toArray, run_loadCells w ad _ f hf, by simp, fun i row hi => ⟨hz i row hi, fun j c hj => ?_⟩⟩
 obtain ⟨x, hx, h1, hr⟩ := h i row j c hi hj
 have vu : i < rows.length := (List.getElem?_eq_some_iff.1 hi).1
 have qb : j < size := by rw [← hz i row hi]; exact (List.getElem?_eq_some_iff.1 hj).1
 refine ⟨x, ?_, h1, hr⟩
 have := rJ vu qb
 simp [this, f, hx]

def rowsOf (mem : List aw) (size : Nat) : V → Option (List V)
 | .slice rows => if ck rows 0 size = true then some rows else none
 | .ms b v s l => match mem[b]? with
  | some (.rows v' e rs) => if v' = v ∧ e = size ∧ s + l ≤ rs.length then some ((rs.drop s).take l) else none
  | some (.mv v' e rs) => if v' = v ∧ e = size ∧ s + l ≤ rs.length then some ((rs.drop s).take l) else none
  | _ => none
 | .sc (.slice none 0 0) => some []
 | _ => none

theorem ra {rs : List V} {s l i : Nat} {row : V} (h : ((rs.drop s).take l)[i]? = some row) : rs[s + i]? = some row := by
 rw [List.getElem?_take] at h
 split at h
 ·simpa using h
 ·simp at h

theorem dM {P : Program} {E : Env} {w : World} {a : Act} {st : St} (hs : aZ E w a st) {size : Nat} {v : V} {x : Value} {rows : List V} (hr : aW E v x) (h : rowsOf st.mem size v = some rows) :
  ∃ aa cap, x = .slice aa rows.length cap ∧ rows.length ≤ cap ∧ ∃ ys : Array Value, (Builtin.firstCells size rows.length x).run P w = .ok ys w ∧ qf E.pure size rows ys := by
 have vw : ∀ n, n = 0 → ∃ ys : Array Value, (Builtin.firstCells size n (.slice none n 0)).run P w = .ok ys w ∧ qf E.pure size [] ys := fun n hn => by
  subst hn
  exact ⟨#[], rfl, by simp, fun i row hi => by simp at hi⟩
 unfold rowsOf at h
 split at h
 ·rename_i iq
  split at h
  ·rename_i o5
   simp only [Option.some.injEq] at h; subst h
   cases hr with
   | slice _ _ aa cap mW ad xf ha gQ hz hF jP hR =>
    refine ⟨aa, cap, rfl, gQ, ?_⟩
    cases ff : iq with
    | nil =>
     subst ff
     cases aa with
     | none => exact vw 0 rfl
     | some a0 => exact ⟨#[], by simp [Builtin.firstCells, loadCells, loadCellsFrom], by simp, fun i row hi => by simp at hi⟩
    | cons r0 rr =>
     have bL : iq ≠ [] := by simp [ff]
     have he : mW = size := by
      unfold ck at o5
      have h0 : iq[0]? = some r0 := by simp [ff]
      rw [h0] at o5
      simp only [beq_iff_eq] at o5
      rw [← o5, hz 0 _ h0]
     subst he
     obtain rfl := ha bL
     rw [← ff]
     exact uh (P := P) hz fun i row j c hi hj => ⟨_, hs.F _ _ (hF i row j c hi hj), jP i row j c hi hj, hR i row j c hi hj⟩
  ·simp at h
 ·rename_i b v s l
  have zr : ∀ (rs : List V), s + l ≤ rs.length → rows = (rs.drop s).take l → (∀ g e c, E.aK b v = some (g, e, c) → e = size ∧ fu E.pure size rs (fun o => w.cell? ⟨g, o, none⟩)) →
    ∃ aa cap, x = .slice aa rows.length cap ∧ rows.length ≤ cap ∧ ∃ ys : Array Value, (Builtin.firstCells size rows.length x).run P w = .ok ys w ∧ qf E.pure size rows ys := by
   intro rs hl ff hb
   have hlen : rows.length = l := by rw [ff]; simp; omega
   cases hr with
   | dc =>
    have : rows = [] := List.length_eq_zero_iff.1 hlen
    subst this
    exact ⟨none, 0, rfl, Nat.le_refl _, vw 0 rfl⟩
   | ms _ _ _ _ _ g e c aa cap dS LH Fg ue =>
    obtain ⟨rfl, QM⟩ := hb g e c dS
    rw [← hlen]
    refine ⟨aa, cap, rfl, by omega, ?_⟩
    by_cases QI : 0 < l
    ·obtain rfl := LH QI
     refine uh (P := P) (fun i row hi => ?_) fun i row j c hi hj => ?_
     ·rw [ff] at hi; exact (QM _ _ (ra hi)).1
     ·rw [ff] at hi
      obtain ⟨x, hx, h1, h2⟩ := (QM _ _ (ra hi)).2 j c hj
      exact ⟨x, by rw [add_lit, ← hx]; congr 2; rw [Nat.add_mul]; omega, h1, h2⟩
    ·have : rows = [] := List.length_eq_zero_iff.1 (by omega)
     subst this
     cases aa with
     | none => exact ⟨#[], rfl, by simp, fun i row hi => by simp at hi⟩
     | some a0 => exact ⟨#[], by simp [Builtin.firstCells, loadCells, loadCellsFrom], by simp, fun i row hi => by simp at hi⟩
  split at h
  ·rename_i v' e rs hm
   split at h
   ·rename_i hc
    obtain ⟨rfl, hc⟩ := hc
    simp only [Option.some.injEq] at h
    refine zr rs hc.2 h.symm fun g e' c hb => ?_
    rcases hs.mem b _ hm with ⟨-, hn⟩ | ⟨g', T', xs, c', eN, hh, -, -, uf, -⟩
    ·rw [hb] at hn; cases hn
    ·rw [hb] at eN; cases eN
     refine ⟨hc.1, ?_⟩
     rw [hc.1] at uf
     intro i row hi
     obtain ⟨h1, h2⟩ := uf i row hi
     exact ⟨h1, fun j c hj => by dsimp only; rw [iL hh]; exact h2 j c hj⟩
   ·simp at h
  ·rename_i v' e rs hm
   split at h
   ·rename_i hc
    obtain ⟨rfl, hc⟩ := hc
    simp only [Option.some.injEq] at h
    refine zr rs hc.2 h.symm fun g e' c hb => ?_
    rcases hs.mem b _ hm with ⟨-, hn⟩ | ⟨g', c', eN, -, uf⟩
    ·rw [hb] at hn; cases hn
    rw [hb] at eN; cases eN
    refine ⟨hc.1, ?_⟩
    rw [hc.1] at uf
    intro i row hi
    obtain ⟨h1, h2⟩ := uf i row hi
    exact ⟨h1, fun j c hj => let ⟨x, hx, h⟩ := h2 j c hj; ⟨x, hs.F _ _ hx, h⟩⟩
   ·simp at h
  ·simp at h
 ·simp only [Option.some.injEq] at h; subst h
  obtain rfl := bZ hr
  exact ⟨none, 0, rfl, Nat.le_refl _, vw 0 rfl⟩
 ·simp at h

def jT : V → V
 | .sc (.slice none 0 0) => .slice []
 | v => v
theorem oc {E : Env} {v : V} {x : Value} (h : aW E v x) : aW E (jT v) x := by
 unfold jT
 split
 ·obtain rfl := bZ h
  exact .slice _ [] none 0 0 default (fun _ _ => default) (by simp) (by simp) (by simp) (by simp) (by simp) (by simp)
 ·exact h
def I6 : V → V
 | .agg cs => .agg (cs.map jT)
 | v => jT v
theorem zQ {v : V} {cs : List V} (h : fy v = some cs) : (I6 v).cells = cs.map jT := by
 unfold fy at h
 split at h
 ·split at h
  ·simp only [Option.some.injEq] at h; subst h; rfl
  ·simp at h
 ·rename_i bL
  split at h
  ·simp only [Option.some.injEq] at h; subst h
   cases v <;> first | exact absurd rfl (bL _) | rfl | skip
   rename_i v
   simp only [I6,jT,List.map_cons,List.map_nil]
   split <;> rfl
  ·simp at h
theorem aP.jT {E : Env} : ∀ {vs : List V} {xs : List Value}, aP E vs xs → aP E (vs.map jT) xs
 | [], xs, h => h
 | v :: vs, xs, h => by
  obtain ⟨x, ys, rfl, h1, h2⟩ := h.of_cons
  exact .cons (oc h1) (aP.jT h2)

def lZ (size : Nat) : List V → Option (List V)
 | [] => some []
 | v :: r => match fy v with
  | some cs => if cs.length = size ∧ cs.all jr = true then (match lZ size r with | some rs => some (I6 v :: rs) | none => none) else none
  | none => none

def kX : Nat → List (Nat × Operand) → Bool
 | _, [] => true
 | k, (i, _) :: r => i == k && kX (k + 1) r

theorem qg (off : Nat) : ∀ (l : List Value) (n : Nat) (cs : Array Value), (l.zipIdx n).foldl (fun cs (x : Value × Nat) => cs.setIfInBounds (off + x.2) x.1) cs = ei cs (off + n) l := by
 intro l
 induction l with
 | nil => intro n cs; rfl
 | cons v r ih => intro n cs; rw [List.zipIdx_cons, List.foldl_cons, ih, ei, Nat.add_assoc]

theorem Fp {E : Env} {size : Nat} : ∀ (parts : List (Nat × Operand)) (k : Nat) (ev : Operand → V) (av : Operand → Value) (Z : Array Value) (rs : List V), (∀ p ∈ parts, aW E (ev p.2) (av p.2)) → kX k parts = true →
  lZ size (parts.map fun p => ev p.2) = some rs → (k + parts.length) * size ≤ Z.size →
  ∃ Z', Instr.fill (fun i => some (i * size, size)) Z (parts.map fun p => (p.1, av p.2)) = some Z' ∧ Z'.size = Z.size ∧ rs.length = parts.length ∧ (∀ o, o < k * size → Z'[o]? = Z[o]?) ∧
   fu E.pure size rs (fun o => Z'[k * size + o]?) := by
 intro parts
 induction parts with
 | nil =>
  intro k ev av Z rs _ _ hl _
  simp only [List.map_nil,lZ,Option.some.injEq] at hl; subst hl
  exact ⟨Z, rfl, rfl, rfl, fun _ _ => rfl, fun i row hi => by simp at hi⟩
 | cons p r ih =>
  intro k ev av Z rs od qM hl jL
  obtain ⟨i, o⟩ := p
  simp only [kX,Bool.and_eq_true,beq_iff_eq] at qM
  obtain ⟨rfl, qM⟩ := qM
  simp only [List.map_cons,lZ] at hl
  split at hl
  ·rename_i cs tD
   split at hl
   ·rename_i hc
    split at hl
    ·rename_i rs' MU
     simp only [Option.some.injEq] at hl; subst hl
     obtain ⟨hr, jP⟩ := jS (od (i, o) (List.mem_cons_self ..)) tD
     have ui : (av o).cells.size = size := by have := hr.1; simp at this; omega
     simp only [List.length_cons] at jL
     have hmul : i * size + size ≤ Z.size := by
      have : (i + 1) * size ≤ (i + (r.length + 1)) * size := Nat.mul_le_mul_right _ (by omega)
      rw [Nat.succ_mul] at this; omega
     obtain ⟨Z', h1, h2, h3, h4, h5⟩ := ih (i + 1) ev av (ei Z (i * size) (av o).cells.toList) rs' (fun p hp => od p (List.mem_cons_of_mem _ hp)) qM MU (by rw [fw]; rw [show i + 1 + r.length = i + (r.length + 1) from by omega]; exact jL)
     have hlen : (av o).cells.toList.length = size := by simpa using ui
     have tE : ∀ q, (ei Z (i * size) (av o).cells.toList)[q]? = if i * size ≤ q ∧ q < i * size + size then (av o).cells.toList[q - i * size]? else Z[q]? := fun q => by
      rw [eA _ _ _ _ (by rw [hlen]; exact hmul), hlen]
     refine ⟨Z', ?_, by rw [h2, fw], by simp [h3], fun q hq => ?_, fun q row hq => ?_⟩
     ·simp only [List.map_cons,Instr.fill,ui]
      rw [if_neg (by simp; omega)]
      rw [← h1]
      congr 1
      rw [← Array.foldl_toList, Array.toList_zipIdx]
      exact qg (i * size) (av o).cells.toList 0 Z
     ·rw [h4 q (by rw [Nat.succ_mul]; omega), tE, if_neg (by omega)]
     ·cases q with
      | zero =>
       simp only [List.getElem?_cons_zero,Option.some.injEq] at hq; subst hq
       rw [zQ tD]
       refine ⟨by simpa using hc.1, fun j c hj => ?_⟩
       have qb : j < size := by rw [← hc.1]; simpa using (List.getElem?_eq_some_iff.1 hj).1
       obtain ⟨x, hx, EX⟩ := (hr.pure hc.2).jT.get hj
       refine ⟨x, ?_, jP x (List.mem_of_getElem? hx), EX⟩
       dsimp only
       rw [Nat.zero_mul, Nat.zero_add, h4 _ (by rw [Nat.succ_mul]; omega), tE, if_pos ⟨by omega, by omega⟩, ← hx]
       congr 1; omega
      | succ q =>
       simp only [List.getElem?_cons_succ] at hq
       obtain ⟨h6, h7⟩ := h5 q row hq
       refine ⟨h6, fun j c hj => ?_⟩
       obtain ⟨x, hx, rK, EX⟩ := h7 j c hj
       refine ⟨x, ?_, rK, EX⟩
       dsimp only at hx ⊢
       rw [← hx]
       congr 1
       rw [Nat.succ_mul, Nat.succ_mul]; omega
    ·simp at hl
   ·simp at hl
  ·simp at hl

def o6 (tt : Table) (T : TypeId) (len : Nat) (parts : List (Nat × Operand)) (ev : Operand → V) : Option (Nat × List V) :=
 match dw tt T with
 | some e => match iJ tt e with
  | some size => if kX 0 parts = true ∧ parts.length = len ∧ len * size ≤ 65536 then (match lZ size (parts.map fun p => ev p.2) with | some rs => some (size, rs) | none => none) else none
  | none => none
 | none => none

theorem vz {P : Program} {tt : Table} (ht : TT P tt) {E : Env} {w : World} {a : Act} {ev : Operand → V} {T : TypeId} {len size : Nat} {parts : Array (Nat × Operand)} {rs : List V} (dq : ∀ p ∈ parts.toList, aW E (ev p.2) (a.eval p.2))
  (h : o6 tt T len parts.toList ev = some (size, rs)) :
  ∃ (Z : Array Value) (e : TypeId), (Instr.buildSlice T len (parts.map fun (i, x) => (i, a.eval x))).run P w = .ok (.slice (some ⟨w.heap.size, 0, none⟩) len len) (w.alloc (.cells Z e (0, 0))) ∧ Z.size = len * size ∧ rs.length = len ∧ fu E.pure size rs (fun o => Z[o]?) := by
 unfold o6 dw iJ at h
 cases hT : tt T with
 | none => rw [hT] at h; simp at h
 | some iT =>
  rw [hT] at h; simp only at h
  cases he : iT.elem with
  | none => rw [he] at h; simp at h
  | some e =>
   rw [he] at h; simp only at h
   cases hE : tt e with
   | none => rw [hE] at h; simp at h
   | some ie =>
    rw [hE] at h; simp only at h
    split at h
    ·rename_i hc
     obtain ⟨qM, hlen, QN⟩ := hc
     split at h
     ·rename_i rs' Fq
      simp only [Option.some.injEq,Prod.mk.injEq] at h
      obtain ⟨rfl, rfl⟩ := h
      obtain ⟨d, hd, -, kS, -⟩ := ht.desc T iT hT
      obtain rfl := kS e he
      obtain ⟨info, nQ, LK, -, z, hz, Dq⟩ := ht.size e ie hE
      have hzero : ∀ w' : World, (zeroValue e).run P w' = .ok z w' := fun w' => by simp [zeroValue, cE nQ, hz]
      obtain ⟨zc, TB⟩ : ∃ zc : Array Value, zc = if len * ie.size = 0 then #[] else z.cells := ⟨_, rfl⟩
      obtain ⟨Z', h1, h2, h3, -, h5⟩ := Fp (size := ie.size) parts.toList 0 ev a.eval ((Array.range (len * ie.size)).map (zc[· % zc.size]!)) rs' dq qM Fq (by simp [hlen])
      refine ⟨Z', e, ?_, by simpa using h2, by omega, by simpa using h5⟩
      have na : (parts.map fun (i, x) => (i, a.eval x)).toList = parts.toList.map fun p => (p.1, a.eval p.2) := by simp
      unfold Instr.buildSlice
      simp only [Sem.run_bind,ao hd,Result.andThen_ok,ht.sizeOf hE]
      rw [if_neg (by omega)]
      by_cases h0 : len * ie.size = 0
      ·simp only [h0,if_true,Sem.run_pure,Result.andThen_ok,na]
       rw [if_pos h0] at TB
       subst TB
       rw [h0] at h1
       simp only [Sem.run_bind,Sem.run_pure,Result.andThen_ok,na]
       simp only [h1]
       simp [newRow]
      ·simp only [h0,if_false,Sem.run_bind,hzero,Sem.run_pure,Result.andThen_ok,na]
       rw [if_neg h0] at TB
       subst TB
       simp only [h1]
       simp [newRow]
     ·simp at h
    ·simp at h
end Go.Eng
end

section
namespace Go.Eng
variable [aE]
open Go.RowKit (Below)

section
variable {P : Program} {w : World}
theorem rL {t u ty e e' : TypeId} {i : TypeInfo} (ht : P.underlying t = some (.slice e)) (hu : P.underlying u = some (.slice e')) (hi : P.info? e = some i) (g kN dT n c : Nat) (aa : Option Addr) (news : Array Value)
  (hf : (Builtin.firstCells i.size n (.slice aa n c)).run P w = .ok news w) (oe : kN + n ≤ dT) {w' : World} (gR : (storeCells ⟨g, kN * i.size, none⟩ news.toList).run P w = .ok () w') :
  (Builtin.append_ #[t, u] ty #[.slice (some ⟨g, 0, none⟩) kN dT, .slice aa n c]).run P w = .ok (.slice (some ⟨g, 0, none⟩) (kN + n) dT) w' := by
 simp [Builtin.append_, ao ht, ao hu, dd hi, Builtin.lenOf, oe, hf, add_lit, gR]

theorem ej {t u ty e e' : TypeId} {i : TypeInfo} (ht : P.underlying t = some (.slice e)) (hu : P.underlying u = some (.slice e')) (hi : P.info? e = some i) (c : Nat) (aa : Option Addr) (news : Array Value)
  (hf : (Builtin.firstCells i.size 0 (.slice aa 0 c)).run P w = .ok news w) :
  (Builtin.append_ #[t, u] ty #[.slice none 0 0, .slice aa 0 c]).run P w = .ok (.slice none 0 0) w := by
 simp [Builtin.append_, ao ht, ao hu, dd hi, Builtin.lenOf, hf]

theorem fA {t u ty e e' : TypeId} {i : TypeInfo} {z : Value} (ht : P.underlying t = some (.slice e)) (hu : P.underlying u = some (.slice e')) (hi : P.info? e = some i) (hz : i.zero = some z) (base : Option Addr) (kN dT n c : Nat)
  (aa : Option Addr) (QO news : Array Value) (fO : (Builtin.firstCells i.size kN (.slice base kN dT)).run P w.drew = .ok QO w.drew) (hf : (Builtin.firstCells i.size n (.slice aa n c)).run P w.drew = .ok news w.drew)
  (hg : dT < kN + n) (ZX : ((kN + n : Nat) : Int) ≤ 9223372036854775807) (Dr : Builtin.nextslicecap (kN + n) dT * i.bytes ≤ 281474976710656) :
  (Builtin.append_ #[t, u] ty #[.slice base kN dT, .slice aa n c]).run P w =
   .ok (.slice (some ⟨w.heap.size, 0, none⟩) (kN + n) (grownCap w (kN + n) dT e))
    (w.drew.alloc (.cells (QO ++ news ++ Builtin.zeroCells z.cells (grownCap w (kN + n) dT e - (kN + n))) e)) := by
 have hn : ¬ (kN + n ≤ dT) := by omega
 have Us : ¬ (9223372036854775807 < ((kN : Int) + (n : Int))) := by omega
 have Ut : ¬ (281474976710656 < Builtin.nextslicecap (kN + n) dT * i.bytes) := by omega
 simp [Builtin.append_, ao ht, ao hu, cE hi, dd hi, zeroValue, hz, Builtin.lenOf, hn, Us, Ut, Question.forced, hf, fO, newRow, grownCap]
end

def kY (mem : List aw) (size : Nat) : V → Option (Option (Nat × Nat) × List V)
 | .sc (.slice none 0 0) => some (none, [])
 | .full rows => if ck rows 0 size = true then some (none, rows) else none
 | .ms b v 0 l => match mem[b]? with
  | some (.rows v' e rs) => if v' = v ∧ e = size ∧ rs.length = l then some (some (b, v), rs) else none
  | _ => none
 | _ => none

def xr : V → List V → Bool
 | .full _, [] => false
 | _, _ => true
theorem Fs (b v s l : Nat) (xs : List V) : xr (.ms b v s l) xs = true := rfl
theorem Ft (v : Value) (xs : List V) : xr (.sc v) xs = true := rfl
theorem zR (v x : V) (xs : List V) : xr v (x :: xs) = true := by cases v <;> rfl
def dr (tt : Table) (mem : List aw) (ts : List TypeId) (s x : V) : Option (Nat × Option (Nat × Nat) × List V) :=
 match ts with
 | [t, u] => match tt t with
  | some it => match it.elem with
   | some e => match dw tt u with
    | some _ => match tt e with
     | some i =>
      if 0 < i.size ∧ i.bytes ≤ 4096 ∧ i.zero.length = i.size then
       match kY mem i.size s with
       | some (nR, rs) => match rowsOf mem i.size x with
        | some xs => if rs.length + xs.length ≤ 34359738368 then (if xr s xs = true then some (i.size, nR, rs ++ xs) else none) else none
        | none => none
       | none => none
      else none
     | none => none
    | none => none
   | none => none
  | none => none
 | _ => none

def cu (mem : List aw) (key size : Nat) (rows : List V) : Option (Nat × Nat) → List aw × V
 | none => (bc mem key (.rows 0 size rows), .ms key 0 0 rows.length)
 | some (b, v) => (mem.set b (.rows (v + 1) size rows), .ms b (v + 1) 0 rows.length)

theorem aZ.renew {E : Env} {w w' : World} {a : Act} {st : St} (hs : aZ E w a st) {b v e0 g e c : Nat} {rs rows : List V} (hm : st.mem[b]? = some (.rows v e0 rs)) (hF : ∀ ad x, E.F ad = some x → w'.cell? ad = some x) (jL : w.heap.size ≤ w'.heap.size)
  (hg : g < w'.heap.size) (rM : ∀ k B', k ≠ b → st.mem[k]? = some B' → B'.held = true → ∀ g' e' c', E.aK k B'.aA = some (g', e', c') → w'.heap[g']? = w.heap[g']? ∧ g' ≠ g)
  (hB : ij (E.with b (v + 1) (g, e, c)) w' b (.rows (v + 1) e rows)) (TC : ∀ k v' e' c', E.aK k v' = some (g, e', c') → k = b) : aZ (E.with b (v + 1) (g, e, c)) w' a { st with mem := st.mem.set b (.rows (v + 1) e rows) } := by
 have hn : ∀ v', v < v' → E.aK b v' = none := fun v' qJ => hs.aA b _ hm v' qJ
 have hle : E.le (E.with b (v + 1) (g, e, c)) := Env.gu (hn _ (Nat.lt_succ_self v)) _
 have ca : (E.with b (v + 1) (g, e, c)).aK b (v + 1) = some (g, e, c) := if_pos ⟨rfl, rfl⟩
 have hblk : ∀ k v', ¬ (k = b ∧ v' = v + 1) → (E.with b (v + 1) (g, e, c)).aK k v' = E.aK k v' := fun k v' bL => if_neg bL
 have IF : ∀ k v', k ≠ b → (E.with b (v + 1) (g, e, c)).aK k v' = E.aK k v' := fun k v' bL => hblk k v' fun h => bL h.1
 have az : b < st.mem.length := (List.getElem?_eq_some_iff.1 hm).1
 have eR : ∀ (k : Nat) (B : aw), (st.mem.set b (.rows (v + 1) e rows))[k]? = some B → (k = b ∧ B = .rows (v + 1) e rows) ∨ (k ≠ b ∧ st.mem[k]? = some B) := fun k B hk => by
  rw [List.getElem?_set] at hk
  by_cases dD : b = k
  ·subst dD; simp only [if_true,az] at hk; cases hk; exact .inl ⟨rfl, rfl⟩
  ·rw [if_neg dD] at hk; exact .inr ⟨fun e => dD e.symm, hk⟩
 refine ⟨hF, fun k v' g' e' c' hb => ?_, fun k B hk => ?_, fun k hk v' => ?_, fun k B hk v' qJ => ?_, fun k k' v1 v2 g' e1 c1 e2 c2 h5 h6 => ?_, hs.fr.mono hle⟩
 ·by_cases hq : k = b ∧ v' = v + 1
  ·obtain ⟨rfl, rfl⟩ := hq; rw [ca] at hb; cases hb; exact hg
  ·rw [hblk k v' hq] at hb; exact Nat.lt_of_lt_of_le (hs.lt _ _ _ _ _ hb) jL
 ·rcases eR k B hk with ⟨rfl, rfl⟩ | ⟨dD, eP⟩
  ·exact hB
  ·cases IH : B.held with
   | false =>
    have := hs.mem k B eP
    cases B with
    | hole => exact fun v' => by rw [IF k v' dD]; exact this v'
    | dead => trivial
    | _ => simp [aw.held] at IH
   | true => exact (hs.mem k B eP).mono hle (fun v' h => by rw [IF k v' dD]; exact h) (fun g' e' c' dS => (rM k B dD eP IH g' e' c' dS).1) fun _ _ _ _ _ h => h
 ·have eP : st.mem.length ≤ k := by simpa using hk
  rw [IF k v' (by omega)]; exact hs.top k eP v'
 ·rcases eR k B hk with ⟨rfl, rfl⟩ | ⟨dD, eP⟩
  ·have : v + 1 < v' := qJ
   rw [hblk k v' (by omega)]; exact hn v' (by omega)
  ·rw [IF k v' dD]; exact hs.aA k B eP v' qJ
 ·by_cases hq : k = b ∧ v1 = v + 1 <;> by_cases II : k' = b ∧ v2 = v + 1
  ·rw [hq.1, II.1]
  ·obtain ⟨rfl, rfl⟩ := hq; rw [ca] at h5; cases h5; rw [hblk k' _ II] at h6; exact (TC _ _ _ _ h6).symm
  ·obtain ⟨rfl, rfl⟩ := II; rw [ca] at h6; cases h6; rw [hblk k _ hq] at h5; exact TC _ _ _ _ h5
  ·rw [hblk k _ hq] at h5; rw [hblk k' _ II] at h6
   exact hs.apart _ _ _ _ _ _ _ _ _ h5 h6

theorem aZ.xt {E : Env} {w : World} {a : Act} {st : St} (hs : aZ E w a st) {b v e0 e : Nat} {rs : List V} (hm : st.mem[b]? = some (.rows v e0 rs)) : aZ E w a { st with mem := st.mem.set b (.rows (v + 1) e []) } := by
 have hn : ∀ v', v < v' → E.aK b v' = none := fun v' qJ => hs.aA b _ hm v' qJ
 have az : b < st.mem.length := (List.getElem?_eq_some_iff.1 hm).1
 have eR : ∀ (k : Nat) (B : aw), (st.mem.set b (.rows (v + 1) e []))[k]? = some B → (k = b ∧ B = .rows (v + 1) e []) ∨ (k ≠ b ∧ st.mem[k]? = some B) := fun k B hk => by
  rw [List.getElem?_set] at hk
  by_cases dD : b = k
  ·subst dD; simp only [if_true,az] at hk; cases hk; exact .inl ⟨rfl, rfl⟩
  ·rw [if_neg dD] at hk; exact .inr ⟨fun e => dD e.symm, hk⟩
 refine ⟨hs.F, hs.lt, fun k B hk => ?_, fun k hk v' => hs.top k (by simpa using hk) v', fun k B hk v' qJ => ?_, hs.apart, hs.fr⟩
 ·rcases eR k B hk with ⟨rfl, rfl⟩ | ⟨dD, eP⟩
  ·exact .inl ⟨rfl, hn _ (Nat.lt_succ_self v)⟩
  ·exact hs.mem k B eP
 ·rcases eR k B hk with ⟨rfl, rfl⟩ | ⟨dD, eP⟩
  ·exact hn v' (Nat.lt_of_succ_lt qJ)
  ·exact hs.aA k B eP v' qJ

theorem gv {E : Env} {e : Nat} {rs xs : List V} {A B C : Array Value} (h1 : qf E e rs A) (h2 : qf E e xs B) : fu E e (rs ++ xs) (fun o => (A ++ B ++ C)[o]?) := by
 intro i row hi
 rw [List.getElem?_append] at hi
 split at hi
 ·rename_i az
  obtain ⟨h3, h4⟩ := h1.2 i row hi
  refine ⟨h3, fun j c hj => ?_⟩
  obtain ⟨x, hx, hr⟩ := h4 j c hj
  dsimp only at hx
  have MV : i * e + j < A.size := (Array.getElem?_eq_some_iff.1 hx).1
  refine ⟨x, ?_, hr⟩
  dsimp only
  rw [Array.append_assoc, Array.getElem?_append_left MV, hx]
 ·rename_i cH
  obtain ⟨h3, h4⟩ := h2.2 (i - rs.length) row hi
  refine ⟨h3, fun j c hj => ?_⟩
  obtain ⟨x, hx, hr⟩ := h4 j c hj
  dsimp only at hx
  have MV : (i - rs.length) * e + j < B.size := (Array.getElem?_eq_some_iff.1 hx).1
  refine ⟨x, ?_, hr⟩
  dsimp only
  have hmul : i * e = A.size + (i - rs.length) * e := by
   rw [h1.1, ← Nat.add_mul]; congr 1; omega
  rw [Array.append_assoc, Array.getElem?_append_right (by omega), Array.getElem?_append_left (by omega), ← hx]
  congr 1; omega

theorem vA {E : Env} {b v s l : Nat} {x : Value} (h : aW E (.ms b v s l) x) : (l = 0 ∧ x = .slice none 0 0) ∨
  ∃ g e c a cap, x = .slice a l cap ∧ E.aK b v = some (g, e, c) ∧ (0 < l → a = some ⟨g, s * e, none⟩) ∧ (s = 0 → a = some ⟨g, 0, none⟩ ∧ cap = c) ∧ (l ≤ cap ∧ s + cap = c ∧ (0 < cap → a = some ⟨g, s * e, none⟩)) := by
 cases h with
 | dc => exact .inl ⟨rfl, rfl⟩
 | ms _ _ _ _ _ g e c a cap hb hl h0 hc => exact .inr ⟨g, e, c, a, cap, rfl, hb, hl, h0, hc⟩

theorem qh {E : Env} {e : Nat} {xs : List V} {A : Array Value} (ir : 0 < e) (h : qf E e xs A) : ∀ v ∈ A.toList, v.oneCell' = true := by
 intro v hv
 obtain ⟨q, hq, rfl⟩ := List.mem_iff_getElem.1 hv
 have II : q < xs.length * e := by rw [← h.1]; simpa using hq
 have X2 : q / e < xs.length := by rwa [Nat.div_lt_iff_lt_mul ir]
 have b9 := List.getElem?_eq_getElem X2
 obtain ⟨Uu, kZ⟩ := h.2 _ _ b9
 obtain ⟨vv, TD, zt, -⟩ := kZ (q % e) _ (List.getElem?_eq_getElem (by rw [Uu]; exact Nat.mod_lt _ ir))
 dsimp only at TD
 rw [Nat.mul_comm, Nat.div_add_mod] at TD
 have : A.toList[q] = vv := by
  have EZ : q < A.size := by simpa using hq
  rw [Array.getElem?_eq_getElem EZ] at TD
  simpa using TD
 rw [this]; exact zt

theorem tL {P : Program} {tt : Table} (ht : TT P tt) {E : Env} {w : World} {a : Act} {st : St} (hs : aZ E w a st) {ts : Array TypeId} {ty : TypeId} {s x : V} {y z : Value} {size : Nat} {nR : Option (Nat × Nat)} {rows : List V} {key : Nat}
  (hk : dL st.mem key) (BP : aW E s y) (EX : aW E x z) (h : dr tt st.mem ts.toList s x = some (size, nR, rows)) :
  ∃ v w' E', (Builtin.append_ ts ty #[y, z]).run P w = .ok v w' ∧ aZ E' w' a { st with mem := (cu st.mem key size rows nR).1 } ∧ dn E w E' w' ∧ aW E' (cu st.mem key size rows nR).2 v := by
 unfold dr at h
 split at h
 ·rename_i t u Uv
  obtain rfl : ts = #[t, u] := by rw [← Array.toArray_toList (xs := ts), Uv]
  split at h
  ·rename_i it hT
   split at h
   ·rename_i e he
    split at h
    ·rename_i e' P7
     split at h
     ·rename_i i hE
      split at h
      ·rename_i hc
       obtain ⟨ir, rN, Dq⟩ := hc
       split at h
       ·rename_i X3 rs gM
        split at h
        ·rename_i xs mZ
         split at h
         ·rename_i hlen
          split at h
          case isFalse => cases h
          rename_i Uw
          simp only [Option.some.injEq,Prod.mk.injEq] at h
          obtain ⟨rfl, rfl, rfl⟩ := h
          obtain ⟨d, hd, -, kS, -⟩ := ht.desc t it hT
          obtain rfl := kS e he
          have BQ : ∃ e1, P.underlying u = some (.slice e1) := by
           unfold dw at P7
           split at P7
           ·rename_i iu hU
            obtain ⟨d, hd, -, kS, -⟩ := ht.desc u iu hU
            exact ⟨e', by rw [hd, kS e' P7]⟩
           ·simp at P7
          obtain ⟨e1, BQ⟩ := BQ
          obtain ⟨info, nQ, LK, QP, z0, MW, Fo⟩ := ht.size e i hE
          have I7 : z0.cells.size = info.size := by rw [LK, ← Dq, ← Fo]; simp
          rw [← LK] at mZ gM ir ⊢
          rw [← QP] at rN
          have zu : aZ E w.drew a st := hs.drew
          obtain ⟨xa, xc, rfl, X4, xA, rK, wZ⟩ := dM (P := P) hs EX mZ
          obtain ⟨X5, X6, heq, -, xB, I8, Fu⟩ := dM (P := P) zu EX mZ
          simp only [Value.slice.injEq] at heq
          obtain ⟨rfl, -, rfl⟩ := heq
          have Dr : ∀ dT, dT < rs.length + xs.length → Builtin.nextslicecap (rs.length + xs.length) dT * info.bytes ≤ 281474976710656 := fun dT az =>
           growslice_fits az (Nat.le_trans (Nat.mul_le_mul hlen rN) (by decide))
          have jb : (rs ++ xs).length = rs.length + xs.length := by simp
          have cH : ∀ dT, rs.length + xs.length ≤ grownCap w (rs.length + xs.length) dT e := fun dT => grownCap_ge w (rs.length + xs.length) dT e
          have k6 : ∀ (dT : Nat) (A : Array Value), qf E.pure info.size rs A → (A ++ xB ++ Builtin.zeroCells z0.cells (grownCap w (rs.length + xs.length) dT e - (rs.length + xs.length))).size = grownCap w (rs.length + xs.length) dT e * info.size := fun dT A X7 => by
           simp only [Array.size_append,size_zeroCells,I7,X7.1,Fu.1,← Nat.add_mul]
           congr 1; have := cH dT; omega
          unfold kY at gM
          split at gM
          ·-- nil
           simp only [Option.some.injEq,Prod.mk.injEq] at gM
           obtain ⟨rfl, rfl⟩ := gM
           obtain rfl := bZ BP
           by_cases h0 : xs.length = 0
           ·have QQ : xs = [] := List.length_eq_zero_iff.1 h0
            subst QQ
            exact ⟨_, w, E, ej (ty := ty) hd BQ nQ xc xa xA rK, hs.I5 hk info.size, dn.refl E w, .dc _ _ _ _⟩
           ·have cJ := fA (ty := ty) hd BQ nQ MW none 0 0 xs.length xc xa #[] xB rfl I8 (by omega) (by omega) (Dr 0 (by simp; omega))
            obtain ⟨E', h5, h6, h7⟩ := aZ.n5 zu (key := key) hk (xs := #[] ++ xB ++ Builtin.zeroCells z0.cells (grownCap w (([] : List V).length + xs.length) 0 e - (([] : List V).length + xs.length))) (rs := [] ++ xs) (e := info.size)
             (c := grownCap w (([] : List V).length + xs.length) 0 e) e (k6 0 #[] ⟨by simp, fun i row hi => by simp at hi⟩) (by rw [jb]; exact cH 0) (gv ⟨by simp, fun i row hi => by simp at hi⟩ Fu)
            refine ⟨_, _, E', cJ, h5, (dn.drew E w).trans h6, ?_⟩
            simp only [cu]
            rw [jb] at h7 ⊢
            exact h7
          ·-- rows BR room
           rename_i iq
           split at gM
           case isFalse => cases gM
           rename_i o5
           simp only [Option.some.injEq,Prod.mk.injEq] at gM
           obtain ⟨rfl, rfl⟩ := gM
           have nY : 0 < xs.length := by
            cases xs with
            | nil => simp [xr] at Uw
            | cons _ _ => simp
           cases BP with
           | full _ _ sa BP =>
           have MR : rowsOf st.mem info.size (.slice iq) = some iq := by simp only [rowsOf]; rw [if_pos o5]
           obtain ⟨WZ, sc, heq, jk, A, I9, BS⟩ := dM (P := P) zu BP MR
           simp only [Value.slice.injEq] at heq
           obtain ⟨rfl, -, rfl⟩ := heq
           have cJ := fA (ty := ty) hd BQ nQ MW sa iq.length iq.length xs.length xc xa A xB I9 I8 (by omega) (by omega) (Dr _ (by omega))
           obtain ⟨E', h5, h6, h7⟩ := aZ.n5 zu (key := key) hk (xs := A ++ xB ++ Builtin.zeroCells z0.cells (grownCap w (iq.length + xs.length) iq.length e - (iq.length + xs.length))) (rs := iq ++ xs) (e := info.size)
            (c := grownCap w (iq.length + xs.length) iq.length e) e (k6 iq.length A BS) (by rw [jb]; exact cH _) (gv BS Fu)
           refine ⟨_, _, E', cJ, h5, (dn.drew E w).trans h6, ?_⟩
           simp only [cu]
           rw [jb] at h7 ⊢
           exact h7
          ·rename_i b v l
           split at gM
           ·rename_i v' eb rs' hm
            split at gM
            ·rename_i LL
             obtain ⟨rfl, rfl, P8⟩ := LL
             simp only [Option.some.injEq,Prod.mk.injEq] at gM
             obtain ⟨rfl, rfl⟩ := gM
             have MR : rowsOf st.mem info.size (.ms b v' 0 l) = some rs' := by
              simp [rowsOf, hm, P8]
              rw [← P8]; simp
             obtain ⟨sa, sc, rfl, jk, A, I9, BS⟩ := dM (P := P) zu BP MR
             simp only [cu]
             by_cases oe : rs'.length + xs.length ≤ sc
             ·-- there is room
              rcases vA BP with ⟨QI, mM⟩ | ⟨g, TE, c, WZ, X8, mM, hb, hl, Fg, ue⟩
              ·simp only [Value.slice.injEq] at mM
               obtain ⟨rfl, Ux, rfl⟩ := mM
               have nY : xs = [] := List.length_eq_zero_iff.1 (by omega)
               have MX : rs' = [] := List.length_eq_zero_iff.1 (by omega)
               subst nY; subst MX
               exact ⟨_, w, E, ej (ty := ty) hd BQ nQ xc xa xA rK, hs.xt hm, dn.refl E w, .dc _ _ _ _⟩
              ·simp only [Value.slice.injEq] at mM
               obtain ⟨rfl, -, rfl⟩ := mM
               obtain ⟨rfl, X9⟩ := Fg rfl
               have Uy := X9.symm
               subst Uy
               rcases hs.mem b _ hm with ⟨-, hn⟩ | ⟨g', T', cur, c', eN, hh, tD, jo, uf, hf⟩
               ·rw [hb] at hn; cases hn
               rw [hb] at eN; cases eN
               have rO : rs'.length * info.size + xA.toList.length ≤ cur.size := by
                have := wZ.1
                simp only [Array.length_toList]
                rw [this, tD, ← Nat.add_mul]; exact Nat.mul_le_mul_right _ oe
               obtain ⟨w', gR, IG, vB⟩ := e9 (P := P) (g := g) (T := T') (rs'.length * info.size) xA.toList 0 w cur hh (by simpa using rO) (qh ir wZ)
               have cJ := rL (ty := ty) hd BQ nQ g rs'.length c xs.length xc xa xA rK oe gR
               have hle : E.le (E.with b (v' + 1) (g, info.size, c)) := Env.gu (hs.aA b _ hm _ (Nat.lt_succ_self v')) _
               have ca : (E.with b (v' + 1) (g, info.size, c)).aK b (v' + 1) = some (g, info.size, c) := if_pos ⟨rfl, rfl⟩
               refine ⟨_, w', E.with b (v' + 1) (g, info.size, c), cJ, hs.renew hm (fun ad y hy => ?_) (by rw [vB.size]; exact Nat.le_refl _) (by rw [vB.size]; exact hs.lt _ _ _ _ _ hb) (fun k B' dD eP LM g' e' c' dS => ?_) ?_ (fun k v2 e2 c2 h => hs.apart _ _ _ _ _ _ _ _ _ h hb),
                ⟨hle, fun k q g' e' c' dD => ?_, fun ad y hy => .inl hy, vB.os, vB.tape, vB.output, by rw [vB.size]; exact Nat.le_refl _, fun b' eN bL => vB.heap b' fun e => by subst e; exact bL _ _ _ _ hb⟩, ?_⟩
               ·have bL := hs.vq hf hy
                rw [← hs.F ad y hy]; simp [World.cell?, vB.heap _ bL]
               ·have QR : g' ≠ g := fun e => by
                 subst e
                 exact dD (hs.apart _ _ _ _ _ _ _ _ _ dS hb)
                exact ⟨vB.heap _ QR, QR⟩
               ·refine .inr ⟨g, T', _, c, ca, IG, by rw [fw]; exact tD, by rw [jb]; exact oe, ?_, hf⟩
                intro q row hq
                simp only [Nat.add_zero]
                have xu : xA.toList.length = xs.length * info.size := by simpa using wZ.1
                rw [List.getElem?_append] at hq
                split at hq
                ·rename_i az
                 obtain ⟨h3, h4⟩ := uf q row hq
                 refine ⟨h3, fun j cc hj => ?_⟩
                 obtain ⟨v, hv, zt, Ds⟩ := h4 j cc hj
                 have qb : j < info.size := by rw [← h3]; exact (List.getElem?_eq_some_iff.1 hj).1
                 refine ⟨v, ?_, zt, Ds⟩
                 rw [eA _ _ _ _ rO, if_neg (by have := rJ az qb; omega)]
                 exact hv
                ·rename_i Uz
                 obtain ⟨h3, h4⟩ := wZ.2 _ row hq
                 refine ⟨h3, fun j cc hj => ?_⟩
                 obtain ⟨v, hv, zt, Ds⟩ := h4 j cc hj
                 have qb : j < info.size := by rw [← h3]; exact (List.getElem?_eq_some_iff.1 hj).1
                 have QS : q - rs'.length < xs.length := (List.getElem?_eq_some_iff.1 hq).1
                 have hmul : q * info.size = rs'.length * info.size + (q - rs'.length) * info.size := by rw [← Nat.add_mul]; congr 1; omega
                 refine ⟨v, ?_, zt, Ds⟩
                 rw [eA _ _ _ _ rO, if_pos (by have := rJ QS qb; omega)]
                 dsimp only at hv
                 rw [← hv, Array.getElem?_toList]
                 congr 1; omega
               ·by_cases hq : k = b ∧ q = v' + 1
                ·obtain ⟨rfl, rfl⟩ := hq; rw [ca] at dD; cases dD; exact .inl ⟨_, _, _, _, hb⟩
                ·have : (E.with b (v' + 1) (g, info.size, c)).aK k q = E.aK k q := if_neg hq
                 rw [this] at dD; exact .inl ⟨_, _, _, _, dD⟩
               ·rw [jb]
                exact .ms _ _ _ _ _ g info.size c _ _ ca (fun _ => by simp) (fun _ => ⟨rfl, rfl⟩) ⟨oe, Nat.zero_add _, fun _ => by simp⟩
             ·-- a new block
              have az : sc < rs'.length + xs.length := by omega
              have cJ := fA (ty := ty) hd BQ nQ MW sa rs'.length sc xs.length xc xa A xB I9 I8 az (by omega) (Dr sc az)
              have hle : E.le (E.with b (v' + 1) (w.heap.size, info.size, grownCap w (rs'.length + xs.length) sc e)) := Env.gu (hs.aA b _ hm _ (Nat.lt_succ_self v')) _
              have ca : (E.with b (v' + 1) (w.heap.size, info.size, grownCap w (rs'.length + xs.length) sc e)).aK b (v' + 1) = some (w.heap.size, info.size, grownCap w (rs'.length + xs.length) sc e) := if_pos ⟨rfl, rfl⟩
              refine ⟨_, _, E.with b (v' + 1) (w.heap.size, info.size, grownCap w (rs'.length + xs.length) sc e), cJ, hs.renew hm (fun ad y hy => ?_) (by simp) (by simp) (fun k B' dD eP LM g' e' c' dS => ?_) ?_ (fun k v2 e2 c2 h => absurd (hs.lt _ _ _ _ _ h) (Nat.lt_irrefl _)),
               ⟨hle, fun k q g' e' c' dD => ?_, fun ad y hy => .inl hy, rfl, rfl, rfl, by simp, fun b' eN bL => Go.RowKit.Below.heap_alloc w.drew _ b' eN⟩, ?_⟩
              ·rw [World.cell?_alloc_lt w.drew _ ad (World.block_lt_of_cell? w ad (hs.F ad y hy))]; exact hs.F ad y hy
              ·have := hs.lt _ _ _ _ _ dS
               exact ⟨Go.RowKit.Below.heap_alloc w.drew _ g' this, by omega⟩
              ·refine .inr ⟨w.heap.size, e, _, _, ca, heap_alloc_new w.drew _, k6 sc A BS, by rw [jb]; exact cH sc, ?_, fun o => ?_⟩
               ·intro q row hq
                obtain ⟨h3, h4⟩ := gv (C := Builtin.zeroCells z0.cells (grownCap w (rs'.length + xs.length) sc e - (rs'.length + xs.length))) BS Fu q row hq
                exact ⟨h3, fun j cc hj => let ⟨v, hv, zt, Ds⟩ := h4 j cc hj; ⟨v, hv, zt, Ds.mono (Env.fq hle)⟩⟩
               ·show E.F _ = none
                cases hx : E.F ⟨w.heap.size, o, none⟩ with
                | none => rfl
                | some x => have := World.block_lt_of_cell? w _ (hs.F _ _ hx); simp at this
              ·by_cases hq : k = b ∧ q = v' + 1
               ·obtain ⟨rfl, rfl⟩ := hq; rw [ca] at dD; cases dD; exact .inr (Nat.le_refl _)
               ·have : (E.with b (v' + 1) (w.heap.size, info.size, grownCap w (rs'.length + xs.length) sc e)).aK k q = E.aK k q := if_neg hq
                rw [this] at dD; exact .inl ⟨_, _, _, _, dD⟩
              ·rw [jb]
               exact .ms _ _ _ _ _ w.heap.size info.size _ _ _ ca (fun _ => by simp) (fun _ => ⟨rfl, rfl⟩) ⟨cH sc, Nat.zero_add _, fun _ => by simp⟩
            ·simp at gM
           ·simp at gM
          ·simp at gM
         ·simp at h
        ·simp at h
       ·simp at h
      ·simp at h
     ·simp at h
    ·simp at h
   ·simp at h
  ·simp at h
 ·simp at h
end Go.Eng
end

section
namespace Go.Eng
variable [aE]

theorem cx.set {E : Env} {bm : List (Value × Nat × V)} {es : List MapEntry} (h : cx E bm es) (i : Nat) {kb : Value × Nat × V} {e : MapEntry} (h1 : e.key = kb.1) (h2 : e.born = kb.2.1) (h3 : aW E kb.2.2 e.val) : cx E (bm.set i kb) (es.set i e) := by
  refine ⟨by simp [h.1], fun j k e' hk he => ?_⟩
  by_cases rP : i = j
  · subst rP
    rw [List.getElem?_set] at hk he
    simp only [if_true] at hk he
    split at hk
    · split at he
      · cases hk; cases he; exact ⟨h1, h2, h3⟩
      · cases he
    · cases hk
  · rw [List.getElem?_set_ne rP] at hk he; exact h.2 j k e' hk he
theorem cx.push {E : Env} {bm : List (Value × Nat × V)} {es : List MapEntry} (h : cx E bm es) {kb : Value × Nat × V} {e : MapEntry} (h1 : e.key = kb.1) (h2 : e.born = kb.2.1) (h3 : aW E kb.2.2 e.val) : cx E (bm ++ [kb]) (es ++ [e]) := by
  refine ⟨by simp [h.1], fun j k e' hk he => ?_⟩
  by_cases hj : j < bm.length
  · rw [List.getElem?_append_left hj] at hk; rw [List.getElem?_append_left (by have := h.1; omega)] at he; exact h.2 j k e' hk he
  · rw [List.getElem?_append_right (by omega)] at hk; rw [List.getElem?_append_right (by have := h.1; omega)] at he
    rw [h.1] at hk
    cases hd : j - es.length with
    | zero => rw [hd] at hk he; simp at hk he; subst hk; subst he; exact ⟨h1, h2, h3⟩
    | succ n => rw [hd] at hk; simp at hk
theorem cx.erase {E : Env} : ∀ {bm : List (Value × Nat × V)} {es : List MapEntry}, cx E bm es → ∀ (i : Nat), cx E (bm.eraseIdx i) (es.eraseIdx i)
  | [], es, h, i => by rw [h.of_nil]; exact ⟨rfl, fun j k e hk => by simp at hk⟩
  | k :: r, es, h, i => by
    obtain ⟨e, es', rfl, h1, h2, h3, h4⟩ := h.of_cons
    cases i with
    | zero => exact h4
    | succ i =>
      have h5 := cx.erase h4 i
      simp only [List.eraseIdx_cons_succ]
      refine ⟨by simp [h5.1], fun j k' e' hk he => ?_⟩
      cases j with
      | zero => simp at hk he; subst hk; subst he; exact ⟨h1, h2, h3⟩
      | succ j => exact h5.2 j k' e' (by simpa using hk) (by simpa using he)

def insertAt (P : Program) (kt : TypeId) (key : Value) (v : V) (bm : List (Value × Nat × V)) (clock : Nat) : Option (List (Value × Nat × V) × Nat) :=
  match kE P kt key bm with
  | some (some (i, _)) => match bm[i]? with
    | some e => if Instr.sameBits 10000 e.1 key = true then some (bm.set i (key, e.2.1, v), clock) else none
    | none => none
  | some none => some (bm ++ [(key, clock, v)], clock + 1)
  | none => none
def cn (P : Program) (mem : List aw) (T : TypeId) (m k v : V) : Option (List aw) :=
  match cQ P T with
  | some (kt, _) => match bw k with
    | some key => if mJ P kt key = true then
        match m with
        | .mp b => match mem[b]? with
          | some (.map bm clock) => match insertAt P kt key v bm clock with
            | some (kvs', clock') => some (mem.set b (.map kvs' clock'))
            | none => none
          | _ => none
        | _ => none
      else none
    | none => none
  | none => none
def BT (P : Program) (kt et : TypeId) (key : Value) (bm : List (Value × Nat × V)) (clock : Nat) : Option (List (Value × Nat × V) × Nat × V) :=
  match kE P kt key bm with
  | some (some (i, v)) => match bm[i]? with
    | some e => if Instr.sameBits 10000 e.1 key = true then some (bm.set i (key, e.2.1, e.2.2), clock, .bP [v, .sc (.int .i64 e.2.1)]) else none
    | none => none
  | some none => match zeroV P et with
    | some z => some (bm ++ [(key, clock, z)], clock + 1, .bP [z, .sc (.int .i64 clock)])
    | none => none
  | none => none
def o7 (P : Program) (mem : List aw) (T : TypeId) (m k : V) : Option (List aw × V) :=
  match cQ P T with
  | some (kt, et) => match bw k with
    | some key => if mJ P kt key = true then
        match m with
        | .mp b => match mem[b]? with
          | some (.map bm clock) => match BT P kt et key bm clock with
            | some (kvs', clock', v) => some (mem.set b (.map kvs' clock'), v)
            | none => none
          | _ => none
        | _ => none
      else none
    | none => none
  | none => none
def o8 (mem : List aw) (m s v : V) : Option (List aw) :=
  match m, s with
  | .mp b, .sc (.int _ n) => match mem[b]? with
    | some (.map bm clock) => match bm.findIdx? (fun e => (e.2.1 : Int) == n) with
      | some i => match bm[i]? with
        | some e => some (mem.set b (.map (bm.set i (e.1, e.2.1, v)) clock))
        | none => none
      | none => none
    | _ => none
  | _, _ => none
def l0 (P : Program) (mem : List aw) (ts : Array TypeId) : List V → Option (List aw)
  | [.mp b, k] => match ts[0]? with
    | some T => match cQ P T with
      | some (kt, _) => match bw k with
        | some key => if mJ P kt key = true then
            match mem[b]? with
            | some (.map bm clock) => match kE P kt key bm with
              | some (some (i, _)) => some (mem.set b (.map (bm.eraseIdx i) clock))
              | some none => some (mem.set b (.map bm clock))
              | none => none
            | _ => none
          else none
        | none => none
      | none => none
    | none => none
  | _ => none

theorem k7 {w : World} {g : Nat} {o : Obj} : n9 w { w with heap := w.heap.setIfInBounds g o } g :=
  ⟨rfl, rfl, rfl, by simp, fun b hb => Array.getElem?_setIfInBounds_ne (fun e => hb e.symm)⟩
theorem heap_set {w : World} {g : Nat} {o o' : Obj} (h : w.heap[g]? = some o) : ({ w with heap := w.heap.setIfInBounds g o' } : World).heap[g]? = some o' := by
  have : g < w.heap.size := by
    rcases Nat.lt_or_ge g w.heap.size with h1 | h1
    · exact h1
    · rw [Array.getElem?_eq_none h1] at h; cases h
  simp [this]
theorem aZ.jU {E : Env} {w : World} {a : Act} {st : St} (hs : aZ E w a st) {b g e c : Nat} {bm kvs' : List (Value × Nat × V)} {clock clock' : Nat} {es es' : Array MapEntry} (hm : st.mem[b]? = some (.map bm clock)) (hb : E.aK b 0 = some (g, e, c)) (hh : w.heap[g]? = some (.map es clock))
    (hf : ∀ o, E.F ⟨g, o, none⟩ = none) (hr : cx E kvs' es'.toList) :
    aZ E { w with heap := w.heap.setIfInBounds g (.map es' clock') } a { st with mem := st.mem.set b (.map kvs' clock') } ∧ dn E w E { w with heap := w.heap.setIfInBounds g (.map es' clock') } := by
  obtain ⟨-, -, -, -, h0⟩ := gr hs hm hb
  cases h0
  exact hs.xp hm rfl (B' := .map kvs' clock') rfl hb hf k7 ⟨g, es', hb, heap_set hh, hr, hf⟩

theorem nb {es : Array MapEntry} {i : Nat} {e : MapEntry} (h : es[i]? = some e) (f : MapEntry → MapEntry) : (es.modify i f).toList = es.toList.set i (f e) := by
  apply List.ext_getElem?
  intro j
  rw [Array.getElem?_toList, Array.getElem?_modify, List.getElem?_set]
  by_cases rP : i = j
  · subst rP
    have : i < es.size := (Array.getElem?_eq_some_iff.1 h).1
    have he : es[i] = e := (Array.getElem?_eq_some_iff.1 h).2
    simp [this, he]
  · simp [rP]
theorem uj {P : Program} {w : World} {nR new : Value} (h : Instr.sameBits 10000 nR new = true) : (Instr.keyThatStays nR new).run P w = .ok new w := by simp [Instr.keyThatStays, h]

theorem mN {P : Program} {E : Env} {w : World} {a : Act} {st : St} (hs : aZ E w a st) {T : TypeId} {m k v : V} {x y z : Value} {aD : List aw} (hm : aW E m x) (hk : aW E k y) (hv : aW E v z) (h : cn P st.mem T m k v = some aD) :
    ∃ w', (Instr.mapUpdate T x y z).run P w = .ok () w' ∧ aZ E w' a { st with mem := aD } ∧ dn E w E w' := by
  unfold cn at h
  split at h
  · rename_i kt et hd
    have hd := eZ hd
    split at h
    · rename_i key ca
      cases eK hk ca
      split at h
      · rename_i bK
        have EW := fun b => iO bK b w
        split at h
        · rename_i b
          obtain ⟨g, e, c, rfl, hb⟩ := mX hm
          split at h
          · rename_i bm clock hB
            obtain ⟨es, hh, hr, hf, -⟩ := gr hs hB hb
            split at h
            · rename_i kvs' clock' hi
              cases h
              unfold insertAt at hi
              split at hi
              · rename_i i u Fv
                obtain ⟨r', h1, h2⟩ := de hr w Fv
                match r', h2 with
                | some (j', z'), h2 =>
                  obtain ⟨rfl, h3, kb, en, h4, h5, h6, h7⟩ := h2
                  have MY : es[i]? = some en := by simpa using h5
                  split at hi
                  · rename_i Ya dD
                    rw [dD] at h4; cases h4
                    split at hi
                    · rename_i Fw
                      cases hi
                      obtain ⟨p1, p2, p3⟩ := hr.2 i _ _ dD h5
                      have cJ : (Instr.mapUpdate T (.map (some g)) y z).run P w = .ok () { w with heap := w.heap.setIfInBounds g (.map (es.modify i fun e => { e with key := y, val := z }) clock) } := by
                        have := dK (P := P) (o' := .map (es.modify i fun e => { e with key := y, val := z }) clock) hh (by simp)
                        simp [Instr.mapUpdate, ao hd, cf hh, EW, h1, MY, p1, uj Fw, this]
                      obtain ⟨q1, q2⟩ := hs.jU hB hb hh hf (clock' := clock) (kvs' := bm.set i (y, kb.2.1, v)) (es' := es.modify i fun e => { e with key := y, val := z }) (by rw [nb MY]; exact hr.set i rfl p2 hv)
                      exact ⟨_, cJ, q1, q2⟩
                    · cases hi
                  · cases hi
              · rename_i Fv
                obtain ⟨r', h1, h2⟩ := de hr w Fv
                match r', h2 with
                | none, h2 =>
                  cases hi
                  have cJ : (Instr.mapUpdate T (.map (some g)) y z).run P w = .ok () { w with heap := w.heap.setIfInBounds g (.map (es.push { key := y, val := z, born := clock }) (clock + 1)) } := by
                    have := dK (P := P) (o' := .map (es.push { key := y, val := z, born := clock }) (clock + 1)) hh (by simp)
                    simp [Instr.mapUpdate, ao hd, cf hh, EW, h1, this]
                  obtain ⟨q1, q2⟩ := hs.jU hB hb hh hf (clock' := clock + 1) (kvs' := bm ++ [(y, clock, v)]) (es' := es.push { key := y, val := z, born := clock }) (by rw [Array.toList_push]; exact hr.push rfl rfl hv)
                  exact ⟨_, cJ, q1, q2⟩
              · cases hi
            · cases h
          · cases h
        · cases h
      · cases h
    · cases h
  · cases h

theorem xv {E : Env} {v : V} {x : Value} (h : aW E v x) (n : Nat) : aW E (.bP [v, .sc (.int .i64 n)]) (.tuple #[x, goInt n]) := by
  refine .bP _ _ _ rfl fun i c y hc hy => ?_
  match i with
  | 0 => simp at hc hy; subst hc; subst hy; exact h
  | 1 => simp at hc hy; subst hc; subst hy; exact .sc _ _
  | i + 2 => simp at hc
theorem vC {P : Program} {E : Env} {w : World} {a : Act} {st : St} (hs : aZ E w a st) {T : TypeId} {m k v : V} {x y : Value} {aD : List aw} (hm : aW E m x) (hk : aW E k y) (h : o7 P st.mem T m k = some (aD, v)) :
    ∃ z w', (Instr.mapEntry T x y).run P w = .ok z w' ∧ aZ E w' a { st with mem := aD } ∧ dn E w E w' ∧ aW E v z := by
  unfold o7 at h
  split at h
  · rename_i kt et hd
    have hd := eZ hd
    split at h
    · rename_i key ca
      cases eK hk ca
      split at h
      · rename_i bK
        have EW := fun b => iO bK b w
        split at h
        · rename_i b
          obtain ⟨g, e, c, rfl, hb⟩ := mX hm
          split at h
          · rename_i bm clock hB
            obtain ⟨es, hh, hr, hf, -⟩ := gr hs hB hb
            split at h
            · rename_i kvs' clock' v' hi
              cases h
              unfold BT at hi
              split at hi
              · rename_i i u Fv
                obtain ⟨r', h1, h2⟩ := de hr w Fv
                match r', h2 with
                | some (j', z'), h2 =>
                  obtain ⟨rfl, h3, kb, en, h4, h5, h6, h7⟩ := h2
                  have MY : es[i]? = some en := by simpa using h5
                  split at hi
                  · rename_i Ya dD
                    rw [dD] at h4; cases h4
                    split at hi
                    · rename_i Fw
                      cases hi
                      obtain ⟨p1, p2, p3⟩ := hr.2 i _ _ dD h5
                      have cJ : (Instr.mapEntry T (.map (some g)) y).run P w = .ok (.tuple #[z', goInt en.born]) { w with heap := w.heap.setIfInBounds g (.map (es.modify i fun e => { e with key := y }) clock) } := by
                        have := dK (P := P) (o' := .map (es.modify i fun e => { e with key := y }) clock) hh (by simp)
                        simp [Instr.mapEntry, ao hd, cf hh, EW, h1, MY, p1, uj Fw, this]
                      obtain ⟨q1, q2⟩ := hs.jU hB hb hh hf (clock' := clock) (kvs' := bm.set i (y, kb.2.1, kb.2.2)) (es' := es.modify i fun e => { e with key := y }) (by rw [nb MY]; exact hr.set i rfl p2 p3)
                      exact ⟨_, _, cJ, q1, q2, by rw [p2]; exact xv h3 _⟩
                    · cases hi
                  · cases hi
              · rename_i Fv
                obtain ⟨r', h1, h2⟩ := de hr w Fv
                match r', h2 with
                | none, h2 =>
                  split at hi
                  · rename_i z0 MW
                    cases hi
                    obtain ⟨zz, h3, h4⟩ := kV MW E w
                    have cJ : (Instr.mapEntry T (.map (some g)) y).run P w = .ok (.tuple #[zz, goInt clock]) { w with heap := w.heap.setIfInBounds g (.map (es.push { key := y, val := zz, born := clock }) (clock + 1)) } := by
                      have := dK (P := P) (o' := .map (es.push { key := y, val := zz, born := clock }) (clock + 1)) hh (by simp)
                      simp [Instr.mapEntry, ao hd, cf hh, EW, h1, h3, this]
                    obtain ⟨q1, q2⟩ := hs.jU hB hb hh hf (clock' := clock + 1) (kvs' := bm ++ [(y, clock, z0)]) (es' := es.push { key := y, val := zz, born := clock }) (by rw [Array.toList_push]; exact hr.push rfl rfl h4)
                    exact ⟨_, _, cJ, q1, q2, xv h4 _⟩
                  · cases hi
              · cases hi
            · cases h
          · cases h
        · cases h
      · cases h
    · cases h
  · cases h

theorem qi {E : Env} (n : Int) : ∀ {bm : List (Value × Nat × V)} {es : List MapEntry}, cx E bm es → bm.findIdx? (fun e => (e.2.1 : Int) == n) = es.findIdx? (fun e => (e.born : Int) == n)
  | [], es, h => by rw [h.of_nil]; rfl
  | k :: r, es, h => by
    obtain ⟨e, es', rfl, h1, h2, h3, h4⟩ := h.of_cons
    rw [List.findIdx?_cons, List.findIdx?_cons, h2, qi n h4]
theorem vD {P : Program} {E : Env} {w : World} {a : Act} {st : St} (hs : aZ E w a st) {T : TypeId} {m s v : V} {x y z : Value} {aD : List aw} (hm : aW E m x) (hk : aW E s y) (hv : aW E v z) (h : o8 st.mem m s v = some aD) :
    ∃ w', (Instr.entryStore T x y z).run P w = .ok () w' ∧ aZ E w' a { st with mem := aD } ∧ dn E w E w' := by
  unfold o8 at h
  split at h
  · rename_i b k n
    obtain ⟨g, e, c, rfl, hb⟩ := mX hm
    obtain rfl := lX hk
    split at h
    · rename_i bm clock hB
      obtain ⟨es, hh, hr, hf, -⟩ := gr hs hB hb
      split at h
      · rename_i i hi
        split at h
        · rename_i kb dD
          cases h
          obtain ⟨en, h5, p1, p2, p3⟩ := hr.get dD
          have MY : es[i]? = some en := by simpa using h5
          have MZ : es.findIdx? (fun e => (e.born : Int) == n) = some i := by
            rw [qi n hr, ← List.findIdx?_toArray, Array.toArray_toList] at hi; exact hi
          have cJ : (Instr.entryStore T (.map (some g)) (.int k n) z).run P w = .ok () { w with heap := w.heap.setIfInBounds g (.map (es.modify i fun e => { e with val := z }) clock) } := by
            have := dK (P := P) (o' := .map (es.modify i fun e => { e with val := z }) clock) hh (by simp)
            simp [Instr.entryStore, cf hh, asInt, asIntOf, MZ, this]
          obtain ⟨q1, q2⟩ := hs.jU hB hb hh hf (clock' := clock) (kvs' := bm.set i (kb.1, kb.2.1, v)) (es' := es.modify i fun e => { e with val := z }) (by rw [nb MY]; exact hr.set i p1 p2 hv)
          exact ⟨_, cJ, q1, q2⟩
        · cases h
      · cases h
    · cases h
  · cases h

theorem tM {P : Program} {E : Env} {w : World} {a : Act} {st : St} (hs : aZ E w a st) {ts : Array TypeId} {ty : TypeId} {xs : List V} {ys : Array Value} {aD : List aw} (hx : aP E xs ys.toList) (h : l0 P st.mem ts xs = some aD) :
    ∃ w', (Builtin.delete_ ts ty ys).run P w = .ok (.tuple #[]) w' ∧ aZ E w' a { st with mem := aD } ∧ dn E w E w' := by
  unfold l0 at h
  split at h
  · rename_i b k
    obtain ⟨x, r, hy, zO, hx⟩ := hx.of_cons
    obtain ⟨y, r2, hz, qN, hx⟩ := hx.of_cons
    have := hx.of_nil
    subst this; subst hz
    obtain rfl : ys = #[x, y] := by rw [← Array.toArray_toList (xs := ys), hy]
    obtain ⟨g, e, c, rfl, hb⟩ := mX zO
    split at h
    · rename_i T h0
      split at h
      · rename_i kt et hd
        have hd := eZ hd
        split at h
        · rename_i key ca
          cases eK qN ca
          split at h
          · rename_i bK
            have EW := fun b => iO bK b w
            split at h
            · rename_i bm clock hB
              obtain ⟨es, hh, hr, hf, -⟩ := gr hs hB hb
              split at h
              · rename_i i u Fv
                cases h
                obtain ⟨r', h1, h2⟩ := de hr w Fv
                match r', h2 with
                | some (j', z'), h2 =>
                  obtain ⟨rfl, h3, kb, en, h4, h5, h6, h7⟩ := h2
                  have cJ : (Builtin.delete_ ts ty #[.map (some g), y]).run P w = .ok (.tuple #[]) { w with heap := w.heap.setIfInBounds g (.map (es.eraseIdxIfInBounds i) clock) } := by
                    have := dK (P := P) (o' := .map (es.eraseIdxIfInBounds i) clock) hh (by simp)
                    simp [Builtin.delete_, h0, ao hd, cf hh, EW, h1, this]
                  obtain ⟨q1, q2⟩ := hs.jU hB hb hh hf (clock' := clock) (kvs' := bm.eraseIdx i) (es' := es.eraseIdxIfInBounds i) (by rw [Array.toList_eraseIdxIfInBounds]; exact hr.erase i)
                  exact ⟨_, cJ, q1, q2⟩
              · rename_i Fv
                cases h
                obtain ⟨r', h1, h2⟩ := de hr w Fv
                match r', h2 with
                | none, h2 =>
                  have cJ : (Builtin.delete_ ts ty #[.map (some g), y]).run P w = .ok (.tuple #[]) { w with heap := w.heap.setIfInBounds g (.map es clock) } := by
                    have := dK (P := P) (o' := .map es clock) hh (by simp)
                    simp [Builtin.delete_, h0, ao hd, cf hh, EW, h1, this]
                  obtain ⟨q1, q2⟩ := hs.jU hB hb hh hf (clock' := clock) (kvs' := bm) (es' := es) hr
                  exact ⟨_, cJ, q1, q2⟩
              · cases h
            · cases h
          · cases h
        · cases h
      · cases h
    · cases h
  · cases h

/-! ### ranging -/

def leftOf (bm : List (Value × Nat × V)) (seen : List Nat) : List (Value × Nat × V) := bm.filter fun e => !seen.contains e.2.1
def rQ (bm : List (Value × Nat × V)) (seen : List Nat) (since : Nat) : List (Value × Nat × V) := (leftOf bm seen).filter fun e => e.2.1 < since
def Fx (bm : List (Value × Nat × V)) (seen : List Nat) (since : Nat) : List (Value × Nat × V) := (leftOf bm seen).filter fun e => e.2.1 ≥ since
def vE (bm : List (Value × Nat × V)) (seen : List Nat) (last : Nat) : Bool := !seen.isEmpty && !bm.isEmpty && bm.all fun e => e.2.1 ≥ last
def rR : V := .bP [.sc (.bool false)]
def Fy (e : Value × Nat × V) : V := .bP [.sc (.bool true), dF e.1, e.2.2]
def LN (s : ByteArray) (pos : Nat) : V := .bP [.sc (.bool true), .sc (.int .i64 pos), .sc (.int .i32 (Utf8.decode s pos).1)]
def og (st : St) (dst : Option Tmp) (it : V) (str : Bool) (Q : St → Prop) : Prop :=
  match it with
  | .ptr b 0 => match st.mem[b]? with
    | some (.eh m since seen last) => match st.mem[m]? with
      | some (.map bm clock) => str = false ∧ vE bm seen last = false ∧ (rQ bm seen since = [] → Q (st.put dst rR)) ∧
          ∀ e ∈ rQ bm seen since ++ Fx bm seen since, Q ({ st with mem := st.mem.set b (.eh m since (seen ++ [e.2.1]) clock) }.put dst (Fy e))
      | _ => False
    | some (.gJ s pos) => str = true ∧ if pos < s.size then Q ({ st with mem := st.mem.set b (.gJ s (pos + (Utf8.decode s pos).2)) }.put dst (LN s pos)) else Q (st.put dst rR)
    | some .ig => str = false ∧ Q (st.put dst rR)
    | _ => False
  | _ => False

theorem cx.filter {E : Env} (p : Nat → Bool) : ∀ {bm : List (Value × Nat × V)} {es : List MapEntry}, cx E bm es → cx E (bm.filter fun e => p e.2.1) (es.filter fun e => p e.born)
  | [], es, h => by rw [h.of_nil]; exact ⟨rfl, fun j k e hk => by simp at hk⟩
  | k :: r, es, h => by
    obtain ⟨e, es', rfl, h1, h2, h3, h4⟩ := h.of_cons
    have h5 := cx.filter p h4
    simp only [List.filter_cons,h2]
    split
    · refine ⟨by simp [h5.1], fun j k' e' hk he => ?_⟩
      cases j with
      | zero => simp at hk he; subst hk; subst he; exact ⟨h1, h2, h3⟩
      | succ j => exact h5.2 j k' e' (by simpa using hk) (by simpa using he)
    · exact h5
theorem cx.all {E : Env} (p : Nat → Bool) : ∀ {bm : List (Value × Nat × V)} {es : List MapEntry}, cx E bm es → (bm.all fun e => p e.2.1) = es.all fun e => p e.born
  | [], es, h => by rw [h.of_nil]; rfl
  | k :: r, es, h => by
    obtain ⟨e, es', rfl, h1, h2, h3, h4⟩ := h.of_cons
    simp only [List.all_cons,h2,cx.all p h4]
theorem cx.append {E : Env} {a b : List (Value × Nat × V)} {x y : List MapEntry} (h : cx E a x) (k : cx E b y) : cx E (a ++ b) (x ++ y) := by
  refine ⟨by simp [h.1, k.1], fun j kk e hk he => ?_⟩
  by_cases hj : j < a.length
  · rw [List.getElem?_append_left hj] at hk; rw [List.getElem?_append_left (by have := h.1; omega)] at he; exact h.2 j kk e hk he
  · rw [List.getElem?_append_right (by omega)] at hk; rw [List.getElem?_append_right (by have := h.1; omega)] at he
    rw [h.1] at hk
    exact k.2 _ kk e hk he
theorem Dt {E : Env} {k : Value × Nat × V} {e : MapEntry} (h1 : e.key = k.1) (h3 : aW E k.2.2 e.val) : aW E (Fy k) (.tuple #[.bool true, e.key, e.val]) := by
  refine .bP _ _ _ rfl fun i c y hc hy => ?_
  match i with
  | 0 => simp at hc hy; subst hc; subst hy; exact .sc _ _
  | 1 => simp at hc hy; subst hc; subst hy; rw [h1]; exact ft E _
  | 2 => simp at hc hy; subst hc; subst hy; exact h3
  | i + 3 => simp at hc

theorem rS {P : Program} {w : World} {n : Nat} (hn : 0 < n) : ∃ i w', (choose (.mapNext n)).run P w = .ok i w' ∧ i < n ∧ (w' = w ∨ w' = w.drew) := by
  unfold choose
  rw [Sem.run]
  split
  · exact ⟨0, w, rfl, hn, .inl rfl⟩
  · exact ⟨_, _, rfl, Nat.mod_lt _ hn, .inr rfl⟩
theorem aZ.M0 {E : Env} {w w' : World} {a : Act} {st : St} (hs : aZ E w a st) (h : w' = w ∨ w' = w.drew) : aZ E w' a st ∧ dn E w E w' ∧ w'.heap = w.heap := by
  rcases h with rfl | rfl
  · exact ⟨hs, dn.refl _ _, rfl⟩
  · exact ⟨hs.drew, dn.drew _ _, rfl⟩
theorem xw {P : Program} {E : Env} {w : World} {a : Act} {st : St} (hs : aZ E w a st) {dst : Option Tmp} {it : V} {x : Value} {str : Bool} {ty : TypeId} {Q : St → Prop} (hi : aW E it x) (h : og st dst it str Q) :
    ∃ z w' st', (Instr.next x str ty).run P w = .ok z w' ∧ aZ E w' (a.put dst z) st' ∧ dn E w E w' ∧ Q st' := by
  unfold og at h
  split at h
  · rename_i b
    split at h
    · rename_i m since seen last hB
      split at h
      · rename_i bm clock hM
        obtain ⟨rfl, gR, QT, aV⟩ := h
        obtain ⟨g, gm, em, cm, hb, IE, hh, hf⟩ := hs.mem b _ hB
        obtain ⟨es, Uo, hr, XW, h0⟩ := gr hs hM IE
        cases h0
        cases hi with
        | ptr _ _ _ g' e' c' eN =>
        rw [hb] at eN; cases eN
        have eR : (getObj g).run P w = .ok (.mapIter (some gm) since seen.toArray last) w := by simp [getObj, Sem.run, hh]
        have M1 : (!seen.toArray.isEmpty && !es.isEmpty && es.all (fun e => decide (e.born ≥ last))) = false := by
          rw [← gR]
          unfold vE
          have e1 : seen.toArray.isEmpty = seen.isEmpty := by simp
          have e2 : es.isEmpty = bm.isEmpty := by
            have h1 := hr.1
            rw [Bool.eq_iff_iff, Array.isEmpty_iff_size_eq_zero, List.isEmpty_iff, ← List.length_eq_zero_iff, h1, Array.length_toList]
          rw [e1, e2, ← Array.all_toList, ← cx.all (fun n => decide (n ≥ last)) hr]
        have LO : (es.filter fun e => !seen.toArray.contains e.born).toList = es.toList.filter fun e => !seen.contains e.born := by
          rw [Array.toList_filter]; simp
        have hl := cx.filter (fun n => !seen.contains n) hr
        have ho := cx.filter (fun n => decide (n < since)) hl
        have hw := cx.filter (fun n => decide (n ≥ since)) hl
        have QU := ho.append hw
        obtain ⟨L, hL⟩ : ∃ L, L = es.filter fun e => !seen.toArray.contains e.born := ⟨_, rfl⟩
        have hO : (L.filter fun e => decide (e.born < since)).toList = (es.toList.filter fun e => !seen.contains e.born).filter fun e => decide (e.born < since) := by rw [Array.toList_filter, hL, LO]
        have hN : (L.filter fun e => decide (e.born ≥ since)).toList = (es.toList.filter fun e => !seen.contains e.born).filter fun e => decide (e.born ≥ since) := by rw [Array.toList_filter, hL, LO]
        rw [← hO] at ho
        rw [← hO, ← hN] at QU
        generalize Yb : L.filter (fun e => decide (e.born < since)) = O at ho QU
        generalize Yc : L.filter (fun e => decide (e.born ≥ since)) = N at QU
        have UA : O.isEmpty = (rQ bm seen since).isEmpty := by
          have h1 := ho.1
          rw [Bool.eq_iff_iff, Array.isEmpty_iff_size_eq_zero, List.isEmpty_iff, ← List.length_eq_zero_iff, ← Array.length_toList, ← h1]; rfl
        have QV : 0 < ((if O.isEmpty then #[none] else #[]) ++ (O ++ N).map some : Array (Option MapEntry)).size := by
          by_cases Fz : O.isEmpty = true
          · rw [if_pos Fz]; simp; omega
          · rw [if_neg Fz]
            have : O.size ≠ 0 := fun h => Fz (Array.isEmpty_iff_size_eq_zero.2 h)
            simp; omega
        obtain ⟨i, w1, W0, LL, P8⟩ := rS (P := P) (w := w) QV
        obtain ⟨s1, v1, jc⟩ := hs.M0 P8
        have cJ : ∀ {R}, (match ((if O.isEmpty then #[none] else #[]) ++ (O ++ N).map some : Array (Option MapEntry))[i]? with
            | some (some e) => do setObj g (.mapIter (some gm) since (seen.toArray.push e.born) clock); pure (Value.tuple #[.bool true, e.key, e.val])
            | some none => (pure (Value.tuple #[.bool false]) : Sem Value)
            | none => stuck "Next: no such candidate").run P w1 = R → (Instr.next (.pointer (some ⟨g, 0, none⟩)) false ty).run P w = R := fun hR => by
          rw [← hR]
          simp only [Instr.next,Sem.run_bind,eR,Result.andThen_ok,cf Uo,M1,Bool.false_eq_true,if_false,← hL,Yb,Yc,W0]
          rfl
        have ZY := Array.getElem?_eq_getElem LL
        by_cases fS : i < (if O.isEmpty then #[none] else #[] : Array (Option MapEntry)).size
        · have Fz : O.isEmpty = true := by
            by_cases Fz : O.isEmpty = true
            · exact Fz
            · rw [if_neg Fz] at fS; simp at fS
          rw [if_pos Fz] at fS
          have FA : i = 0 := by simp at fS; omega
          subst FA
          have hold : rQ bm seen since = [] := by rw [UA] at Fz; exact List.isEmpty_iff.1 Fz
          refine ⟨_, w1, _, cJ (R := Result.ok (Value.tuple #[.bool false]) w1) ?_, s1.put dst (.bP _ _ _ rfl fun i c y hc hy => ?_), v1, QT hold⟩
          · rw [if_pos Fz, Array.getElem?_append_left (by simp)]; rfl
          · match i with
            | 0 => simp at hc hy; subst hc; subst hy; exact .sc _ _
            | i + 1 => simp at hc
        · obtain ⟨j, hj, UB⟩ : ∃ j, j < (O ++ N).size ∧ ((if O.isEmpty then #[none] else #[]) ++ (O ++ N).map some : Array (Option MapEntry))[i]? = some (some ((O ++ N)[j]!)) := by
            refine ⟨i - (if O.isEmpty then #[none] else #[] : Array (Option MapEntry)).size, ?_, ?_⟩
            · have := LL; simp only [Array.size_append,Array.size_map] at this ⊢; omega
            · rw [Array.getElem?_append_right (by omega), Array.getElem?_map]
              have az : i - (if O.isEmpty then #[none] else #[] : Array (Option MapEntry)).size < (O ++ N).size := by have := LL; simp only [Array.size_append,Array.size_map] at this ⊢; omega
              rw [Array.getElem?_eq_getElem az, getElem!_pos (O ++ N) _ az]; rfl
          rw [getElem!_pos (O ++ N) _ hj] at UB
          obtain ⟨kb, dD⟩ : ∃ kb, (rQ bm seen since ++ Fx bm seen since)[j]? = some kb := ⟨_, List.getElem?_eq_getElem (by have h1 := QU.1; simp only [List.length_append,Array.length_toList] at h1; simp only [List.length_append]; simp only [Array.size_append] at hj; exact Nat.lt_of_lt_of_eq hj h1.symm)⟩
          obtain ⟨en, Yd, p1, p2, p3⟩ := QU.get dD
          have UC : (O ++ N)[j] = en := by
            have : (O ++ N).toList[j]? = some en := by rw [Array.toList_append]; exact Yd
            rw [Array.getElem?_toList, Array.getElem?_eq_getElem hj] at this
            simpa using this
          rw [UC] at UB
          have P9 : w1.heap[g]? = some (.mapIter (some gm) since seen.toArray last) := by rw [jc]; exact hh
          have nO : ij E { w1 with heap := w1.heap.setIfInBounds g (.mapIter (some gm) since (seen.toArray.push en.born) clock) } b (.eh m since (seen ++ [kb.2.1]) clock) := by
            refine ⟨g, gm, 0, 0, hb, IE, ?_, hf⟩
            rw [heap_set P9, p2]; simp
          obtain ⟨q1, q2⟩ := s1.xp hB rfl (B' := .eh m since (seen ++ [kb.2.1]) clock) rfl hb hf k7 nO
          refine ⟨.tuple #[.bool true, en.key, en.val], _, _, cJ ?_, q1.put dst (Dt p1 p3), v1.trans q2, aV kb (List.mem_of_getElem? dD)⟩
          rw [UB]
          have := dK (P := P) (o' := .mapIter (some gm) since (seen.toArray.push en.born) clock) P9 (by simp)
          dsimp only
          rw [Sem.run_bind, this]; rfl
      · exact h.elim
    · rename_i s pos hB
      obtain ⟨rfl, rT⟩ := h
      obtain ⟨g, hb, hh, hf⟩ := hs.mem b _ hB
      cases hi with
      | ptr _ _ _ g' e' c' eN =>
      rw [hb] at eN; cases eN
      have eR : (getObj g).run P w = .ok (.stringIter s pos) w := by simp [getObj, Sem.run, hh]
      split at rT
      · rename_i az
        obtain ⟨q1, q2⟩ := hs.xp hB rfl (B' := .gJ s (pos + (Utf8.decode s pos).2)) rfl hb hf (k7 (o := .stringIter s (pos + (Utf8.decode s pos).2))) ⟨g, hb, heap_set hh, hf⟩
        refine ⟨.tuple #[.bool true, goInt pos, .int .i32 (Utf8.decode s pos).1], _, _, ?_, q1.put dst (.bP _ _ _ rfl fun i c y hc hy => ?_), q2, rT⟩
        · have := dK (P := P) (o' := .stringIter s (pos + (Utf8.decode s pos).2)) hh (by simp)
          simp [Instr.next, eR, az, this]
        · match i with
          | 0 => simp at hc hy; subst hc; subst hy; exact .sc _ _
          | 1 => simp at hc hy; subst hc; subst hy; exact .sc _ _
          | 2 => simp at hc hy; subst hc; subst hy; exact .sc _ _
          | i + 3 => simp at hc
      · rename_i az
        refine ⟨.tuple #[.bool false], w, _, by simp [Instr.next, eR, az], hs.put dst (.bP _ _ _ rfl fun i c y hc hy => ?_), dn.refl _ _, rT⟩
        match i with
        | 0 => simp at hc hy; subst hc; subst hy; exact .sc _ _
        | i + 1 => simp at hc
    · rename_i hB
      obtain ⟨rfl, rT⟩ := h
      obtain ⟨g, hb, hh, hf⟩ := hs.mem b _ hB
      cases hi with
      | ptr _ _ _ g' e' c' eN =>
      rw [hb] at eN; cases eN
      have eR : (getObj g).run P w = .ok (.mapIter none 0 #[] 0) w := by simp [getObj, Sem.run, hh]
      refine ⟨.tuple #[.bool false], w, _, by simp [Instr.next, eR], hs.put dst (.bP _ _ _ rfl fun i c y hc hy => ?_), dn.refl _ _, rT⟩
      match i with
      | 0 => simp at hc hy; subst hc; subst hy; exact .sc _ _
      | i + 1 => simp at hc
    · exact h.elim
  · exact h.elim

def js (P : Program) (mem : List aw) (T : TypeId) (x : V) : Option aw :=
  match x with
  | .mp b => match mem[b]? with
    | some (.map _ clock) => match cQ P T with | some _ => some (.eh b clock [] clock) | none => none
    | _ => none
  | .sc (.map none) => match cQ P T with | some _ => some .ig | none => none
  | .sc (.string s) => match P.underlying T with | some .string => some (.gJ s 0) | _ => none
  | _ => none
theorem BU {E : Env} {w : World} {a : Act} {st : St} (hs : aZ E w a st) (o : Nat) : E.F ⟨w.heap.size, o, none⟩ = none := by
  cases hx : E.F ⟨w.heap.size, o, none⟩ with
  | none => rfl
  | some x => have := World.block_lt_of_cell? w _ (hs.F _ _ hx); simp at this
theorem aZ.newObj {E : Env} {w : World} {a : Act} {st : St} (hs : aZ E w a st) {key : Nat} (hk : dL st.mem key) {obj : Obj} {B : aw} (hv : B.aA = 0) (hB : ij (E.with key 0 (w.heap.size, 0, 0)) (w.alloc obj) key B) :
    ∃ E', aZ E' (w.alloc obj) a { st with mem := bc st.mem key B } ∧ dn E w E' (w.alloc obj) ∧ E'.aK key 0 = some (w.heap.size, 0, 0) := by
  have := hs.new (obj := obj) (B := B) (e := 0) (c := 0) hk hv hB
  exact ⟨_, this.1, this.2, if_pos ⟨rfl, rfl⟩⟩
theorem rU {P : Program} {E : Env} {w : World} {a : Act} {st : St} (hs : aZ E w a st) {key : Nat} (hk : dL st.mem key) {T : TypeId} {x : V} {y : Value} {B : aw} (hx : aW E x y) (h : js P st.mem T x = some B) :
    ∃ E' w', (Instr.range T y).run P w = .ok (.pointer (some ⟨w.heap.size, 0, none⟩)) w' ∧ aZ E' w' a { st with mem := bc st.mem key B } ∧ dn E w E' w' ∧ aW E' (.ptr key 0) (.pointer (some ⟨w.heap.size, 0, none⟩)) := by
  have ca : (E.with key 0 (w.heap.size, 0, 0)).aK key 0 = some (w.heap.size, 0, 0) := if_pos ⟨rfl, rfl⟩
  unfold js at h
  split at h
  · rename_i b
    split at h
    · rename_i bm clock hB
      split at h
      · rename_i p hp
        cases h
        obtain ⟨kt, et⟩ := p
        have hd := eZ hp
        obtain ⟨g, e, c, rfl, hb⟩ := mX hx
        obtain ⟨es, hh, hr, -⟩ := gr hs hB hb
        have bL : b ≠ key := fun e => by subst e; rw [hs.free hk 0] at hb; cases hb
        obtain ⟨E', h1, h2, h3⟩ := hs.newObj hk (obj := .mapIter (some g) clock #[] clock) (B := .eh b clock [] clock) rfl ⟨w.heap.size, g, e, c, ca, (if_neg fun h => bL h.1).trans hb, heap_alloc_new w _, fun o => BU (E := E) hs o⟩
        exact ⟨E', _, by simp [Instr.range, ao hd, cf hh, newObj, Sem.run], h1, h2, .ptr _ _ _ _ 0 0 h3⟩
      · cases h
    · cases h
  · obtain rfl := lX hx
    split at h
    · rename_i p hp
      cases h
      obtain ⟨kt, et⟩ := p
      have hd := eZ hp
      obtain ⟨E', h1, h2, h3⟩ := hs.newObj hk (obj := .mapIter none 0 #[] 0) (B := .ig) rfl ⟨w.heap.size, ca, heap_alloc_new w _, fun o => BU (E := E) hs o⟩
      exact ⟨E', _, by simp [Instr.range, ao hd, newObj, Sem.run], h1, h2, .ptr _ _ _ _ 0 0 h3⟩
    · cases h
  · rename_i s
    obtain rfl := lX hx
    split at h
    · rename_i hd
      cases h
      obtain ⟨E', h1, h2, h3⟩ := hs.newObj hk (obj := .stringIter s 0) (B := .gJ s 0) rfl ⟨w.heap.size, ca, heap_alloc_new w _, fun o => BU (E := E) hs o⟩
      exact ⟨E', _, by simp [Instr.range, ao hd, newObj, Sem.run], h1, h2, .ptr _ _ _ _ 0 0 h3⟩
    · cases h
  · cases h
theorem tN {P : Program} {E : Env} {w : World} {a : Act} {st : St} (hs : aZ E w a st) {key : Nat} (hk : dL st.mem key) (T : TypeId) :
    ∃ E' w', (Instr.makeMap T none).run P w = .ok (.map (some w.heap.size)) w' ∧ aZ E' w' a { st with mem := bc st.mem key (.map [] 0) } ∧ dn E w E' w' ∧ aW E' (.mp key) (.map (some w.heap.size)) := by
  have ca : (E.with key 0 (w.heap.size, 0, 0)).aK key 0 = some (w.heap.size, 0, 0) := if_pos ⟨rfl, rfl⟩
  obtain ⟨E', h1, h2, h3⟩ := hs.newObj hk (obj := .map #[] 0) (B := .map [] 0) rfl ⟨w.heap.size, #[], ca, heap_alloc_new w _, ⟨rfl, fun i k e h => by simp at h⟩, fun o => BU (E := E) hs o⟩
  exact ⟨E', _, by simp [Instr.makeMap, newObj, Sem.run], h1, h2, .mp _ _ _ 0 0 h3⟩
def rb (i : Ti) : V := if i.agg = true then .agg (i.zero.map fun z => jT (.sc z)) else match i.zero with | z :: _ => jT (.sc z) | [] => .undef
def mO (tt : Table) (T : TypeId) (l c : V) : Option (Nat × List V × Nat) :=
  match l, c with
  | .sc (.int _ l), .sc (.int _ c) => match dw tt T with
    | some e => match tt e with
      | some i => if 0 ≤ l ∧ l ≤ c ∧ i.bytes * c ≤ 281474976710656 ∧ c ≤ 1152921504606846976 ∧ 0 < i.size ∧ i.zero.length = i.size ∧ i.zero.all Value.oneCell' = true ∧ (i.agg = true ∨ i.size = 1) then some (i.size, List.replicate l.toNat (rb i), c.toNat) else none
      | none => none
    | none => none
  | _, _ => none
theorem tO {i : Ti} (h : i.agg = true ∨ i.size = 1) (hz : i.zero.length = i.size) : (rb i).cells = i.zero.map fun z => jT (.sc z) := by
  unfold rb
  split
  · rfl
  · rename_i hn
    have h1 : i.size = 1 := by rcases h with h | h
                               · exact absurd h hn
                               · exact h
    match QW : i.zero with
    | [] => rw [QW] at hz; simp at hz; omega
    | [z] => simp only [List.map_cons,List.map_nil]; unfold jT; split <;> rfl
    | _ :: _ :: _ => rw [QW] at hz; simp at hz; omega
theorem xx {P : Program} {tt : Table} (ht : TT P tt) {E : Env} {w : World} {a : Act} {st : St} (hs : aZ E w a st) {key : Nat} (hk : dL st.mem key) {T : TypeId} {l c : V} {x y : Value} {size cap : Nat} {rs : List V} (hl : aW E l x) (hc : aW E c y)
    (h : mO tt T l c = some (size, rs, cap)) :
    ∃ E' w', (Instr.makeSlice T x y).run P w = .ok (.slice (some ⟨w.heap.size, 0, none⟩) rs.length cap) w' ∧ aZ E' w' a { st with mem := bc st.mem key (.rows 0 size rs) } ∧ dn E w E' w' ∧ aW E' (.ms key 0 0 rs.length) (.slice (some ⟨w.heap.size, 0, none⟩) rs.length cap) := by
  unfold mO at h
  split at h
  · rename_i k1 l k2 c
    obtain rfl := lX hl
    obtain rfl := lX hc
    unfold dw at h
    cases hT : tt T with
    | none => rw [hT] at h; simp at h
    | some iT =>
      rw [hT] at h; simp only at h
      cases he : iT.elem with
      | none => rw [he] at h; simp at h
      | some e =>
        rw [he] at h; simp only at h
        cases hE : tt e with
        | none => rw [hE] at h; simp at h
        | some i =>
          rw [hE] at h; simp only at h
          split at h
          · rename_i ob
            obtain ⟨h0, h1, hb, rV, ir, Dq, jP, Ja⟩ := ob
            cases h
            obtain ⟨d, hd, -, kS, -⟩ := ht.desc T iT hT
            obtain rfl := kS e he
            obtain ⟨info, nQ, LK, QP, z, hz, QW⟩ := ht.size e i hE
            have I7 : z.cells.size = i.size := by rw [← Dq, ← QW]; simp
            have Ye : IntKind.i64.wrap l = l := by rw [IntWalk.i64_in _ (by omega)]
            have Yf : IntKind.i64.wrap c = c := by rw [IntWalk.i64_in _ (by omega)]
            obtain ⟨xs, mZ⟩ : ∃ xs : Array Value, xs = (Array.range (c.toNat * i.size)).map (z.cells[· % z.cells.size]!) := ⟨_, rfl⟩
            have cJ : (Instr.makeSlice T (.int k1 l) (.int k2 c)).run P w = .ok (.slice (some ⟨w.heap.size, 0, none⟩) l.toNat c.toNat) (w.alloc (.cells xs e (0, 0))) := by
              have e0 : (decide (c < 0) || decide ((info.bytes : Int) * c > 2 ^ 48)) = false := by
                rw [QP]
                simp only [Bool.or_eq_false_iff,decide_eq_false_iff_not]
                exact ⟨by omega, by omega⟩
              have e1 : (decide (l < 0)) = false := by simp; omega
              have e2 : (decide (l > c)) = false := by simp; omega
              have QX : (zeroValue e).run P (w) = .ok z w := by simp [zeroValue, cE nQ, hz]
              simp only [Instr.makeSlice,Sem.run_bind,ao hd,Result.andThen_ok,asInt,asIntOf,Sem.run_pure,cE nQ,Ye,Yf,e0,e1,e2,Bool.or_self,Bool.false_eq_true,if_false,run_askRoom,dd nQ,LK]
              by_cases hn : c.toNat * i.size = 0
              · have nY : xs = #[] := by rw [mZ, hn]; simp
                have MX : ∀ f : Nat → Value, Array.map f (Array.range 0) = #[] := fun f => Array.eq_empty_of_size_eq_zero (by simp)
                simp only [hn,if_true,Sem.run_pure,Result.andThen_ok,MX,nY]
                rfl
              · simp only [hn,if_false,Sem.run_bind,QX,Result.andThen_ok,Sem.run_pure]
                simp [newRow, mZ]
            obtain ⟨E', g1, g2, g3⟩ := hs.n5 hk (xs := xs) (rs := List.replicate l.toNat (rb i)) (e := i.size) (c := c.toNat) e (by rw [mZ]; simp) (by simp; omega) (fun q row hq => by
              rw [List.getElem?_replicate] at hq
              split at hq
              · rename_i QS
                cases hq
                have k6 := tO Ja Dq
                refine ⟨by rw [k6]; simpa using Dq, fun j cc hj => ?_⟩
                rw [k6, List.getElem?_map, Option.map_eq_some_iff] at hj
                obtain ⟨v, hv, rfl⟩ := hj
                have qb : j < i.size := by rw [← Dq]; exact (List.getElem?_eq_some_iff.1 hv).1
                have az : q * i.size + j < c.toNat * i.size := by
                  have : (q + 1) * i.size ≤ c.toNat * i.size := Nat.mul_le_mul_right _ (by omega)
                  rw [Nat.succ_mul] at this; omega
                have UD : (q * i.size + j) % i.size = j := by rw [Nat.add_comm, Nat.add_mul_mod_self_right, Nat.mod_eq_of_lt qb]
                refine ⟨v, ?_, List.all_eq_true.1 jP v (List.mem_of_getElem? hv), oc (.sc _ _)⟩
                rw [mZ]
                have W1 : z.cells[j]? = some v := by rw [← Array.getElem?_toList, QW]; exact hv
                have W2 : j < z.cells.size := by omega
                simp only [Array.getElem?_map,Array.getElem?_range,az,if_true,Option.map_some,I7,UD]
                rw [getElem!_pos z.cells j W2]
                rw [Array.getElem?_eq_getElem W2] at W1
                exact W1
              · cases hq)
            refine ⟨E', _, ?_, g1, g2, ?_⟩
            · simpa using cJ
            · simpa using g3
          · cases h
  · cases h
end Go.Eng
end

section
namespace Go.Eng
variable [aE]
open Go.RowKit (Below)
def iP (tt : Table) (mem : List aw) (ts : List TypeId) (s x : V) : Option (Nat × Nat × Nat × Nat × List V × List V) :=
 match s with
 | .ms b v o l => match mem[b]? with
  | some (.rows v' eb rs) => match ts with
   | [t, u] => match dw tt t with
    | some e => match dw tt u with
     | some _ => match tt e with
      | some i =>
       if v' = v ∧ eb = i.size ∧ o + l = rs.length ∧ 0 < i.size ∧ i.bytes ≤ 4096 ∧ i.zero.length = i.size then
        match rowsOf mem i.size x with
        | some xs => if l + xs.length ≤ 34359738368 then some (i.size, b, v, l, rs.drop o, xs) else none
        | none => none
       else none
      | none => none
     | none => none
    | none => none
   | _ => none
  | _ => none
 | _ => none
theorem tP {P : Program} {tt : Table} (ht : TT P tt) {E : Env} {w : World} {a : Act} {st : St} (hs : aZ E w a st) {ts : Array TypeId} {ty : TypeId} {s x : V} {y z : Value} {size b v l : Nat} {TF xs : List V}
  (BP : aW E s y) (EX : aW E x z) (h : iP tt st.mem ts.toList s x = some (size, b, v, l, TF, xs)) :
  ∃ u w' E' o' rs', (Builtin.append_ ts ty #[y, z]).run P w = .ok u w' ∧ rs'.drop o' = TF ++ xs ∧ o' + (l + xs.length) = rs'.length ∧ aZ E' w' a { st with mem := st.mem.set b (.rows (v + 1) size rs') } ∧ dn E w E' w' ∧ aW E' (.ms b (v + 1) o' (l + xs.length)) u := by
 unfold iP at h
 split at h
 ·rename_i b1 v1 o l1
  split at h
  ·rename_i v' eb rs hm
   split at h
   ·rename_i t u Uv
    obtain rfl : ts = #[t, u] := by rw [← Array.toArray_toList (xs := ts), Uv]
    split at h
    ·rename_i e he
     split at h
     ·rename_i e' P7
      split at h
      ·rename_i i hE
       split at h
       ·rename_i hc
        obtain ⟨rfl, rfl, M3, ir, rN, Dq⟩ := hc
        split at h
        ·rename_i nS mZ
         split at h
         ·rename_i hlen
          simp only [Option.some.injEq,Prod.mk.injEq] at h
          obtain ⟨rfl, rfl, rfl, rfl, rfl, rfl⟩ := h
          have W3 : ∀ {t e : TypeId}, dw tt t = some e → P.underlying t = some (.slice e) := fun {t e} he => by
           unfold dw at he
           split at he
           ·rename_i iu hU
            obtain ⟨d, hd, -, kS, -⟩ := ht.desc t iu hU
            rw [hd, kS e he]
           ·simp at he
          have hd := W3 he
          have BQ := W3 P7
          obtain ⟨info, nQ, LK, QP, z0, MW, Fo⟩ := ht.size e i hE
          have I7 : z0.cells.size = info.size := by rw [LK, ← Dq, ← Fo]; simp
          rw [← LK] at mZ ir hm ⊢
          rw [← QP] at rN
          have zu : aZ E w.drew a st := hs.drew
          obtain ⟨xa, xc, rfl, X4, xA, rK, wZ⟩ := dM (P := P) hs EX mZ
          obtain ⟨X5, X6, heq, -, xB, I8, Fu⟩ := dM (P := P) zu EX mZ
          simp only [Value.slice.injEq] at heq
          obtain ⟨rfl, -, rfl⟩ := heq
          have Dr : ∀ dT, dT < l1 + nS.length → Builtin.nextslicecap (l1 + nS.length) dT * info.bytes ≤ 281474976710656 := fun dT az =>
           growslice_fits az (Nat.le_trans (Nat.mul_le_mul hlen rN) (by decide))
          have E4 : (rs.drop o).length = l1 := by rw [List.length_drop]; omega
          have jb : (rs.drop o ++ nS).length = l1 + nS.length := by rw [List.length_append, E4]
          have cH : ∀ dT, l1 + nS.length ≤ grownCap w (l1 + nS.length) dT e := fun dT => grownCap_ge w (l1 + nS.length) dT e
          have MR : rowsOf st.mem info.size (.ms b1 v' o l1) = some (rs.drop o) := by
           have h1 : o + l1 ≤ rs.length := by omega
           simp [rowsOf, hm, h1]
           rw [List.take_of_length_le (by rw [List.length_drop]; omega)]
          obtain ⟨sa, sc, rfl, jk, A, I9, BS⟩ := dM (P := P) zu BP MR
          rw [E4] at I9 BP ⊢
          have k6 : ∀ dT, (A ++ xB ++ Builtin.zeroCells z0.cells (grownCap w (l1 + nS.length) dT e - (l1 + nS.length))).size = grownCap w (l1 + nS.length) dT e * info.size := fun dT => by
           simp only [Array.size_append,size_zeroCells,I7,BS.1,Fu.1,E4,← Nat.add_mul]
           congr 1; have := cH dT; omega
          by_cases oe : l1 + nS.length ≤ sc
          ·rcases vA BP with ⟨QI, mM⟩ | ⟨g, TE, c, WZ, X8, mM, hb, hl, Fg, ue⟩
           ·simp only [Value.slice.injEq] at mM
            obtain ⟨rfl, Ux, rfl⟩ := mM
            have nY : nS = [] := List.length_eq_zero_iff.1 (by omega)
            subst nY
            have LP : l1 = 0 := by omega
            subst LP
            have MX : rs.drop o = [] := List.length_eq_zero_iff.1 E4
            rw [MX]
            exact ⟨_, w, E, 0, [], ej (ty := ty) hd BQ nQ xc xa xA rK, rfl, rfl, hs.xt hm, dn.refl E w, .dc _ _ _ _⟩
           ·simp only [Value.slice.injEq] at mM
            obtain ⟨rfl, -, rfl⟩ := mM
            obtain ⟨W0, LL, P8⟩ := ue
            rcases hs.mem b1 _ hm with ⟨-, hn⟩ | ⟨g', T', cur, c', eN, hh, tD, jo, uf, hf⟩
            ·rw [hb] at hn; cases hn
            rw [hb] at eN; cases eN
            by_cases UE : sc = 0
            ·-- nothing at all
             have nY : nS = [] := List.length_eq_zero_iff.1 (by omega)
             subst nY
             have LP : l1 = 0 := by omega
             subst LP
             subst UE
             have MX : rs.drop o = [] := List.length_eq_zero_iff.1 E4
             have cJ : (Builtin.append_ #[t, u] ty #[.slice sa 0 0, .slice xa 0 xc]).run P w = .ok (.slice sa 0 0) w := by
              cases sa with
              | none => exact ej (ty := ty) hd BQ nQ xc xa xA rK
              | some ad =>
               have Yg : xA.toList = [] := by
                have := wZ.1
                simp at this
                simpa using this
               have Yh : (Builtin.firstCells info.size 0 (.slice xa 0 xc)).run P w = .ok xA w := rK
               simp [Builtin.append_, ao hd, ao BQ, dd nQ, Builtin.lenOf, Yh, Yg, storeCells]
             have hle : E.le (E.with b1 (v' + 1) (g, info.size, c)) := Env.gu (hs.aA b1 _ hm _ (Nat.lt_succ_self v')) _
             have ca : (E.with b1 (v' + 1) (g, info.size, c)).aK b1 (v' + 1) = some (g, info.size, c) := if_pos ⟨rfl, rfl⟩
             refine ⟨_, w, E.with b1 (v' + 1) (g, info.size, c), o, rs, cJ, by simp [MX], by omega, hs.renew hm hs.F (Nat.le_refl _) (hs.lt _ _ _ _ _ hb) (fun k B' dD eP LM g' e' c' dS => ⟨rfl, fun e => by subst e; exact dD (hs.apart _ _ _ _ _ _ _ _ _ dS hb)⟩) ?_ (fun k v2 e2 c2 h => hs.apart _ _ _ _ _ _ _ _ _ h hb),
              ⟨hle, fun k q g' e' c' dD => ?_, fun ad y hy => .inl hy, rfl, rfl, rfl, Nat.le_refl _, fun _ _ _ => rfl⟩, ?_⟩
             ·exact .inr ⟨g, T', cur, c, ca, hh, tD, jo, fun q row hq => let ⟨h3, h4⟩ := uf q row hq; ⟨h3, fun j cc hj => let ⟨v, hv, zt, Ds⟩ := h4 j cc hj; ⟨v, hv, zt, Ds.mono (Env.fq hle)⟩⟩, hf⟩
             ·by_cases hq : k = b1 ∧ q = v' + 1
              ·obtain ⟨rfl, rfl⟩ := hq; rw [ca] at dD; cases dD; exact .inl ⟨_, _, _, _, hb⟩
              ·have : (E.with b1 (v' + 1) (g, info.size, c)).aK k q = E.aK k q := if_neg hq
               rw [this] at dD; exact .inl ⟨_, _, _, _, dD⟩
             ·exact .ms _ _ _ _ _ g info.size c _ _ ca (fun h => absurd h (by simp)) (fun h => Fg h) ⟨by simp, LL, fun h => absurd h (Nat.lt_irrefl _)⟩
            ·obtain rfl := P8 (by omega)
             have rO : rs.length * info.size + xA.toList.length ≤ cur.size := by
              have := wZ.1
              simp only [Array.length_toList]
              rw [this, tD, ← Nat.add_mul]; exact Nat.mul_le_mul_right _ (by omega)
             obtain ⟨w', gR, IG, vB⟩ := e9 (P := P) (g := g) (T := T') (rs.length * info.size) xA.toList 0 w cur hh (by simpa using rO) (qh ir wZ)
             have cJ : (Builtin.append_ #[t, u] ty #[.slice (some ⟨g, o * info.size, none⟩) l1 sc, .slice xa nS.length xc]).run P w = .ok (.slice (some ⟨g, o * info.size, none⟩) (l1 + nS.length) sc) w' := by
              have M4 : (storeCells (Addr.add ⟨g, o * info.size, none⟩ (l1 * info.size)) xA.toList).run P w = .ok () w' := by
               rw [add_lit, ← Nat.add_mul, M3]; exact gR
              simp [Builtin.append_, ao hd, ao BQ, dd nQ, Builtin.lenOf, oe, rK, M4]
             have hle : E.le (E.with b1 (v' + 1) (g, info.size, c)) := Env.gu (hs.aA b1 _ hm _ (Nat.lt_succ_self v')) _
             have ca : (E.with b1 (v' + 1) (g, info.size, c)).aK b1 (v' + 1) = some (g, info.size, c) := if_pos ⟨rfl, rfl⟩
             refine ⟨_, w', E.with b1 (v' + 1) (g, info.size, c), o, rs ++ nS, cJ, by rw [List.drop_append_of_le_length (by omega)], by rw [List.length_append]; omega, hs.renew hm (fun ad y hy => ?_) (by rw [vB.size]; exact Nat.le_refl _) (by rw [vB.size]; exact hs.lt _ _ _ _ _ hb) (fun k B' dD eP LM g' e' c' dS => ?_) ?_ (fun k v2 e2 c2 h => hs.apart _ _ _ _ _ _ _ _ _ h hb),
              ⟨hle, fun k q g' e' c' dD => ?_, fun ad y hy => .inl hy, vB.os, vB.tape, vB.output, by rw [vB.size]; exact Nat.le_refl _, fun b' eN bL => vB.heap b' fun e => by subst e; exact bL _ _ _ _ hb⟩, ?_⟩
             ·have bL := hs.vq hf hy
              rw [← hs.F ad y hy]; simp [World.cell?, vB.heap _ bL]
             ·have QR : g' ≠ g := fun e => by
               subst e
               exact dD (hs.apart _ _ _ _ _ _ _ _ _ dS hb)
              exact ⟨vB.heap _ QR, QR⟩
             ·refine .inr ⟨g, T', _, c, ca, IG, by rw [fw]; exact tD, by rw [List.length_append]; omega, ?_, hf⟩
              intro q row hq
              simp only [Nat.add_zero]
              have xu : xA.toList.length = nS.length * info.size := by simpa using wZ.1
              rw [List.getElem?_append] at hq
              split at hq
              ·rename_i az
               obtain ⟨h3, h4⟩ := uf q row hq
               refine ⟨h3, fun j cc hj => ?_⟩
               obtain ⟨v, hv, zt, Ds⟩ := h4 j cc hj
               have qb : j < info.size := by rw [← h3]; exact (List.getElem?_eq_some_iff.1 hj).1
               refine ⟨v, ?_, zt, Ds⟩
               rw [eA _ _ _ _ rO, if_neg (by have := rJ az qb; omega)]
               exact hv
              ·rename_i Uz
               obtain ⟨h3, h4⟩ := wZ.2 _ row hq
               refine ⟨h3, fun j cc hj => ?_⟩
               obtain ⟨v, hv, zt, Ds⟩ := h4 j cc hj
               have qb : j < info.size := by rw [← h3]; exact (List.getElem?_eq_some_iff.1 hj).1
               have QS : q - rs.length < nS.length := (List.getElem?_eq_some_iff.1 hq).1
               have hmul : q * info.size = rs.length * info.size + (q - rs.length) * info.size := by rw [← Nat.add_mul]; congr 1; omega
               refine ⟨v, ?_, zt, Ds⟩
               rw [eA _ _ _ _ rO, if_pos (by have := rJ QS qb; omega)]
               dsimp only at hv
               rw [← hv, Array.getElem?_toList]
               congr 1; omega
             ·by_cases hq : k = b1 ∧ q = v' + 1
              ·obtain ⟨rfl, rfl⟩ := hq; rw [ca] at dD; cases dD; exact .inl ⟨_, _, _, _, hb⟩
              ·have : (E.with b1 (v' + 1) (g, info.size, c)).aK k q = E.aK k q := if_neg hq
               rw [this] at dD; exact .inl ⟨_, _, _, _, dD⟩
             ·exact .ms _ _ _ _ _ g info.size c _ _ ca (fun _ => rfl) (fun h => Fg h) ⟨oe, LL, fun _ => rfl⟩
          ·-- a new block
           have az : sc < l1 + nS.length := by omega
           have cJ := fA (ty := ty) hd BQ nQ MW sa l1 sc nS.length xc xa A xB I9 I8 az (by omega) (Dr sc az)
           have hle : E.le (E.with b1 (v' + 1) (w.heap.size, info.size, grownCap w (l1 + nS.length) sc e)) := Env.gu (hs.aA b1 _ hm _ (Nat.lt_succ_self v')) _
           have ca : (E.with b1 (v' + 1) (w.heap.size, info.size, grownCap w (l1 + nS.length) sc e)).aK b1 (v' + 1) = some (w.heap.size, info.size, grownCap w (l1 + nS.length) sc e) := if_pos ⟨rfl, rfl⟩
           refine ⟨_, _, E.with b1 (v' + 1) (w.heap.size, info.size, grownCap w (l1 + nS.length) sc e), 0, rs.drop o ++ nS, cJ, rfl, by rw [jb]; omega, hs.renew hm (fun ad y hy => ?_) (by simp) (by simp) (fun k B' dD eP LM g' e' c' dS => ?_) ?_ (fun k v2 e2 c2 h => absurd (hs.lt _ _ _ _ _ h) (Nat.lt_irrefl _)),
            ⟨hle, fun k q g' e' c' dD => ?_, fun ad y hy => .inl hy, rfl, rfl, rfl, by simp, fun b' eN bL => Go.RowKit.Below.heap_alloc w.drew _ b' eN⟩, ?_⟩
           ·rw [World.cell?_alloc_lt w.drew _ ad (World.block_lt_of_cell? w ad (hs.F ad y hy))]; exact hs.F ad y hy
           ·have := hs.lt _ _ _ _ _ dS
            exact ⟨Go.RowKit.Below.heap_alloc w.drew _ g' this, by omega⟩
           ·refine .inr ⟨w.heap.size, e, _, _, ca, heap_alloc_new w.drew _, k6 sc, by rw [jb]; exact cH sc, ?_, fun o => ?_⟩
            ·intro q row hq
             obtain ⟨h3, h4⟩ := gv (C := Builtin.zeroCells z0.cells (grownCap w (l1 + nS.length) sc e - (l1 + nS.length))) BS Fu q row hq
             exact ⟨h3, fun j cc hj => let ⟨v, hv, zt, Ds⟩ := h4 j cc hj; ⟨v, hv, zt, Ds.mono (Env.fq hle)⟩⟩
            ·show E.F _ = none
             cases hx : E.F ⟨w.heap.size, o, none⟩ with
             | none => rfl
             | some x => have := World.block_lt_of_cell? w _ (hs.F _ _ hx); simp at this
           ·by_cases hq : k = b1 ∧ q = v' + 1
            ·obtain ⟨rfl, rfl⟩ := hq; rw [ca] at dD; cases dD; exact .inr (Nat.le_refl _)
            ·have : (E.with b1 (v' + 1) (w.heap.size, info.size, grownCap w (l1 + nS.length) sc e)).aK k q = E.aK k q := if_neg hq
             rw [this] at dD; exact .inl ⟨_, _, _, _, dD⟩
           ·exact .ms _ _ _ _ _ w.heap.size info.size _ _ _ ca (fun _ => by simp) (fun _ => ⟨rfl, rfl⟩) ⟨cH sc, Nat.zero_add _, fun _ => by simp⟩
         ·simp at h
        ·simp at h
       ·simp at h
      ·simp at h
     ·simp at h
    ·simp at h
   ·simp at h
  ·simp at h
 ·simp at h
end Go.Eng
end

section
namespace Go.Eng
variable [aE]
open Go.RowKit (Below)

def bU (mem : List aw) : V → Option V
  | .undef => some .undef
  | .sc v => some (jT (.sc v))
  | .slice rows => some (.slice rows)
  | .full rows => some (.slice rows)
  | .cj cs => some (.cj cs)
  | .gn => some .gn
  | .ms b v s l => match mem[b]? with
    | some (.rows v' _ rs) => if v' = v ∧ s + l ≤ rs.length then some (.slice ((rs.drop s).take l)) else none
    | some (.mv v' _ rs) => if v' = v ∧ s + l ≤ rs.length then some (.slice ((rs.drop s).take l)) else none
    | _ => none
  | .fM f [] [] => some (.sc (.func f #[] #[]))
  | _ => none
def dg (mem : List aw) : List V → Option (List V)
  | [] => some []
  | c :: r => match bU mem c with
    | some c' => match dg mem r with | some r' => some (c' :: r') | none => none
    | none => none
def fi (mem : List aw) : V → Option V
  | .agg cs => match dg mem cs with | some l => some (.agg l) | none => none
  | v => bU mem v
def cy (mem : List aw) : List V → Option (List V)
  | [] => some []
  | c :: r => match fi mem c with
    | some c' => match cy mem r with | some r' => some (c' :: r') | none => none
    | none => none
def LQ (mem : List aw) : V → Option V
  | .bP vs => match cy mem vs with | some l => some (.bP l) | none => none
  | v => fi mem v

def ek : V → List (Nat × Nat)
  | .ms b v _ _ => [(b, v)]
  | _ => []
def cp : V → List (Nat × Nat)
  | .agg cs => cs.flatMap ek
  | v => ek v
def refs : V → List (Nat × Nat)
  | .bP vs => vs.flatMap cp
  | v => cp v

def Env.jM (E : Env) (w : World) (keys : List (Nat × Nat)) : Env :=
  { F := fun ad => match E.F ad with
      | some x => some x
      | none => if keys.any (fun k => match E.aK k.1 k.2 with | some (g, _, _) => g == ad.block | none => false) then w.cell? ad else none
    aK := E.aK
    gl := E.gl.mono fun ad x h => by simp only [h] }
theorem Env.o9 (E : Env) (w : World) (keys : List (Nat × Nat)) : E.le (E.jM w keys) := ⟨fun ad x h => by simp [Env.jM, h], fun _ _ _ h => h⟩
theorem Env.BV {E : Env} {w : World} {keys : List (Nat × Nat)} (hF : ∀ ad x, E.F ad = some x → w.cell? ad = some x) {ad : Addr} {x : Value} (h : (E.jM w keys).F ad = some x) : w.cell? ad = some x := by
  unfold Env.jM at h
  dsimp only at h
  split at h
  · rename_i y hy; cases h; exact hF _ _ hy
  · split at h
    · exact h
    · cases h
theorem Env.vF {E : Env} {w : World} {keys : List (Nat × Nat)} {ad : Addr} {x : Value} (h : (E.jM w keys).F ad = some x) : E.F ad = some x ∨ ∃ k ∈ keys, ∃ e c, E.aK k.1 k.2 = some (ad.block, e, c) := by
  unfold Env.jM at h
  dsimp only at h
  split at h
  · rename_i y hy; cases h; exact .inl hy
  · split at h
    · rename_i M5
      obtain ⟨k, hk, hm⟩ := List.any_eq_true.1 M5
      split at hm
      · rename_i g e c hb
        simp only [beq_iff_eq] at hm; subst hm
        exact .inr ⟨k, hk, e, c, hb⟩
      · cases hm
    · cases h
theorem Env.M6 {E : Env} {w : World} {keys : List (Nat × Nat)} {k v g e c : Nat} (hk : (k, v) ∈ keys) (hb : E.aK k v = some (g, e, c)) {o : Nat} {x : Value} (hn : E.F ⟨g, o, none⟩ = none) (hx : w.cell? ⟨g, o, none⟩ = some x) : (E.jM w keys).F ⟨g, o, none⟩ = some x := by
  have : keys.any (fun k => match E.aK k.1 k.2 with | some (g', _, _) => g' == g | none => false) = true := List.any_eq_true.2 ⟨(k, v), hk, by simp [hb]⟩
  unfold Env.jM
  dsimp only
  rw [hn]
  dsimp only
  rw [if_pos this]; exact hx

theorem xy {E : Env} {w : World} {a : Act} {st : St} (hs : aZ E w a st) {keys : List (Nat × Nat)} {k v g e c : Nat} (hk : (k, v) ∈ keys) (hb : E.aK k v = some (g, e, c)) {B : aw} (hm : st.mem[k]? = some B) {rs : List V} {e' : Nat}
    (hB : B = .rows v e' rs ∨ B = .mv v e' rs) : e' = e ∧ rs.length ≤ c ∧ fu E.pure e rs (fun o => (E.jM w keys).F ⟨g, o, none⟩) := by
  rcases hB with rfl | rfl
  · rcases hs.mem k _ hm with ⟨-, hn⟩ | ⟨g', T, xs, c', eN, hh, jL, hl, hr, hf⟩
    · rw [hb] at hn; cases hn
    · rw [hb] at eN; cases eN
      refine ⟨rfl, hl, fun i row hi => ?_⟩
      obtain ⟨h1, h2⟩ := hr i row hi
      exact ⟨h1, fun j cc hj => let ⟨x, hx, h⟩ := h2 j cc hj; ⟨x, Env.M6 hk hb (hf _) (by rw [iL hh]; exact hx), h⟩⟩
  · rcases hs.mem k _ hm with ⟨-, hn⟩ | ⟨g', c', eN, hl, hr⟩
    · rw [hb] at hn; cases hn
    rw [hb] at eN; cases eN
    refine ⟨rfl, hl, fun i row hi => ?_⟩
    obtain ⟨h1, h2⟩ := hr i row hi
    exact ⟨h1, fun j cc hj => let ⟨x, hx, h⟩ := h2 j cc hj; ⟨x, (Env.o9 E w keys).F _ _ hx, h⟩⟩

theorem jd {E : Env} {w : World} {a : Act} {st : St} (hs : aZ E w a st) {keys : List (Nat × Nat)} {v v' : V} {x : Value} (hr : aW E v x) (h : bU st.mem v = some v') (hk : ∀ k ∈ ek v, k ∈ keys) : aW (E.jM w keys).pure v' x := by
  have hle := Env.fq (Env.o9 E w keys)
  have zr : ∀ {b v s l : Nat} {B : aw} {rs : List V} {e' : Nat}, aW E (.ms b v s l) x → (b, v) ∈ keys → st.mem[b]? = some B → (B = .rows v e' rs ∨ B = .mv v e' rs) → s + l ≤ rs.length → aW (E.jM w keys).pure (.slice ((rs.drop s).take l)) x := by
    intro b v s l B rs e' hr dS hm hB hl
    have hlen : ((rs.drop s).take l).length = l := by simp; omega
    rcases vA hr with ⟨rfl, rfl⟩ | ⟨g, e, c, aa, cap, rfl, hb, LP, -, Qa⟩
    · rw [show (rs.drop s).take 0 = [] from by simp]
      exact .slice _ [] none 0 0 default (fun _ _ => default) (by simp) (by simp) (by simp) (by simp) (by simp) (by simp)
    · obtain ⟨rfl, jb, QM⟩ := xy hs dS hb hm hB
      have eR : ∀ (i : Nat) (row : V) (j : Nat) (cc : V), ((rs.drop s).take l)[i]? = some row → row.cells[j]? = some cc → ∃ y, (E.jM w keys).F ⟨g, (s + i) * e' + j, none⟩ = some y ∧ y.oneCell' = true ∧ aW E.pure cc y := fun i row j cc hi hj =>
        (QM _ _ (ra hi)).2 j cc hj
      let xf : Nat → Nat → Value := fun i j => ((E.jM w keys).F ⟨g, (s + i) * e' + j, none⟩).getD default
      have xe : aW (E.jM w keys).pure (.slice ((rs.drop s).take l)) (.slice aa ((rs.drop s).take l).length cap) := by
        refine .slice _ _ _ _ e' ⟨g, s * e', none⟩ xf (fun bL => LP ?_) (by rw [hlen]; exact Qa.1) (fun i row hi => (QM _ _ (ra hi)).1) (fun i row j cc hi hj => ?_) (fun i row j cc hi hj => ?_) fun i row j cc hi hj => ?_
        · have : ((rs.drop s).take l).length ≠ 0 := fun h0 => bL (List.length_eq_zero_iff.1 h0)
          omega
        · obtain ⟨y, hy, -⟩ := eR i row j cc hi hj
          have MZ : s * e' + (i * e' + j) = (s + i) * e' + j := by rw [Nat.add_mul]; omega
          rw [add_lit, MZ]
          show (E.jM w keys).F _ = some (xf i j)
          simp [xf, hy]
        · obtain ⟨y, hy, h1, -⟩ := eR i row j cc hi hj
          simp [xf, hy, h1]
        · obtain ⟨y, hy, -, h2⟩ := eR i row j cc hi hj
          have : xf i j = y := by simp [xf, hy]
          rw [this]; exact h2.mono hle
      rw [hlen] at xe; exact xe
  unfold bU at h
  split at h
  · simp only [Option.some.injEq] at h; subst h; exact .undef _ _
  · simp only [Option.some.injEq] at h; subst h; exact oc (by rw [bZ hr]; exact .sc _ _)
  · simp only [Option.some.injEq] at h; subst h
    cases hr with
    | slice _ _ a cap mW ad xf ha gQ hz hF h1 hR => exact (aW.slice E.pure _ a cap mW ad xf ha gQ hz hF h1 hR).mono hle
  · simp only [Option.some.injEq] at h; subst h
    cases hr with
    | full _ _ a h =>
    cases h with
    | slice _ _ a cap mW ad xf ha gQ hz hF h1 hR => exact (aW.slice E.pure _ a _ mW ad xf ha (Nat.le_refl _) hz hF h1 hR).mono hle
  · simp only [Option.some.injEq] at h; subst h
    cases hr with
    | cj _ _ ad xf hF hR => exact (aW.cj E.pure _ ad xf hF hR).mono hle
  · simp only [Option.some.injEq] at h; subst h
    cases hr with
    | gn => exact .gn _
  · rename_i b v s l
    have dS : (b, v) ∈ keys := hk (b, v) (by simp [ek])
    split at h
    · rename_i v' e rs hm
      split at h
      · rename_i hl; obtain ⟨rfl, hl⟩ := hl; simp only [Option.some.injEq] at h; subst h; exact zr hr dS hm (.inl rfl) hl
      · cases h
    · rename_i v' e rs hm
      split at h
      · rename_i hl; obtain ⟨rfl, hl⟩ := hl; simp only [Option.some.injEq] at h; subst h; exact zr hr dS hm (.inr rfl) hl
      · cases h
    · cases h
  · simp only [Option.some.injEq] at h; subst h
    cases hr with
    | fM _ f _ _ xs ys hx hy h1 h2 =>
      have e1 : xs = #[] := by simpa using hx.symm
      have e2 : ys = #[] := by simpa using hy.symm
      subst e1; subst e2; exact .sc _ _
  · cases h

theorem k8 {E : Env} {w : World} {a : Act} {st : St} (hs : aZ E w a st) {keys : List (Nat × Nat)} : ∀ {vs vs' : List V} {xs : List Value}, aP E vs xs → dg st.mem vs = some vs' → (∀ k ∈ vs.flatMap ek, k ∈ keys) →
    aP (E.jM w keys).pure vs' xs
  | [], vs', xs, hr, h, _ => by simp [dg] at h; subst h; rw [hr.of_nil]; exact .nil _
  | v :: vs, vs', xs, hr, h, hk => by
    obtain ⟨x, ys, rfl, h1, h2⟩ := hr.of_cons
    simp only [dg] at h
    split at h
    · rename_i c' hc
      split at h
      · rename_i r' tF
        simp only [Option.some.injEq] at h; subst h
        exact .cons (jd hs h1 hc fun k eP => hk k (by simp [eP])) (k8 hs h2 tF fun k eP => hk k (by simp at eP ⊢; exact .inr eP))
      · cases h
    · cases h

theorem rW {E : Env} {w : World} {a : Act} {st : St} (hs : aZ E w a st) {keys : List (Nat × Nat)} {v v' : V} {x : Value} (hr : aW E v x) (h : fi st.mem v = some v') (hk : ∀ k ∈ cp v, k ∈ keys) : aW (E.jM w keys).pure v' x := by
  unfold fi at h
  split at h
  · split at h
    · rename_i cs l hl
      simp only [Option.some.injEq] at h; subst h
      cases hr with
      | agg _ _ xs hlen hh =>
        have := k8 hs (xs := xs.toList) ⟨by simpa using hlen, fun i c x hc hx => hh i c x hc (by simpa using hx)⟩ hl (by simpa [cp] using hk)
        exact .agg _ _ _ (by simpa using this.1) fun i c x hc hx => this.2 i c x hc (by simpa using hx)
    · cases h
  · rename_i bL
    refine jd hs hr h fun k eP => hk k ?_
    cases v <;> first | exact eP | exact absurd rfl (bL _)
theorem fT {E : Env} {w : World} {a : Act} {st : St} (hs : aZ E w a st) {keys : List (Nat × Nat)} : ∀ {vs vs' : List V} {xs : List Value}, aP E vs xs → cy st.mem vs = some vs' → (∀ k ∈ vs.flatMap cp, k ∈ keys) →
    aP (E.jM w keys).pure vs' xs
  | [], vs', xs, hr, h, _ => by simp [cy] at h; subst h; rw [hr.of_nil]; exact .nil _
  | v :: vs, vs', xs, hr, h, hk => by
    obtain ⟨x, ys, rfl, h1, h2⟩ := hr.of_cons
    simp only [cy] at h
    split at h
    · rename_i c' hc
      split at h
      · rename_i r' tF
        simp only [Option.some.injEq] at h; subst h
        exact .cons (rW hs h1 hc fun k eP => hk k (by simp [eP])) (fT hs h2 tF fun k eP => hk k (by simp at eP ⊢; exact .inr eP))
      · cases h
    · cases h
theorem uk {E : Env} {w : World} {a : Act} {st : St} (hs : aZ E w a st) {keys : List (Nat × Nat)} {v v' : V} {x : Value} (hr : aW E v x) (h : LQ st.mem v = some v') (hk : ∀ k ∈ refs v, k ∈ keys) : aW (E.jM w keys).pure v' x := by
  unfold LQ at h
  split at h
  · split at h
    · rename_i vs l hl
      simp only [Option.some.injEq] at h; subst h
      cases hr with
      | bP _ _ xs hlen hh =>
        have := fT hs (xs := xs.toList) ⟨by simpa using hlen, fun i c x hc hx => hh i c x hc (by simpa using hx)⟩ hl (by simpa [refs] using hk)
        exact .bP _ _ _ (by simpa using this.1) fun i c x hc hx => this.2 i c x hc (by simpa using hx)
    · cases h
  · rename_i bL
    refine rW hs hr h fun k eP => hk k ?_
    cases v <;> first | exact eP | exact absurd rfl (bL _)

def aQ (P : Program) (f : FuncId) (args : List V) (r : V) : Prop :=
  (∀ (xs : Array Value) (w : World), (callFunc f xs).run P w = .ok (.enter f xs) w) ∧
  ∀ (F : Addr → Option Value) (hg : Gl F) (w : World) (xs : Array Value), (∀ ad x, F ad = some x → w.cell? ad = some x) → aP ⟨F, fun _ _ => none, hg⟩ args xs.toList →
    Calls P f xs w fun e w' => ∃ F' x, e = .returned x ∧ (∀ ad y, F ad = some y → F' ad = some y) ∧ (∀ ad y, F' ad = some y → w'.cell? ad = some y) ∧ (∀ ad y, F' ad = some y → F ad = some y ∨ w.heap.size ≤ ad.block) ∧
      (∃ Jb, aW ⟨F', fun _ _ => none, Jb⟩ r x) ∧ Below w.heap.size w w'

def xz : V → Bool
  | .undef => true
  | .sc _ => true
  | .agg cs => cs.all (fun c => match c with | .sc _ => true | _ => false)
  | _ => false
def FB : V → Bool
  | .bP vs => vs.all xz
  | v => xz v

theorem um {E E' : Env} {v : V} {x : Value} (h : aW E v x) (hf : xz v = true) : aW E' v x := by
  cases h with
  | undef => exact .undef _ _
  | sc => exact .sc _ _
  | agg _ cs xs hl hh =>
    refine .agg _ _ _ hl fun i c x hc hx => ?_
    have h1 := hh i c x hc hx
    simp only [xz,List.all_eq_true] at hf
    have := hf c (List.mem_of_getElem? hc)
    cases c <;> simp at this
    rw [bZ h1]; exact .sc _ _
  | _ => simp [xz] at hf
theorem Du {E E' : Env} {v : V} {x : Value} (h : aW E v x) (hf : FB v = true) : aW E' v x := by
  unfold FB at hf
  split at hf
  · cases h with
    | bP _ vs xs hl hh =>
      refine .bP _ _ _ hl fun i c x hc hx => um (hh i c x hc hx) ?_
      simp only [List.all_eq_true] at hf
      exact hf c (List.mem_of_getElem? hc)
  · exact um h hf

def rX (mem : List aw) (k : Nat × Nat) : List aw := match mem[k.1]? with | some (.rows v e rs) => if v = k.2 then mem.set k.1 (.mv v e rs) else mem | _ => mem
def bT (mem : List aw) (keys : List (Nat × Nat)) : List aw := keys.foldl rX mem

def iQ (keys : List (Nat × Nat)) (q : Nat) : Option aw → Option aw
  | some (.rows v e rs) => if (q, v) ∈ keys then some (.mv v e rs) else some (.rows v e rs)
  | B => B
theorem xC (mem : List aw) (k : Nat × Nat) (q : Nat) : (rX mem k)[q]? = iQ [k] q mem[q]? := by
  obtain ⟨k, kv⟩ := k
  unfold rX
  dsimp only
  split
  · rename_i v e rs hk
    split
    · rename_i hv
      subst hv
      rw [List.getElem?_set]
      by_cases hq : k = q
      · subst hq
        rw [hk]
        simp [iQ, (List.getElem?_eq_some_iff.1 hk).1]
      · rw [if_neg hq]
        have II : ¬ q = k := fun e => hq e.symm
        cases hB : mem[q]? with
        | none => rfl
        | some B => cases B <;> simp [iQ, II]
    · rename_i hv
      cases hB : mem[q]? with
      | none => rfl
      | some B =>
        cases B <;> first | rfl | skip
        rename_i v' e' rs'
        simp only [iQ,List.mem_singleton,Prod.mk.injEq]
        rw [if_neg]
        rintro ⟨rfl, rfl⟩
        rw [hk] at hB; cases hB; exact hv rfl
  · rename_i hk
    cases hB : mem[q]? with
    | none => rfl
    | some B =>
      cases B <;> first | rfl | skip
      rename_i v e rs
      simp only [iQ,List.mem_singleton,Prod.mk.injEq]
      rw [if_neg]
      rintro ⟨rfl, rfl⟩
      exact hk _ _ _ hB
theorem jV (keys : List (Nat × Nat)) : ∀ (mem : List aw) (q : Nat), (bT mem keys)[q]? = iQ keys q mem[q]? := by
  induction keys with
  | nil => intro mem q; simp only [bT,List.foldl_nil]; cases hB : mem[q]? with | none => rfl | some B => cases B <;> simp [iQ]
  | cons k r ih =>
    intro mem q
    show (bT (rX mem k) r)[q]? = _
    rw [ih, xC]
    cases hB : mem[q]? with
    | none => rfl
    | some B =>
      cases B <;> first | rfl | skip
      rename_i v e rs
      simp only [iQ,List.mem_cons,List.not_mem_nil,or_false]
      by_cases hq : (q, v) = k
      · rw [if_pos hq, if_pos (.inl hq)]
      · rw [if_neg hq]
        by_cases hr : (q, v) ∈ r
        · rw [if_pos (.inr hr)]; simp [hr]
        · rw [if_neg (fun h => h.elim hq hr)]; simp [hr]
theorem mP (keys : List (Nat × Nat)) : ∀ (mem : List aw), (bT mem keys).length = mem.length := by
  induction keys with
  | nil => intro mem; rfl
  | cons k r ih =>
    intro mem
    show (bT (rX mem k) r).length = _
    rw [ih]; unfold rX
    split
    · split <;> simp
    · rfl

def cK (mem : List aw) (keys : List (Nat × Nat)) (r : V) : List aw := if FB r = true then mem else bT mem keys

theorem Dv {mem : List aw} {k : Nat × Nat} : ∀ {us LR : List V}, cy mem us = some LR → k ∈ us.flatMap cp → ∃ B, mem[k.1]? = some B ∧ B.aA = k.2 ∧ ∃ e rs, B = .rows k.2 e rs ∨ B = .mv k.2 e rs := by
  have LS : ∀ (cs mL : List V), dg mem cs = some mL → k ∈ cs.flatMap ek → ∃ B, mem[k.1]? = some B ∧ B.aA = k.2 ∧ ∃ e rs, B = .rows k.2 e rs ∨ B = .mv k.2 e rs := by
    intro cs
    induction cs with
    | nil => intro mL _ hm; simp at hm
    | cons c r ih =>
      intro mL hp hm
      simp only [dg] at hp
      split at hp
      · rename_i c' hc
        split at hp
        · rename_i r' hr
          simp only [List.flatMap_cons,List.mem_append] at hm
          rcases hm with hm | hm
          · cases c <;> simp only [ek,List.mem_singleton,List.not_mem_nil] at hm
            subst hm
            simp only [bU] at hc
            split at hc
            · rename_i h
              split at hc
              · rename_i hv; obtain ⟨rfl, -⟩ := hv; exact ⟨_, h, rfl, _, _, .inl rfl⟩
              · cases hc
            · rename_i h
              split at hc
              · rename_i hv; obtain ⟨rfl, -⟩ := hv; exact ⟨_, h, rfl, _, _, .inr rfl⟩
              · cases hc
            · cases hc
          · exact ih _ hr hm
        · cases hp
      · cases hp
  intro us
  induction us with
  | nil => intro LR _ hm; simp at hm
  | cons c r ih =>
    intro LR hp hm
    simp only [cy] at hp
    split at hp
    · rename_i c' hc
      split at hp
      · rename_i r' hr
        simp only [List.flatMap_cons,List.mem_append] at hm
        rcases hm with hm | hm
        · unfold fi at hc
          split at hc
          · split at hc
            · rename_i l hl; exact LS _ _ hl hm
            · cases hc
          · rename_i bL
            refine LS [c] [c'] (by simp [dg, hc]) ?_
            simp only [List.flatMap_cons,List.flatMap_nil,List.append_nil]
            cases c <;> first | exact hm | exact absurd rfl (bL _)
        · exact ih hr hm
      · cases hp
    · cases hp

theorem rY {E : Env} {w w' : World} {a : Act} {st : St} (hs : aZ E w a st) {vs vs' : List V} (hp : cy st.mem vs = some vs') {F' : Addr → Option Value} (zS : ∀ ad y, (E.jM w (vs.flatMap cp)).F ad = some y → F' ad = some y)
    (ee : ∀ ad y, F' ad = some y → w'.cell? ad = some y) (TG : ∀ ad y, F' ad = some y → (E.jM w (vs.flatMap cp)).F ad = some y ∨ w.heap.size ≤ ad.block) (hb : Below w.heap.size w w') :
    ∃ hg, dn E w ⟨F', E.aK, hg⟩ w' ∧ aZ ⟨F', E.aK, hg⟩ w' a { st with mem := bT st.mem (vs.flatMap cp) } := by
  have hg : Gl F' := E.gl.mono fun ad x h => zS _ _ ((Env.o9 E w _).F _ _ h)
  refine ⟨hg, ?_⟩
  have hle : E.le ⟨F', E.aK, hg⟩ := ⟨fun ad y hy => zS _ _ ((Env.o9 E w _).F _ _ hy), fun _ _ _ h => h⟩
  have UF : (E.jM w (vs.flatMap cp)).le ⟨F', E.aK, hg⟩ := ⟨zS, fun _ _ _ h => h⟩
  -- no cell of F' bj in a held block fR ZZ not handed over
  have clean : ∀ k B, st.mem[k]? = some B → B.held = true → (∀ v e rs, B ≠ .mv v e rs) → (∀ v e rs, B = .rows v e rs → (k, v) ∉ vs.flatMap cp) → ∀ g e c o, E.aK k B.aA = some (g, e, c) → E.F ⟨g, o, none⟩ = none → F' ⟨g, o, none⟩ = none := by
    intro k B hB hh Yi rZ g e c o dS hn
    cases hy : F' ⟨g, o, none⟩ with
    | none => rfl
    | some y =>
      exfalso
      rcases TG _ y hy with h | h
      · rcases Env.vF h with h | ⟨k', eP, e', c', h⟩
        · rw [hn] at h; cases h
        · obtain ⟨B', nO, qJ, e1, nT, IH⟩ := Dv hp eP
          have IG : B'.held = true := by rcases IH with rfl | rfl <;> rfl
          rw [← qJ] at h
          have bO := hs.apart _ _ _ _ _ _ _ _ _ dS h
          subst bO
          rw [hB] at nO; cases nO
          rcases IH with rfl | rfl
          · exact rZ _ _ _ rfl (by rw [show (k'.1, k'.2) = k' from rfl]; exact eP)
          · exact Yi _ _ _ rfl
      · have := hs.lt _ _ _ _ _ dS; simp at h; omega
  refine ⟨⟨hle, fun k v g e c h => .inl ⟨k, v, e, c, h⟩, fun ad y hy => ?_, hb.os, hb.tape, hb.output, hb.size, fun b az _ => hb.block b az⟩, ?_⟩
  · rcases TG ad y hy with h | h
    · rcases Env.vF h with h | ⟨k, -, e, c, h⟩
      · exact .inl h
      · exact .inr (.inr ⟨k.1, k.2, e, c, h⟩)
    · exact .inr (.inl h)
  · have nR : ∀ (q : Nat) (B : aw), (bT st.mem (vs.flatMap cp))[q]? = some B → ∃ B', st.mem[q]? = some B' ∧ B.aA = B'.aA ∧ B.held = B'.held ∧ (B = B' ∧ (∀ v e rs, B = .rows v e rs → (q, v) ∉ vs.flatMap cp) ∨ ∃ v e rs, B' = .rows v e rs ∧ B = .mv v e rs ∧ (q, v) ∈ vs.flatMap cp) := fun q B hq => by
      rw [jV] at hq
      cases uo : st.mem[q]? with
      | none => rw [uo] at hq; simp [iQ] at hq
      | some B0 =>
        rw [uo] at hq
        refine ⟨B0, rfl, ?_⟩
        cases B0 with
        | rows v e rs =>
          simp only [iQ] at hq
          split at hq
          · rename_i fS; cases hq; exact ⟨rfl, rfl, .inr ⟨v, e, rs, rfl, rfl, fS⟩⟩
          · rename_i fS; cases hq; exact ⟨rfl, rfl, .inl ⟨rfl, fun v' e' rs' h => by cases h; exact fS⟩⟩
        | _ => cases hq; exact ⟨rfl, rfl, .inl ⟨rfl, fun v' e' rs' h => by cases h⟩⟩
    refine ⟨ee, fun k v g e c h => Nat.lt_of_lt_of_le (hs.lt _ _ _ _ _ h) hb.size, fun k B hk => ?_, fun k hk v => hs.top k (by simpa [mP] using hk) v, fun k B hk v hv => ?_, hs.apart, hs.fr.mono hle⟩
    · obtain ⟨B', nO, -, -, rT⟩ := nR k B hk
      rcases rT with ⟨rfl, rZ⟩ | ⟨v, e, rs, rfl, rfl, fS⟩
      · have r5 := (hs.mem k B nO).mono (E' := ⟨F', E.aK, hg⟩) (w' := w') hle (fun _ h => h) (fun g e c h => hb.block _ (hs.lt _ _ _ _ _ h))
        cases Jc : B with
        | mv v e rs =>
          subst Jc
          rcases hs.mem k _ nO with h9 | ⟨g, c, re, hl, hr⟩
          · exact .inl h9
          refine .inr ⟨g, c, re, hl, fun i row hi => ?_⟩
          obtain ⟨h5, h6⟩ := hr i row hi
          exact ⟨h5, fun j cc hj => let ⟨x, hx, h7, h8⟩ := h6 j cc hj; ⟨x, hle.F _ _ hx, h7, h8.mono (Env.fq hle)⟩⟩
        | hole => subst Jc; exact hs.mem k _ nO
        | dead => trivial
        | loop s iY fr params assign body => subst Jc; exact r5 (clean k _ nO rfl (fun _ _ _ h => by cases h) (fun _ _ _ h => by cases h))
        | box cs => subst Jc; exact r5 (clean k _ nO rfl (fun _ _ _ h => by cases h) (fun _ _ _ h => by cases h))
        | map bm clock => subst Jc; exact r5 (clean k _ nO rfl (fun _ _ _ h => by cases h) (fun _ _ _ h => by cases h))
        | eh m since seen last => subst Jc; exact r5 (clean k _ nO rfl (fun _ _ _ h => by cases h) (fun _ _ _ h => by cases h))
        | gJ s pos => subst Jc; exact r5 (clean k _ nO rfl (fun _ _ _ h => by cases h) (fun _ _ _ h => by cases h))
        | ig => subst Jc; exact r5 (clean k _ nO rfl (fun _ _ _ h => by cases h) (fun _ _ _ h => by cases h))
        | rows v e rs => subst Jc; exact r5 (clean k _ nO rfl (fun _ _ _ h => by cases h) rZ)
      · rcases hs.mem k _ nO with h9 | ⟨g, T, cur, c, re, -⟩
        · exact .inl h9
        · obtain ⟨-, hl, hr⟩ := xy hs fS re nO (.inl rfl)
          refine .inr ⟨g, c, re, hl, fun i row hi => ?_⟩
          obtain ⟨h5, h6⟩ := hr i row hi
          exact ⟨h5, fun j cc hj => let ⟨x, hx, h7, h8⟩ := h6 j cc hj; ⟨x, UF.F _ _ hx, h7, h8.mono (Env.fq hle)⟩⟩
    · obtain ⟨B', nO, zt, -, -⟩ := nR k B hk
      exact hs.aA k B' nO v (by omega)

theorem aZ.freeze {E : Env} {w : World} {a : Act} {st : St} (hs : aZ E w a st) {vs vs' : List V} (hp : cy st.mem vs = some vs') :
    ∃ E', aZ E' w a { st with mem := bT st.mem (vs.flatMap cp) } ∧ dn E w E' w ∧ ∀ xs, aP E vs xs → aP E' vs' xs := by
  obtain ⟨hg, h1, h2⟩ := rY hs hp (F' := (E.jM w (vs.flatMap cp)).F) (fun _ _ h => h) (fun ad y h => Env.BV hs.F h) (fun _ _ h => .inl h) (Below.refl _ w)
  exact ⟨_, h2, h1, fun xs hx => (fT hs (keys := vs.flatMap cp) hx hp fun k hk => hk).mono ⟨fun _ _ h => h, fun _ _ _ h => by cases h⟩⟩

theorem Dw {P : Program} {f : FuncId} {E : Env} {w : World} {a : Act} {st : St} (hs : aZ E w a st) {vs vs' : List V} {r : V} {xs : Array Value} (hx : aP E vs xs.toList) (hp : cy st.mem vs = some vs') (hf : aQ P f vs' r) :
    Calls P f xs w fun e w' => ∃ E' x, e = .returned x ∧ dn E w E' w' ∧ aZ E' w' a { st with mem := cK st.mem (vs.flatMap cp) r } ∧ aW E' r x := by
  have h1 := fT hs (keys := vs.flatMap cp) hx hp fun k hk => hk
  refine (hf.2 (E.jM w (vs.flatMap cp)).F (E.jM w (vs.flatMap cp)).gl w xs (fun ad x h => Env.BV hs.F h) h1).mono ?_
  rintro e w' ⟨F', x, rfl, zS, ee, TG, ⟨Jb, od⟩, hb⟩
  unfold cK
  split
  · rename_i QY
    refine ⟨E, x, rfl, ⟨E.le_refl, fun k v g e c h => .inl ⟨k, v, e, c, h⟩, fun _ _ h => .inl h, hb.os, hb.tape, hb.output, hb.size, fun b az _ => hb.block b az⟩, ?_, Du od QY⟩
    refine ⟨fun ad y hy => ?_, fun k v g e c h => Nat.lt_of_lt_of_le (hs.lt _ _ _ _ _ h) hb.size, fun k B hk => ?_, hs.top, hs.aA, hs.apart, hs.fr⟩
    · rw [hb.cell (World.block_lt_of_cell? w ad (hs.F ad y hy))]; exact hs.F ad y hy
    · exact (hs.mem k B hk).mono E.le_refl (fun _ h => h) (fun g e c h => hb.block _ (hs.lt _ _ _ _ _ h)) fun _ _ _ _ _ h => h
  · obtain ⟨hg, e1, s1⟩ := rY hs hp zS ee TG hb
    exact ⟨_, x, rfl, e1, s1, od.mono ⟨fun _ _ h => h, fun _ _ _ h => by simp at h⟩⟩
end Go.Eng
end
