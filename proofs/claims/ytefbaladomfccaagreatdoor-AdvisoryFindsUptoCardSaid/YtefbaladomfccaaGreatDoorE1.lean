/-
  THE ENGINE, A: abstract values, and what it means that one stands for a value of the model in a world.
  THE ENGINE, B: the table of types, the store, the state of a call, and what one operation makes of it.
  THE ENGINE, C: the operations that write nothing, and that each does in the model what it says.
  THE ENGINE, D: one word for all operations that write nothing.
  THE ENGINE, DM: maps: reading them.
  THE ENGINE, E: the word for every operation that writes nothing, and its soundness.
  THE ENGINE, F: new blocks, stores, what is read for good.
  THE ENGINE, G: stores.
  THE ENGINE, H: slices that are made: literals, append.
  THE ENGINE, I: append.
  THE ENGINE, IM: maps: writing them; ranging over them, and over strings.
  THE ENGINE, SF: append to a slice that begins behind its block's beginning: it may stay where it is, or go to a new block.
  THE ENGINE, J: what a call hands over; contracts.
-/
import Derived.Orders
import Derived.Below
import Derived.Laws.AppendOwn
import Derived.Laws.Cells
import Derived.Laws.Entries
import Derived.Laws.ResultCell
import Derived.Laws.BytesArg
import Derived.Laws.Append
import Derived.IntWalk
set_option linter.all false
section
namespace Go.Eng

class aK where
 n : Int
 κ : Int → Option Bool
 ok : ∀ k b, κ k = some b → decide (k ≤ n) = b
 g : Option Nat
 Na : Nat → Option (List Value)
variable [aK]
structure Gl (F : Addr → Option Value) : Prop where
 n : ∀ g, aK.g = some g → F ⟨g, 0, none⟩ = some (.int .i64 aK.n)
 t : ∀ g cs (j : Nat) x, aK.Na g = some cs → cs[j]? = some x → F ⟨g, j, none⟩ = some x
theorem Gl.mono {F F' : Addr → Option Value} (h : Gl F) (hF : ∀ ad x, F ad = some x → F' ad = some x) : Gl F' := ⟨fun g hg => hF _ _ (h.n g hg), fun g cs j x h1 h2 => hF _ _ (h.t g cs j x h1 h2)⟩

inductive V where
 | undef
 | sc (v : Value)
 | agg (cs : List V)
 | slice (rows : List V)
 | ms (b v s l : Nat)
 | ptr (b o : Nat)
 | dw (b v i o : Nat)
 | cn (cs : List V)
 | iw (f : Fn) (first cap : List V)
 | ch (vs : List V)
 | gr (b : Nat)
 | mp (b : Nat)
 | gn
 | full (rows : List V)
 deriving Inhabited

def V.cells : V → List V
 | .agg cs => cs
 | v => [v]

structure Env where
 F : Addr → Option Value
 aM : Nat → Nat → Option (Nat × Nat × Nat)
 gl : Gl F

def Env.pure (E : Env) : Env := { F := E.F, aM := fun _ _ => none, gl := E.gl }

inductive a8 : Env → V → Value → Prop
 | undef (E : Env) (x : Value) : a8 E .undef x
 | sc (E : Env) (v : Value) : a8 E (.sc v) v
 | agg (E : Env) (cs : List V) (xs : Array Value) (hl : cs.length = xs.size) (h : ∀ (i : Nat) (c : V) (x : Value), cs[i]? = some c → xs[i]? = some x → a8 E c x) : a8 E (.agg cs) (.agg xs)
 | slice (E : Env) (rows : List V) (a : Option Addr) (cap nB : Nat) (ad : Addr) (xf : Nat → Nat → Value) (ha : rows ≠ [] → a = some ad) (iS : rows.length ≤ cap)
   (hs : ∀ (i : Nat) (row : V), rows[i]? = some row → row.cells.length = nB)
   (hF : ∀ (i : Nat) (row : V) (j : Nat) (c : V), rows[i]? = some row → row.cells[j]? = some c → E.F (ad.add (i * nB + j)) = some (xf i j))
   (h1 : ∀ (i : Nat) (row : V) (j : Nat) (c : V), rows[i]? = some row → row.cells[j]? = some c → (xf i j).oneCell' = true)
   (h : ∀ (i : Nat) (row : V) (j : Nat) (c : V), rows[i]? = some row → row.cells[j]? = some c → a8 E.pure c (xf i j)) : a8 E (.slice rows) (.slice a rows.length cap)
 | ms (E : Env) (b v s l g e c : Nat) (a : Option Addr) (cap : Nat) (hb : E.aM b v = some (g, e, c)) (hl : 0 < l → a = some ⟨g, s * e, none⟩) (h0 : s = 0 → a = some ⟨g, 0, none⟩ ∧ cap = c) (hc : l ≤ cap ∧ s + cap = c ∧ (0 < cap → a = some ⟨g, s * e, none⟩)) :
   a8 E (.ms b v s l) (.slice a l cap)
 | dg (E : Env) (b v s : Nat) : a8 E (.ms b v s 0) (.slice none 0 0)
 | ptr (E : Env) (b o g e c : Nat) (hb : E.aM b 0 = some (g, e, c)) : a8 E (.ptr b o) (.pointer (some ⟨g, o, none⟩))
 | dw (E : Env) (b v i o g e c : Nat) (hb : E.aM b v = some (g, e, c)) : a8 E (.dw b v i o) (.pointer (some ⟨g, i * e + o, none⟩))
 | cn (E : Env) (cs : List V) (ad : Addr) (xf : Nat → Value) (hF : ∀ (j : Nat) (c : V), cs[j]? = some c → E.F (ad.add j) = some (xf j)) (h : ∀ (j : Nat) (c : V), cs[j]? = some c → a8 E.pure c (xf j)) :
   a8 E (.cn cs) (.pointer (some ad))
 | iw (E : Env) (f : Fn) (first cap : List V) (xs ys : Array Value) (hx : first.length = xs.size) (hy : cap.length = ys.size)
   (h1 : ∀ (i : Nat) (c : V) (x : Value), first[i]? = some c → xs[i]? = some x → a8 E c x) (h2 : ∀ (i : Nat) (c : V) (x : Value), cap[i]? = some c → ys[i]? = some x → a8 E c x) : a8 E (.iw f first cap) (.func f xs ys)
 | gr (E : Env) (b l e c : Nat) (hb : E.aM b 0 = some (l, e, c)) : a8 E (.gr b) (.func (.yield l) #[] #[])
 | mp (E : Env) (b l e c : Nat) (hb : E.aM b 0 = some (l, e, c)) : a8 E (.mp b) (.map (some l))
 | gn (E : Env) : a8 E .gn (.int .i64 aK.n)
 | full (E : Env) (rows : List V) (a : Option Addr) (h : a8 E (.slice rows) (.slice a rows.length rows.length)) : a8 E (.full rows) (.slice a rows.length rows.length)
 | ch (E : Env) (vs : List V) (xs : Array Value) (hl : vs.length = xs.size) (h : ∀ (i : Nat) (c : V) (x : Value), vs[i]? = some c → xs[i]? = some x → a8 E c x) : a8 E (.ch vs) (.tuple xs)

def aV (E : Env) (vs : List V) (xs : List Value) : Prop := vs.length = xs.length ∧ ∀ (i : Nat) (v : V) (x : Value), vs[i]? = some v → xs[i]? = some x → a8 E v x

theorem Env.DY {a b : Env} (h1 : a.F = b.F) (h2 : a.aM = b.aM) : a = b := by
 cases a; cases b; dsimp only at h1 h2; subst h1; subst h2; rfl

structure Env.le (E E' : Env) : Prop where
 F : ∀ ad x, E.F ad = some x → E'.F ad = some x
 aM : ∀ b v t, E.aM b v = some t → E'.aM b v = some t

theorem Env.le_refl (E : Env) : E.le E := ⟨fun _ _ h => h, fun _ _ _ h => h⟩
theorem Env.le_trans {a b c : Env} (h : a.le b) (k : b.le c) : a.le c := ⟨fun ad x hx => k.F _ _ (h.F _ _ hx), fun b v t hx => k.aM _ _ _ (h.aM _ _ _ hx)⟩
theorem Env.ft {a b : Env} (h : a.le b) : a.pure.le b.pure := ⟨h.F, fun _ _ _ h => h⟩
theorem Env.mD (a : Env) : a.pure.le a := ⟨fun _ _ h => h, fun _ _ _ h => by simp [Env.pure] at h⟩

theorem a8.mono {E E' : Env} {v : V} {x : Value} (h : a8 E v x) (hle : E.le E') : a8 E' v x := by
 induction h generalizing E' with
 | undef => exact .undef _ _
 | sc => exact .sc _ _
 | agg E cs xs hl h ih => exact .agg _ _ _ hl fun i c x hc hx => ih i c x hc hx hle
 | slice E rows a cap nB ad xf ha iS hs hF h1 h ih => exact .slice _ _ _ _ nB ad xf ha iS hs (fun i row j c hi hj => hle.F _ _ (hF i row j c hi hj)) h1 fun i row j c hi hj => ih i row j c hi hj (Env.ft hle)
 | ms E b v s l g e c a cap hb hl h0 hc => exact .ms _ _ _ _ _ g e c _ _ (hle.aM _ _ _ hb) hl h0 hc
 | dg E b v s => exact .dg _ _ _ _
 | ptr E b o g e c hb => exact .ptr _ _ _ g e c (hle.aM _ _ _ hb)
 | dw E b v i o g e c hb => exact .dw _ _ _ _ _ g e c (hle.aM _ _ _ hb)
 | cn E cs ad xf hF h ih => exact .cn _ _ _ xf (fun j c hj => hle.F _ _ (hF j c hj)) fun j c hj => ih j c hj (Env.ft hle)
 | iw E f first cap xs ys hx hy h1 h2 Nb Nc => exact .iw _ _ _ _ _ _ hx hy (fun i c x hc hx => Nb i c x hc hx hle) fun i c x hc hx => Nc i c x hc hx hle
 | gr E b l e c hb => exact .gr _ _ l e c (hle.aM _ _ _ hb)
 | mp E b l e c hb => exact .mp _ _ l e c (hle.aM _ _ _ hb)
 | gn E => exact .gn _
 | full E rows a h ih => exact .full _ _ _ (ih hle)
 | ch E vs xs hl h ih => exact .ch _ _ _ hl fun i c x hc hx => ih i c x hc hx hle

theorem aV.mono {E E' : Env} {vs : List V} {xs : List Value} (h : aV E vs xs) (hle : E.le E') : aV E' vs xs :=
 ⟨h.1, fun i v x hv hx => (h.2 i v x hv hx).mono hle⟩
theorem aV.nil (E : Env) : aV E [] [] := ⟨rfl, fun i v x h => by simp at h⟩
theorem aV.cons {E : Env} {v : V} {x : Value} {vs : List V} {xs : List Value} (h : a8 E v x) (hs : aV E vs xs) : aV E (v :: vs) (x :: xs) := by
 refine ⟨by simp [hs.1], fun i => ?_⟩
 cases i with
 | zero => intro v' x' hv hx; simp at hv hx; subst hv; subst hx; exact h
 | succ i => intro v' x' hv hx; simp at hv hx; exact hs.2 i v' x' hv hx
theorem aV.of_cons {E : Env} {v : V} {vs : List V} {xs : List Value} (h : aV E (v :: vs) xs) : ∃ x ys, xs = x :: ys ∧ a8 E v x ∧ aV E vs ys := by
 cases xs with
 | nil => have := h.1; simp at this
 | cons x ys => exact ⟨x, ys, rfl, h.2 0 v x rfl rfl, by have := h.1; simpa using this, fun i v' x' hv hx => h.2 (i + 1) v' x' (by simpa using hv) (by simpa using hx)⟩
theorem aV.of_nil {E : Env} {xs : List Value} (h : aV E [] xs) : xs = [] := by
 have := h.1; simp at this; exact List.length_eq_zero_iff.1 this.symm
theorem aV.append {E : Env} {vs us : List V} {xs ys : List Value} (h : aV E vs xs) (k : aV E us ys) : aV E (vs ++ us) (xs ++ ys) := by
 refine ⟨by simp [h.1, k.1], fun i v x hv hx => ?_⟩
 by_cases hi : i < vs.length
 ·rw [List.getElem?_append_left hi] at hv; rw [List.getElem?_append_left (h.1 ▸ hi)] at hx; exact h.2 i v x hv hx
 ·rw [List.getElem?_append_right (by omega)] at hv; rw [List.getElem?_append_right (by have := h.1; omega), ← h.1] at hx; exact k.2 _ v x hv hx
theorem aV.get {E : Env} {vs : List V} {xs : List Value} (h : aV E vs xs) {i : Nat} {v : V} (hv : vs[i]? = some v) : ∃ x, xs[i]? = some x ∧ a8 E v x := by
 have hi : i < xs.length := by rw [← h.1]; exact (List.getElem?_eq_some_iff.1 hv).1
 exact ⟨xs[i], List.getElem?_eq_getElem hi, h.2 i v _ hv (List.getElem?_eq_getElem hi)⟩
theorem aV.drop {E : Env} {vs : List V} {xs : List Value} (h : aV E vs xs) (n : Nat) : aV E (vs.drop n) (xs.drop n) :=
 ⟨by simp [h.1], fun i v x hv hx => h.2 (n + i) v x (by simpa using hv) (by simpa using hx)⟩
theorem aV.take {E : Env} {vs : List V} {xs : List Value} (h : aV E vs xs) (n : Nat) : aV E (vs.take n) (xs.take n) := by
 refine ⟨by simp [h.1], fun i v x hv hx => ?_⟩
 have hi : i < n := by
  by_cases hi : i < n
  ·exact hi
  ·rw [List.getElem?_take] at hv; simp [hi] at hv
 rw [List.getElem?_take_of_lt hi] at hv hx
 exact h.2 i v x hv hx
theorem aV.set {E : Env} {vs : List V} {xs : List Value} (h : aV E vs xs) (n : Nat) {v : V} {x : Value} (hv : a8 E v x) : aV E (vs.set n v) (xs.set n x) := by
 refine ⟨by simp [h.1], fun i v' x' rI vJ => ?_⟩
 by_cases hi : n = i
 ·subst hi
  rw [List.getElem?_set] at rI vJ
  simp only [if_true] at rI vJ
  split at rI
  ·split at vJ
   ·simp at rI vJ; subst rI; subst vJ; exact hv
   ·simp at vJ
  ·simp at rI
 ·rw [List.getElem?_set_ne hi] at rI vJ; exact h.2 i v' x' rI vJ

theorem a8.cells {E : Env} {v : V} {x : Value} (h : a8 E v x) (hu : v ≠ .undef) (hs : ∀ y, v = .sc y → ∀ cs, y ≠ .agg cs) : aV E v.cells x.cells.toList := by
 cases h with
 | undef => exact absurd rfl hu
 | sc =>
  have : x.cells = #[x] := by
   have := hs x rfl
   cases x <;> simp [Value.cells] at this ⊢
  simp only [V.cells,this]; exact .cons (.sc _ _) (.nil _)
 | agg _ cs xs hl h => exact ⟨by simpa [V.cells, Value.cells] using hl, fun i c x hc hx => h i c x hc (by simpa [Value.cells] using hx)⟩
 | slice _ rows a cap nB ad xf ha iS hz hF h1 h => exact .cons (.slice _ _ _ _ nB ad xf ha iS hz hF h1 h) (.nil _)
 | ms _ b v s l g e c a cap hb hl h0 hc => exact .cons (.ms _ _ _ _ _ g e c _ _ hb hl h0 hc) (.nil _)
 | dg _ b v s => exact .cons (.dg _ _ _ _) (.nil _)
 | ptr _ b o g e c hb => exact .cons (.ptr _ _ _ g e c hb) (.nil _)
 | dw _ b v i o g e c hb => exact .cons (.dw _ _ _ _ _ g e c hb) (.nil _)
 | cn _ cs ad xf hF h => exact .cons (.cn _ _ _ xf hF h) (.nil _)
 | iw _ f first cap xs ys hx hy h1 h2 => exact .cons (.iw _ _ _ _ _ _ hx hy h1 h2) (.nil _)
 | gr _ b l e c hb => exact .cons (.gr _ _ l e c hb) (.nil _)
 | mp _ b l e c hb => exact .cons (.mp _ _ l e c hb) (.nil _)
 | gn => exact .cons (.gn _) (.nil _)
 | full _ rows a h => exact .cons (.full _ _ _ h) (.nil _)
 | ch _ vs xs hl h => exact .cons (.ch _ _ _ hl h) (.nil _)
end Go.Eng
end

section
namespace Go.Eng
variable [aK]

structure Ti where
 size : Nat
 agg : Bool
 zero : List Value
 aO : List (Nat × Nat) := []
 elem : Option TypeId := none
 bytes : Nat := 0
 deriving Inhabited

abbrev Table := TypeId → Option Ti

structure TT (P : Program) (tt : Table) : Prop where
 size : ∀ t i, tt t = some i → ∃ info, P.info? t = some info ∧ info.size = i.size ∧ info.bytes = i.bytes ∧ ∃ z, info.zero = some z ∧ z.cells.toList = i.zero
 desc : ∀ t i, tt t = some i → ∃ d, P.underlying t = some d ∧ (i.agg = true ↔ ((∃ fs, d = .struct fs) ∨ ∃ n e, d = .array n e)) ∧
  (∀ e, i.elem = some e → d = .slice e) ∧
  (∀ (f off sz : Nat), i.aO[f]? = some (off, sz) → ∃ fs fd inf, d = .struct fs ∧ fs.size = i.aO.length ∧ fs[f]? = some fd ∧ fd.offset = off ∧ P.info? fd.type = some inf ∧ inf.size = sz ∧ sz ≠ 0)

def aU {α : Type} (P : Program) : Sem α → Option α
 | .pure a => some a
 | .program k => aU P (k P)
 | .mark _ k => aU P k
 | _ => none

theorem cX {α : Type} {P : Program} (s : Sem α) {v : α} (h : aU P s = some v) (w : World) : s.run P w = .ok v w := by
 induction s with
 | pure a => simp [aU] at h; subst h; rfl
 | program k ih => exact ih P h
 | mark m k ih => exact ih h
 | _ => simp [aU] at h

def fg : Value → V
 | .agg cs => .agg (cs.toList.map V.sc)
 | .tuple vs => .ch (vs.toList.map V.sc)
 | v => .sc v

theorem jd (E : Env) (cs : Array Value) (i : Nat) (c : V) (x : Value) (hc : (cs.toList.map V.sc)[i]? = some c) (hx : cs[i]? = some x) : a8 E c x := by
 simp only [List.getElem?_map,Array.getElem?_toList,hx,Option.map_some,Option.some.injEq] at hc
 subst hc; exact .sc _ _
theorem fR (E : Env) (v : Value) : a8 E (fg v) v := by
 cases v with
 | agg cs => exact .agg _ _ _ (by simp) (jd E cs)
 | tuple cs => exact .ch _ _ _ (by simp) (jd E cs)
 | _ => exact .sc _ _

inductive aC where
 | hole
 | dead
 | box (cs : List V)
 | rows (v e : Nat) (rs : List V)
 | pB (v e : Nat) (rs : List V)
 | loop (s : LoopState) (iU : Option Code) (fr : List V) (params : Array Tmp) (assign body : Code)
 | map (bK : List (Value × Nat × V)) (clock : Nat)
 | eA (m since : Nat) (seen : List Nat) (last : Nat)
 | iO (s : ByteArray) (pos : Nat)
 | je
 deriving Inhabited

structure St where
 fr : List V
 mem : List aC

def St.eval (st : St) : Operand → V
 | .tmp t => st.fr.getD t .undef
 | .const v => fg v
 | .global g => if aK.g = some g then .cn [.gn] else match aK.Na g with | some cs => .cn (cs.map V.sc) | none => .undef
 | .func f => .sc (.func (.func f) #[] #[])

def St.put (st : St) (dst : Option Tmp) (v : V) : St :=
 match dst with
 | some d => { st with fr := st.fr.set d v }
 | none => st

def fS (E : Env) (e : Nat) (rs : List V) (at_ : Nat → Option Value) : Prop :=
 ∀ (i : Nat) (row : V), rs[i]? = some row → row.cells.length = e ∧ ∀ (j : Nat) (c : V), row.cells[j]? = some c → ∃ x, at_ (i * e + j) = some x ∧ x.oneCell' = true ∧ a8 E c x

def cQ (E : Env) (bK : List (Value × Nat × V)) (es : List MapEntry) : Prop :=
 bK.length = es.length ∧ ∀ (i : Nat) (k : Value × Nat × V) (e : MapEntry), bK[i]? = some k → es[i]? = some e → e.key = k.1 ∧ e.born = k.2.1 ∧ a8 E k.2.2 e.val
theorem cQ.mono {E E' : Env} {bK : List (Value × Nat × V)} {es : List MapEntry} (h : cQ E bK es) (hle : E.le E') : cQ E' bK es :=
 ⟨h.1, fun i k e hk he => let ⟨h1, h2, h3⟩ := h.2 i k e hk he; ⟨h1, h2, h3.mono hle⟩⟩

def iP (E : Env) (w : World) (k : Nat) : aC → Prop
 | .hole => ∀ v, E.aM k v = none
 | .dead => True
 | .box cs => ∃ g T xs, E.aM k 0 = some (g, 0, 0) ∧ w.heap[g]? = some (.cells xs T (0, 0)) ∧ aV E cs xs.toList ∧ ∀ o, E.F ⟨g, o, none⟩ = none
 | .rows v e rs => (rs = [] ∧ E.aM k v = none) ∨ ∃ g T xs c, E.aM k v = some (g, e, c) ∧ w.heap[g]? = some (.cells xs T (0, 0)) ∧ xs.size = c * e ∧ rs.length ≤ c ∧ fS E.pure e rs (fun o => xs[o]?) ∧ ∀ o, E.F ⟨g, o, none⟩ = none
 | .pB v e rs => (rs = [] ∧ E.aM k v = none) ∨ ∃ g c, E.aM k v = some (g, e, c) ∧ rs.length ≤ c ∧ fS E.pure e rs (fun o => E.F ⟨g, o, none⟩)
 | .loop s iU fr params assign body => ∃ l fn tmps db, E.aM k 0 = some (l, 0, 0) ∧ w.heap[l]? = some (.loop { state := s, pending := iU, fn := fn, tmps := tmps, params := params, assign := assign, body := body, defers := db }) ∧ aV E fr tmps.toList ∧ ∀ o, E.F ⟨l, o, none⟩ = none

 | .map bK clock => ∃ g es, E.aM k 0 = some (g, 0, 0) ∧ w.heap[g]? = some (.map es clock) ∧ cQ E bK es.toList ∧ ∀ o, E.F ⟨g, o, none⟩ = none
 | .eA m since seen last => ∃ g gm e c, E.aM k 0 = some (g, 0, 0) ∧ E.aM m 0 = some (gm, e, c) ∧ w.heap[g]? = some (.mapIter (some gm) since seen.toArray last) ∧ ∀ o, E.F ⟨g, o, none⟩ = none
 | .iO s pos => ∃ g, E.aM k 0 = some (g, 0, 0) ∧ w.heap[g]? = some (.stringIter s pos) ∧ ∀ o, E.F ⟨g, o, none⟩ = none
 | .je => ∃ g, E.aM k 0 = some (g, 0, 0) ∧ w.heap[g]? = some (.mapIter none 0 #[] 0) ∧ ∀ o, E.F ⟨g, o, none⟩ = none

def aC.bW : aC → Nat
 | .rows v _ _ => v
 | .pB v _ _ => v
 | _ => 0
def aC.held : aC → Bool
 | .hole | .dead => false
 | _ => true

structure bc (E : Env) (w : World) (a : Act) (st : St) : Prop where
 F : ∀ ad x, E.F ad = some x → w.cell? ad = some x
 lt : ∀ k v g e c, E.aM k v = some (g, e, c) → g < w.heap.size
 mem : ∀ k B, st.mem[k]? = some B → iP E w k B
 top : ∀ k, st.mem.length ≤ k → ∀ v, E.aM k v = none
 bW : ∀ k B, st.mem[k]? = some B → ∀ v, B.bW < v → E.aM k v = none
 apart : ∀ k k' v v' g e c e' c', E.aM k v = some (g, e, c) → E.aM k' v' = some (g, e', c') → k = k'
 fr : aV E st.fr a.tmps.toList

theorem bc.eval {E : Env} {w : World} {a : Act} {st : St} (h : bc E w a st) (x : Operand) : a8 E (st.eval x) (a.eval x) := by
 cases x with
 | tmp t =>
  simp only [St.eval,Act.eval]
  cases hv : st.fr[t]? with
  | none => rw [List.getD_eq_getElem?_getD, hv]; exact .undef _ _
  | some v =>
   obtain ⟨x, hx, hr⟩ := h.fr.get hv
   rw [List.getD_eq_getElem?_getD, hv, Array.getD_eq_getD_getElem?]
   simp only [Array.getElem?_toList] at hx
   rw [hx]; exact hr
 | const v => exact fR E v
 | global g =>
  simp only [St.eval,Act.eval]
  split
  ·rename_i hg
   refine .cn _ _ _ (fun _ => .int .i64 aK.n) (fun j c hc => ?_) fun j c hc => ?_
   ·match j with
    | 0 => exact E.gl.n g hg
    | j + 1 => simp at hc
   ·match j with
    | 0 => simp at hc; subst hc; exact .gn _
    | j + 1 => simp at hc
  ·split
   ·rename_i cs pC
    refine .cn _ _ _ (fun j => (cs[j]?).getD undef) (fun j c hc => ?_) fun j c hc => ?_
    ·simp only [List.getElem?_map,Option.map_eq_some_iff] at hc
     obtain ⟨x, hx, rfl⟩ := hc
     have h1 : (Addr.mk g 0 none).add j = ⟨g, j, none⟩ := by unfold Addr.add; by_cases hj : j = 0 <;> simp [hj]
     rw [h1, hx]
     exact E.gl.t g cs j x pC hx
    ·simp only [List.getElem?_map,Option.map_eq_some_iff] at hc
     obtain ⟨x, hx, rfl⟩ := hc
     rw [hx]; exact .sc _ _
   ·exact .undef _ _
 | func f => exact .sc _ _

structure dO (E : Env) (w : World) (E' : Env) (w' : World) : Prop where
 le : E.le E'
 aM : ∀ k v g e c, E'.aM k v = some (g, e, c) → (∃ k0 v0 e0 c0, E.aM k0 v0 = some (g, e0, c0)) ∨ w.heap.size ≤ g
 F : ∀ ad x, E'.F ad = some x → E.F ad = some x ∨ w.heap.size ≤ ad.block ∨ ∃ k0 v0 e0 c0, E.aM k0 v0 = some (ad.block, e0, c0)
 os : w'.os = w.os
 tape : w'.tape = w.tape
 output : w'.output = w.output
 size : w.heap.size ≤ w'.heap.size
 heap : ∀ b, b < w.heap.size → (∀ k v e c, E.aM k v ≠ some (b, e, c)) → w'.heap[b]? = w.heap[b]?

theorem dO.refl (E : Env) (w : World) : dO E w E w :=
 ⟨E.le_refl, fun k v g e c h => .inl ⟨k, v, e, c, h⟩, fun _ _ h => .inl h, rfl, rfl, rfl, Nat.le_refl _, fun _ _ _ => rfl⟩
theorem dO.trans {E E1 E2 : Env} {w w1 w2 : World} (h : dO E w E1 w1) (k : dO E1 w1 E2 w2) : dO E w E2 w2 := by
 refine ⟨Env.le_trans h.le k.le, ?_, ?_, k.os.trans h.os, k.tape.trans h.tape, k.output.trans h.output, Nat.le_trans h.size k.size, ?_⟩
 ·intro q v g e c hq
  rcases k.aM q v g e c hq with ⟨k0, v0, e0, c0, h0⟩ | h0
  ·exact h.aM _ _ _ _ _ h0
  ·exact .inr (Nat.le_trans h.size h0)
 ·intro ad x hx
  rcases k.F ad x hx with h0 | h0 | ⟨k0, v0, e0, c0, h0⟩
  ·exact h.F _ _ h0
  ·exact .inr (.inl (Nat.le_trans h.size h0))
  ·rcases h.aM _ _ _ _ _ h0 with h1 | h1
   ·exact .inr (.inr h1)
   ·exact .inr (.inl h1)
 ·intro b hb bL
  rw [k.heap b (Nat.lt_of_lt_of_le hb h.size) ?_, h.heap b hb bL]
  intro q v e c hq
  rcases h.aM _ _ _ _ _ hq with ⟨k0, v0, e0, c0, h0⟩ | h0
  ·exact bL _ _ _ _ h0
  ·omega
theorem dO.drew (E : Env) (w : World) : dO E w E w.drew :=
 ⟨E.le_refl, fun k v g e c h => .inl ⟨k, v, e, c, h⟩, fun _ _ h => .inl h, rfl, rfl, rfl, Nat.le_refl _, fun _ _ _ => rfl⟩
theorem bc.drew {E : Env} {w : World} {a : Act} {st : St} (h : bc E w a st) : bc E w.drew a st :=
 ⟨h.F, h.lt, fun k B hB => by have := h.mem k B hB; cases B <;> exact this, h.top, h.bW, h.apart, h.fr⟩

theorem bc.put {E : Env} {w : World} {a : Act} {st : St} (h : bc E w a st) (dst : Option Tmp) {v : V} {x : Value} (hr : a8 E v x) : bc E w (a.put dst x) (st.put dst v) := by
 cases dst with
 | none => exact h
 | some d => exact ⟨h.F, h.lt, h.mem, h.top, h.bW, h.apart, by simpa [St.put, Act.put] using h.fr.set d hr⟩
end Go.Eng
end

section
namespace Go.Eng
variable [aK]

def eK (tt : Table) (T : TypeId) (cs : List V) : Option V :=
 match tt T with
 | some i => if i.agg then (if i.size ≤ cs.length then some (.agg (cs.take i.size)) else none) else cs.head?
 | none => none

def rowOf (mem : List aC) (b v i : Nat) : Option V :=
 match mem[b]? with
 | some (.rows v' _ rs) => if v' = v then rs[i]? else none
 | some (.pB v' _ rs) => if v' = v then rs[i]? else none
 | _ => none

def lj (tt : Table) (mem : List aC) (T : TypeId) : V → Option V
 | .ptr b o => match mem[b]? with | some (.box cs) => eK tt T (cs.drop o) | _ => none
 | .dw b v i o => match rowOf mem b v i with | some row => eK tt T (row.cells.drop o) | none => none
 | .cn cs => eK tt T cs
 | _ => none

def JP (tt : Table) (S : TypeId) (f : Nat) : Option Nat := match tt S with | some i => (match i.aO[f]? with | some p => some p.1 | none => none) | none => none
def dT (tt : Table) (T : TypeId) : Option TypeId := match tt T with | some i => i.elem | none => none
def jG (tt : Table) (T : TypeId) : Option Nat := match tt T with | some i => some i.size | none => none

def fieldAt (off : Nat) : V → Option V
 | .ptr b o => some (.ptr b (o + off))
 | .dw b v i o => some (.dw b v i (o + off))
 | .cn cs => some (.cn (cs.drop off))
 | _ => none
def vK (tt : Table) (S : TypeId) (f : Nat) (x : V) : Option V := match JP tt S f with | some off => fieldAt off x | none => none

def dU (mem : List aC) (b v : Nat) : Option Nat :=
 match mem[b]? with
 | some (.rows v' e _) => if v' = v then some e else none
 | some (.pB v' e _) => if v' = v then some e else none
 | _ => none

def indexAt (mem : List aC) (size : Nat) (n : Int) : V → Option V
 | .slice rows => if 0 ≤ n then (match rows[n.toNat]? with | some row => if row.cells.length = size then some (.cn row.cells) else none | none => none) else none
 | .ms b v s l => if 0 ≤ n ∧ n < l ∧ dU mem b v = some size then some (.dw b v (s + n.toNat) 0) else none
 | _ => none
def jf (tt : Table) (mem : List aC) (T : TypeId) (x i : V) : Option V :=
 match i with
 | .sc (.int _ n) => match dT tt T with
  | some e => match jG tt e with
   | some size => indexAt mem size n x
   | none => none
  | none => none
 | _ => none

theorem add_add (a : Addr) (m n : Nat) : (a.add m).add n = a.add (m + n) := by
 unfold Addr.add
 by_cases hm : m = 0 <;> by_cases hn : n = 0 <;> simp [hm, hn, Nat.add_assoc]
theorem add_lit (b o n : Nat) : (Addr.mk b o none).add n = ⟨b, o + n, none⟩ := by
 unfold Addr.add; by_cases hn : n = 0 <;> simp [hn]

theorem ao {P : Program} {t : TypeId} {d : TypeDesc} (h : P.underlying t = some d) (w : World) : (underlying t).run P w = .ok d w := by
 simp [underlying, h]
theorem cy {P : Program} {t : TypeId} {i : TypeInfo} (h : P.info? t = some i) (w : World) : (typeInfo t).run P w = .ok i w := by
 simp [typeInfo, h]
theorem dE {P : Program} {t : TypeId} {i : TypeInfo} (h : P.info? t = some i) (w : World) : (sizeOf t).run P w = .ok i.size w := by
 simp [sizeOf, cy h]
theorem TT.isAgg {P : Program} {tt : Table} (h : TT P tt) {t : TypeId} {i : Ti} (ht : tt t = some i) (w : World) : (isAgg t).run P w = .ok i.agg w := by
 obtain ⟨d, hd, ha, -⟩ := h.desc t i ht
 simp only [Go.isAgg,Sem.run_bind,ao hd,Result.andThen_ok]
 cases hi : i.agg with
 | true =>
  rcases ha.1 hi with ⟨fs, rfl⟩ | ⟨n, e, rfl⟩ <;> rfl
 | false =>
  have : ¬ ((∃ fs, d = .struct fs) ∨ ∃ n e, d = .array n e) := fun hh => by rw [ha.2 hh] at hi; cases hi
  cases d <;> first | rfl | (exfalso; apply this; first | exact .inl ⟨_, rfl⟩ | exact .inr ⟨_, _, rfl⟩)
theorem TT.sizeOf {P : Program} {tt : Table} (h : TT P tt) {t : TypeId} {i : Ti} (ht : tt t = some i) (w : World) : (Go.sizeOf t).run P w = .ok i.size w := by
 obtain ⟨info, h1, h2, -⟩ := h.size t i ht
 rw [dE h1, h2]

def jH (E : Env) (w : World) (ad : Addr) (cs : List V) : Prop := ∀ (j : Nat) (c : V), cs[j]? = some c → ∃ x, w.cell? (ad.add j) = some x ∧ a8 E c x
theorem jH.drop {E : Env} {w : World} {ad : Addr} {cs : List V} (h : jH E w ad cs) (n : Nat) : jH E w (ad.add n) (cs.drop n) := fun j c hc => by
 rw [add_add]; exact h _ _ (by simpa using hc)

theorem qV {P : Program} {tt : Table} (ht : TT P tt) {E : Env} {w : World} {ad : Addr} {cs : List V} {T : TypeId} {v : V} (h : jH E w ad cs) (hp : eK tt T cs = some v) :
  ∃ x, (loadVar T ad).run P w = .ok x w ∧ a8 E v x := by
 unfold eK at hp
 cases hi : tt T with
 | none => rw [hi] at hp; simp at hp
 | some i =>
  rw [hi] at hp; simp only at hp
  cases ha : i.agg with
  | false =>
   simp only [ha,Bool.false_eq_true,if_false] at hp
   obtain ⟨x, hx, hr⟩ := h 0 v (by simpa [List.head?_eq_getElem?] using hp)
   have h0 : ad.add 0 = ad := by simp [Addr.add]
   rw [h0] at hx
   refine ⟨x, ?_, hr⟩
   simp [loadVar, ht.isAgg hi, ha, hx]
  | true =>
   simp only [ha,if_true] at hp
   split at hp
   ·rename_i hle
    simp only [Option.some.injEq] at hp; subst hp
    have hx : ∀ j, j < i.size → ∃ x, w.cell? (ad.add j) = some x ∧ ∀ c, cs[j]? = some c → a8 E c x := fun j hj => by
     have rk : j < cs.length := by omega
     obtain ⟨x, hx, hr⟩ := h j _ (List.getElem?_eq_getElem rk)
     exact ⟨x, hx, fun c hc => by rw [List.getElem?_eq_getElem rk] at hc; cases hc; exact hr⟩
    let f : Nat → Value := fun j => (w.cell? (ad.add j)).getD default
    have hf : ∀ j, j < i.size → w.cell? (ad.add j) = some (f j) := fun j hj => by
     obtain ⟨x, hx, -⟩ := hx j hj
     simp [f, hx]
    refine ⟨.agg ((List.range i.size).map f).toArray, ?_, ?_⟩
    ·simp only [loadVar,Sem.run_bind,ht.isAgg hi,Result.andThen_ok,ha,if_true,ht.sizeOf hi]
     rw [run_loadCells w ad i.size f hf]
     simp
    ·refine .agg _ _ _ (by simp; omega) fun j c x hc YB => ?_
     have hj : j < i.size := by
      by_cases hj : j < i.size
      ·exact hj
      ·rw [List.getElem?_take] at hc; simp [hj] at hc
     rw [List.getElem?_take_of_lt hj] at hc
     obtain ⟨y, hy, hr⟩ := hx j hj
     simp [hj] at YB
     rw [← YB]
     have : f j = y := by simp [f, hy]
     rw [this]; exact hr c hc
   ·simp at hp

theorem Au {E : Env} {w : World} (hF : ∀ ad x, E.F ad = some x → w.cell? ad = some x) {cs : List V} {x : Value} (h : a8 E (.cn cs) x) : ∃ ad, x = .pointer (some ad) ∧ jH E w ad cs := by
 cases h with
 | cn _ _ ad xf hf hr => exact ⟨ad, rfl, fun j c hc => ⟨xf j, hF _ _ (hf j c hc), (hr j c hc).mono E.mD⟩⟩

theorem gM {w : World} {g : Nat} {xs : Array Value} {T : TypeId} {fz : Nat × Nat} (h : w.heap[g]? = some (.cells xs T fz)) (o : Nat) : w.cell? ⟨g, o, none⟩ = xs[o]? := by
 simp [World.cell?, h]

theorem DZ {E : Env} {w : World} {a : Act} {st : St} (hs : bc E w a st) {b o : Nat} {cs : List V} (hm : st.mem[b]? = some (.box cs)) {x : Value} (h : a8 E (.ptr b o) x) :
  ∃ ad, x = .pointer (some ad) ∧ jH E w ad (cs.drop o) := by
 cases h with
 | ptr _ _ _ g e c hb =>
  obtain ⟨g', T, xs, dt, hh, hr, -⟩ := hs.mem b _ hm
  rw [hb] at dt; cases dt
  refine ⟨_, rfl, fun j c hc => ?_⟩
  rw [add_lit, gM hh]
  obtain ⟨y, hy, vL⟩ := hr.get (i := o + j) (by simpa using hc)
  exact ⟨y, by simpa using hy, vL⟩

theorem Av {E : Env} {w : World} {a : Act} {st : St} (hs : bc E w a st) {b v i o : Nat} {row : V} (hm : rowOf st.mem b v i = some row) {x : Value} (h : a8 E (.dw b v i o) x) :
  ∃ ad, x = .pointer (some ad) ∧ jH E w ad (row.cells.drop o) := by
 cases h with
 | dw _ _ _ _ _ g e c hb =>
  refine ⟨_, rfl, fun j cc hc => ?_⟩
  rw [add_lit]
  have LX : row.cells[o + j]? = some cc := by simpa using hc
  unfold rowOf at hm
  split at hm
  ·rename_i v' e' rs hk
   split at hm
   ·rename_i hv
    subst hv
    rcases hs.mem b _ hk with ⟨rfl, -⟩ | ⟨g', T, xs, c', dt, hh, -, -, hr, -⟩
    ·simp at hm
    rw [hb] at dt; cases dt
    obtain ⟨-, h2⟩ := hr i row hm
    obtain ⟨y, hy, -, vL⟩ := h2 _ _ LX
    exact ⟨y, by rw [gM hh, Nat.add_assoc]; exact hy, vL.mono E.mD⟩
   ·cases hm
  ·rename_i v' e' rs hk
   split at hm
   ·rename_i hv
    subst hv
    rcases hs.mem b _ hk with ⟨rfl, -⟩ | ⟨g', c', dt, -, hr⟩
    ·simp at hm
    rw [hb] at dt; cases dt
    obtain ⟨-, h2⟩ := hr i row hm
    obtain ⟨y, hy, -, vL⟩ := h2 _ _ LX
    exact ⟨y, hs.F _ _ (by rw [Nat.add_assoc]; exact hy), vL.mono E.mD⟩
   ·cases hm
  ·simp at hm

theorem qo {P : Program} {tt : Table} (ht : TT P tt) {E : Env} {w : World} {a : Act} {st : St} (hs : bc E w a st) {T : TypeId} {p v : V} {x : Value} (hr : a8 E p x) (h : lj tt st.mem T p = some v) :
  ∃ y, (Instr.loadAt T x).run P w = .ok y w ∧ a8 E v y := by
 have key : ∃ ad cs, x = .pointer (some ad) ∧ jH E w ad cs ∧ eK tt T cs = some v := by
  unfold lj at h
  split at h
  ·split at h
   ·rename_i hm
    obtain ⟨ad, h1, h2⟩ := DZ hs hm hr
    exact ⟨ad, _, h1, h2, h⟩
   ·simp at h
  ·split at h
   ·rename_i hm
    obtain ⟨ad, h1, h2⟩ := Av hs hm hr
    exact ⟨ad, _, h1, h2, h⟩
   ·simp at h
  ·obtain ⟨ad, h1, h2⟩ := Au hs.F hr
   exact ⟨ad, _, h1, h2, h⟩
  ·simp at h
 obtain ⟨ad, cs, rfl, hc, hp⟩ := key
 obtain ⟨y, hy, vL⟩ := qV ht hc hp
 exact ⟨y, by simp [Instr.loadAt, Instr.sureAddr, hy], vL⟩

theorem vM {P : Program} {tt : Table} (ht : TT P tt) {E : Env} {S : TypeId} {f : Nat} {p v : V} {x : Value} (hr : a8 E p x) (h : vK tt S f p = some v) (w : World) :
  ∃ y, (Instr.fieldAt S x f).run P w = .ok y w ∧ a8 E v y := by
 unfold vK JP at h
 cases hi : tt S with
 | none => rw [hi] at h; simp at h
 | some i =>
  rw [hi] at h; simp only at h
  cases ho : i.aO[f]? with
  | none => rw [ho] at h; simp at h
  | some off =>
   rw [ho] at h; simp only at h
   obtain ⟨d, hd, -, -, Vo⟩ := ht.desc S i hi
   obtain ⟨fs, fd, inf, rfl, -, hf, Qo, jg, kF, Aw⟩ := Vo f off.1 off.2 ho
   have jW : inf.size ≠ 0 := by omega
   obtain ⟨off, sz⟩ := off
   dsimp only at Qo
   subst Qo
   have run : ∀ ad, (Instr.fieldAt S (.pointer (some ad)) f).run P w = .ok (.pointer (some (ad.add fd.offset))) w := fun ad => by
    simp [Instr.fieldAt, ao hd, hf, Instr.sureAddr, fieldPlace, dE jg, jW]
   unfold Eng.fieldAt at h
   split at h
   ·simp only [Option.some.injEq] at h; subst h
    cases hr with
    | ptr _ _ _ g e c hb => exact ⟨_, run _, by rw [add_lit]; exact .ptr _ _ _ g e c hb⟩
   ·simp only [Option.some.injEq] at h; subst h
    cases hr with
    | dw _ _ _ _ _ g e c hb => exact ⟨_, run _, by rw [add_lit, Nat.add_assoc]; exact .dw _ _ _ _ _ g e c hb⟩
   ·simp only [Option.some.injEq] at h; subst h
    cases hr with
    | cn _ _ ad xf hf hr => exact ⟨_, run _, .cn _ _ _ (fun j => xf (fd.offset + j)) (fun j c hc => by rw [add_add]; exact hf _ _ (by simpa using hc)) fun j c hc => hr _ _ (by simpa using hc)⟩
   ·simp at h

theorem xF {E : Env} {w : World} {a : Act} {st : St} (hs : bc E w a st) {b v size g e c : Nat} (h : dU st.mem b v = some size) (hb : E.aM b v = some (g, e, c)) : e = size := by
 unfold dU at h
 split at h
 ·rename_i hk
  split at h
  ·rename_i hv
   subst hv
   rcases hs.mem b _ hk with ⟨-, hn⟩ | ⟨g', T', xs, c', dt, -⟩
   ·rw [hb] at hn; cases hn
   rw [hb] at dt; cases dt; simpa using h
  ·cases h
 ·rename_i hk
  split at h
  ·rename_i hv
   subst hv
   rcases hs.mem b _ hk with ⟨-, hn⟩ | ⟨g', c', dt, -⟩
   ·rw [hb] at hn; cases hn
   rw [hb] at dt; cases dt; simpa using h
  ·cases h
 ·simp at h

theorem vO {P : Program} {tt : Table} (ht : TT P tt) {E : Env} {w : World} {a : Act} {st : St} (hs : bc E w a st) {T : TypeId} {p i v : V} {x y : Value} (hp : a8 E p x) (hi : a8 E i y) (h : jf tt st.mem T p i = some v) :
  ∃ z, (Instr.indexAt T x y).run P w = .ok z w ∧ a8 E v z := by
 unfold jf at h
 split at h
 ·rename_i k n
  cases hi with
  | sc =>
  unfold dT jG at h
  cases hT : tt T with
  | none => rw [hT] at h; simp at h
  | some iT =>
   rw [hT] at h; simp only at h
   cases he : iT.elem with
   | none => rw [he] at h; simp at h
   | some e =>
    rw [he] at h; simp only at h
    cases hE : tt e with
    | none => rw [hE] at h; simp at h
    | some ie =>
     rw [hE] at h; simp only at h
     obtain ⟨d, hd, -, qp, -⟩ := ht.desc T iT hT
     obtain rfl := qp e he
     have run : ∀ (ad : Addr) (len cap : Nat), 0 ≤ n → n < len → (Instr.indexAt T (.slice (some ad) len cap) (.int k n)).run P w = .ok (.pointer (some (ad.add (n.toNat * ie.size)))) w := fun ad len cap h0 h1 => by
      simp [Instr.indexAt, asIntOf, ao hd, ht.sizeOf hE, h0, h1]
     unfold Eng.indexAt at h
     split at h
     ·rename_i rows
      split at h
      ·rename_i h0
       split at h
       ·rename_i row pF
        split at h
        ·rename_i hlen
         simp only [Option.some.injEq] at h; subst h
         cases hp with
         | slice _ _ aa cap nB ad xf ha iS hz hF h1 hR =>
          have aL : n.toNat < rows.length := (List.getElem?_eq_some_iff.1 pF).1
          have bL : rows ≠ [] := by rintro rfl; simp at aL
          obtain rfl := ha bL
          have Vp : nB = ie.size := by rw [← hz _ _ pF, hlen]
          subst Vp
          exact ⟨_, run ad _ cap h0 (by omega), .cn _ _ _ (fun j => xf n.toNat j) (fun j c hc => by rw [add_add]; exact hF _ _ _ _ pF hc) fun j c hc => hR _ _ _ _ pF hc⟩
        ·simp at h
       ·simp at h
      ·simp at h
     ·rename_i b v s l
      split at h
      ·rename_i h0
       obtain ⟨h0, h1, h2⟩ := h0
       simp only [Option.some.injEq] at h; subst h
       cases hp with
       | dg => simp at h1; omega
       | ms _ _ _ _ _ g e' c aa cap hb hl Jt hc =>
        obtain rfl := hl (by omega)
        have ZO : e' = ie.size := xF hs h2 hb
        subst ZO
        refine ⟨_, run _ _ cap h0 h1, ?_⟩
        have := a8.dw E b v (s + n.toNat) 0 g ie.size c hb
        rw [add_lit, ← Nat.add_mul]
        simpa using this
      ·simp at h
     ·simp at h
 ·simp at h
end Go.Eng
end

section
namespace Go.Eng
variable [aK]

def oj : List V → Option (List Value)
 | [] => some []
 | .sc v :: r => match oj r with | some l => some (v :: l) | none => none
 | _ :: _ => none

def cb : V → Option Value
 | .sc v => some v
 | .agg cs => match oj cs with | some l => some (.agg l.toArray) | none => none
 | _ => none

theorem uD {E : Env} : ∀ {vs : List V} {xs : List Value} {l : List Value}, aV E vs xs → oj vs = some l → xs = l
 | [], xs, l, h, hl => by simp [oj] at hl; subst hl; exact h.of_nil
 | v :: vs, xs, l, h, hl => by
  obtain ⟨x, ys, rfl, h1, h2⟩ := h.of_cons
  cases v with
  | sc v =>
   simp only [oj] at hl
   split at hl
   ·rename_i l' Nd
    simp only [Option.some.injEq] at hl; subst hl
    cases h1
    rw [uD h2 Nd]
   ·simp at hl
  | _ => simp [oj] at hl

theorem e7 {E : Env} {v : V} {x y : Value} (h : a8 E v x) (hv : cb v = some y) : x = y := by
 cases v with
 | sc v => cases h; simpa [cb] using hv
 | agg cs =>
  simp only [cb] at hv
  split at hv
  ·rename_i l hl
   simp only [Option.some.injEq] at hv; subst hv
   cases h with
   | agg _ _ xs hlen hr =>
    have := uD (E := E) (xs := xs.toList) ⟨by simpa using hlen, fun i c x hc hx => hr i c x hc (by simpa using hx)⟩ hl
    rw [← this]
  ·simp at hv
 | _ => simp [cb] at hv

def nd (P : Program) (f : Value → Sem Value) (x : V) : Option V :=
 match cb x with
 | some a => match aU P (f a) with | some v => some (fg v) | none => none
 | none => none
def bE (P : Program) (f : Value → Value → Sem Value) (x y : V) : Option V :=
 match cb x with
 | some a => match cb y with
  | some b => match aU P (f a b) with | some v => some (fg v) | none => none
  | none => none
 | none => none

theorem lJ {P : Program} {f : Value → Sem Value} {E : Env} {w : World} {x v : V} {a : Value} (hx : a8 E x a) (h : nd P f x = some v) : ∃ y, (f a).run P w = .ok y w ∧ a8 E v y := by
 unfold nd at h
 split at h
 ·rename_i a' ha
  cases e7 hx ha
  split at h
  ·rename_i y hy
   simp only [Option.some.injEq] at h; subst h
   exact ⟨y, cX _ hy w, fR E y⟩
  ·simp at h
 ·simp at h
theorem gX {P : Program} {f : Value → Value → Sem Value} {E : Env} {w : World} {x y v : V} {a b : Value} (hx : a8 E x a) (hy : a8 E y b) (h : bE P f x y = some v) :
  ∃ z, (f a b).run P w = .ok z w ∧ a8 E v z := by
 unfold bE at h
 split at h
 ·rename_i a' ha
  cases e7 hx ha
  split at h
  ·rename_i b' hb
   cases e7 hy hb
   split at h
   ·rename_i z hz
    simp only [Option.some.injEq] at h; subst h
    exact ⟨z, cX _ hz w, fR E z⟩
   ·simp at h
  ·simp at h
 ·simp at h

def Nf : V → Option V
 | .ptr b o => some (.ptr b o)
 | .dw b v i o => some (.dw b v i o)
 | .cn cs => some (.cn cs)
 | .iw (.func f) a b => some (.iw (.func f) a b)
 | .sc (.func (.func f) a b) => some (.sc (.func (.func f) a b))
 | _ => none

def cd (rows : List V) (l size : Nat) : Bool := match rows[l]? with | some row => row.cells.length == size | none => true

def cutAt (mem : List aC) (size : Nat) (l : Int) (h : Option Int) : V → Option V
 | .slice rows =>
  if 0 ≤ l ∧ l ≤ h.getD rows.length ∧ h.getD rows.length ≤ rows.length ∧ cd rows l.toNat size = true then some (.slice ((rows.drop l.toNat).take (h.getD rows.length - l).toNat)) else none
 | .ms b v s n =>
  if 0 ≤ l ∧ l ≤ h.getD n ∧ h.getD n ≤ n ∧ dU mem b v = some size then some (.ms b v (s + l.toNat) (h.getD n - l).toNat) else none
 | _ => none

def xG : V → Option Int
 | .sc (.int _ n) => some n
 | _ => none

def vP (P : Program) (tt : Table) (mem : List aC) (T : TypeId) (x : V) (lo hi : Option V) : Option V :=
 match x with
 | .sc a => match lo with
  | none => match hi with
   | none => nd P (fun a => Instr.sliceAt T a none none none) (.sc a)
   | some h => bE P (fun a h => Instr.sliceAt T a none (some h) none) (.sc a) h
  | some l => match hi with
   | none => bE P (fun a l => Instr.sliceAt T a (some l) none none) (.sc a) l
   | some h => match cb h with
    | some h => bE P (fun a l => Instr.sliceAt T a (some l) (some h) none) (.sc a) l
    | none => none
 | x => match dT tt T with
  | none => none
  | some e => match jG tt e with
   | none => none
   | some size => match lo with
    | none => match hi with
     | none => cutAt mem size 0 none x
     | some h => match xG h with | some h => cutAt mem size 0 (some h) x | none => none
    | some l => match xG l with
     | none => none
     | some l => match hi with
      | none => cutAt mem size l none x
      | some h => match xG h with | some h => cutAt mem size l (some h) x | none => none

theorem lK {E : Env} {v : V} {x : Value} {n : Int} (h : a8 E v x) (hv : xG v = some n) : ∃ k, x = .int k n := by
 unfold xG at hv
 split at hv
 ·cases h; simp at hv; subst hv; exact ⟨_, rfl⟩
 ·simp at hv

theorem jI {E : Env} {w : World} {a : Act} {st : St} (hs : bc E w a st) {size : Nat} {l : Int} {h : Option Int} {x v : V} {y : Value} (hx : a8 E x y) (hc : cutAt st.mem size l h x = some v) :
  ∃ aa len cap, y = .slice aa len cap ∧ 0 ≤ l ∧ l ≤ h.getD len ∧ h.getD len ≤ len ∧ len ≤ cap ∧
   a8 E v (.slice (if cap = l.toNat then aa else aa.map (·.add (l.toNat * size))) (h.getD len - l).toNat (cap - l.toNat)) := by
 unfold cutAt at hc
 split at hc
 ·rename_i rows
  split at hc
  ·rename_i hh
   obtain ⟨h0, h1, h2, h3⟩ := hh
   simp only [Option.some.injEq] at hc; subst hc
   cases hx with
   | slice _ _ aa cap nB ad xf ha iS hz hF jX hR =>
    refine ⟨aa, rows.length, cap, rfl, h0, h1, h2, iS, ?_⟩
    have hlen : ((rows.drop l.toNat).take (h.getD rows.length - l).toNat).length = (h.getD rows.length - l).toNat := by simp; omega
    have hg : ∀ (i : Nat) (row : V), ((rows.drop l.toNat).take (h.getD rows.length - l).toNat)[i]? = some row → rows[l.toNat + i]? = some row := fun i row hi => by
     rw [List.getElem?_take] at hi
     split at hi
     ·simpa using hi
     ·simp at hi
    suffices xH : a8 E (.slice ((rows.drop l.toNat).take (h.getD rows.length - l).toNat)) (.slice (if cap = l.toNat then aa else aa.map (·.add (l.toNat * size))) ((rows.drop l.toNat).take (h.getD rows.length - l).toNat).length (cap - l.toNat)) by
     rw [hlen] at xH; exact xH
    refine .slice _ _ _ (cap - l.toNat) nB (ad.add (l.toNat * nB)) (fun i j => xf (l.toNat + i) j) (fun bL => ?_) (by rw [hlen]; omega) (fun i row hi => hz _ _ (hg i row hi))
     (fun i row j c hi hj => by rw [add_add, ← Nat.add_assoc, ← Nat.add_mul]; exact hF _ _ _ _ (hg i row hi) hj) (fun i row j c hi hj => jX _ _ _ _ (hg i row hi) hj) fun i row j c hi hj => hR _ _ _ _ (hg i row hi) hj
    have aL : l.toNat < rows.length := by
     rcases Nat.lt_or_ge l.toNat rows.length with aL | cP
     ·exact aL
     ·exact absurd (by rw [List.drop_eq_nil_of_le cP]; simp) bL
    have Ax : rows ≠ [] := by rintro rfl; simp at aL
    rw [if_neg (by omega), ha Ax]
    unfold cd at h3
    rw [List.getElem?_eq_getElem aL] at h3
    simp only [beq_iff_eq] at h3
    rw [← h3, hz _ _ (List.getElem?_eq_getElem aL)]
    rfl
  ·simp at hc
 ·rename_i b v s n
  split at hc
  ·rename_i hh
   obtain ⟨h0, h1, h2, h3⟩ := hh
   simp only [Option.some.injEq] at hc; subst hc
   cases hx with
   | dg =>
    refine ⟨none, 0, 0, rfl, h0, h1, h2, Nat.le_refl _, ?_⟩
    have e1 : l.toNat = 0 := by have : ((0 : Nat) : Int) = 0 := rfl; omega
    have e2 : (h.getD (0 : Nat) - l).toNat = 0 := by have : ((0 : Nat) : Int) = 0 := rfl; omega
    rw [e1, e2]
    exact .dg _ _ _ _
   | ms _ _ _ _ _ g e c aa cap hb hl Jt CE =>
    obtain rfl := xF hs h3 hb
    refine ⟨aa, n, cap, rfl, h0, h1, h2, CE.1, ?_⟩
    refine .ms _ _ _ _ _ g e c _ _ hb (fun hp => ?_) (fun hz => ?_) ⟨by omega, by omega, fun hp => by
     rw [if_neg (by omega), CE.2.2 (by omega)]
     simp only [Option.map_some,add_lit,← Nat.add_mul]⟩
    ·rw [if_neg (by omega), hl (by omega)]
     simp only [Option.map_some,add_lit,← Nat.add_mul]
    ·obtain ⟨h5, h6⟩ := Jt (by omega)
     have : l.toNat = 0 := by omega
     rw [this, h5]
     refine ⟨?_, by omega⟩
     split
     ·rfl
     ·simp [Addr.add]
  ·simp at hc
 ·simp at hc

theorem jJ {P : Program} {tt : Table} (ht : TT P tt) {T e : TypeId} {size : Nat} (he : dT tt T = some e) (hz : jG tt e = some size) (w : World) (aa : Option Addr) (len cap : Nat) (lo hi : Option Value)
  (l : Int) (h : Option Int) (kJ : (lo = none ∧ l = 0) ∨ ∃ k, lo = some (.int k l)) (om : (hi = none ∧ h = none) ∨ ∃ k n, hi = some (.int k n) ∧ h = some n)
  (h0 : 0 ≤ l) (h1 : l ≤ h.getD len) (h2 : h.getD len ≤ len) (h3 : len ≤ cap) :
  (Instr.sliceAt T (.slice aa len cap) lo hi none).run P w = .ok (.slice (if cap = l.toNat then aa else aa.map (·.add (l.toNat * size))) (h.getD len - l).toNat (cap - l.toNat)) w := by
 unfold dT at he
 unfold jG at hz
 cases hT : tt T with
 | none => rw [hT] at he; simp at he
 | some iT =>
  rw [hT] at he; simp only at he
  cases hE : tt e with
  | none => rw [hE] at hz; simp at hz
  | some ie =>
   rw [hE] at hz; simp only [Option.some.injEq] at hz; subst hz
   obtain ⟨d, hd, -, qp, -⟩ := ht.desc T iT hT
   obtain rfl := qp e he
   have Q6 : ∀ m : Int, (m - l).toNat = m.toNat - l.toNat := fun m => by omega
   rcases kJ with ⟨rfl, rfl⟩ | ⟨k, rfl⟩ <;> rcases om with ⟨rfl, rfl⟩ | ⟨k', n, rfl, rfl⟩ <;>
    simp only [Option.getD_some,Option.getD_none] at h1 h2 ⊢ <;>
    simp only [Instr.sliceAt,Instr.slice,Sem.run_bind,ao hd,Result.andThen_ok,Instr.sliceBounds,Instr.sliceBound,asIntOf,Sem.run_pure,ht.sizeOf hE,Option.isSome_none]
   ·simp
   ·rw [if_pos ⟨by omega, by omega⟩]; simp
   ·rw [if_pos ⟨by omega, by omega⟩]; simp; omega
   ·rw [if_pos ⟨by omega, by omega⟩]
    simp only [Sem.run_pure,Result.andThen_ok]
    rw [if_pos ⟨by omega, by omega⟩]
    simp; omega
end Go.Eng
end

section
namespace Go.Eng
variable [aK]

def eB (kind : TypeDesc) (k : Value) : List (Value × Nat × V) → Nat → Option (Option (Nat × V))
 | [], _ => some none
 | e :: r, i => match Instr.sameNow kind k e.1 with
  | some true => some (some (i, e.2.2))
  | some false => eB kind k r (i + 1)
  | none => none
def jh (P : Program) (T : TypeId) (k : Value) : List (Value × Nat × V) → Nat → Option (Option (Nat × V))
 | [], _ => some none
 | e :: r, i => match aU P (Op.equal T k e.1) with
  | some true => some (some (i, e.2.2))
  | some false => jh P T k r (i + 1)
  | none => none
def ll (P : Program) (T : TypeId) (k : Value) (bK : List (Value × Nat × V)) : Option (Option (Nat × V)) :=
 match P.underlying T with
 | some d => match eB d k bK 0 with
  | some r => some r
  | none => jh P T k bK 0
 | none => none

def Found (E : Env) (bK : List (Value × Nat × V)) (es : List MapEntry) : Option (Nat × V) → Option (Nat × Value) → Prop
 | none, none => True
 | some (i, v), some (j, x) => i = j ∧ a8 E v x ∧ ∃ kb e, bK[i]? = some kb ∧ es[i]? = some e ∧ kb.2.2 = v ∧ e.val = x
 | _, _ => False

theorem cQ.get {E : Env} {bK : List (Value × Nat × V)} {es : List MapEntry} (h : cQ E bK es) {i : Nat} {kb : Value × Nat × V} (hk : bK[i]? = some kb) : ∃ e, es[i]? = some e ∧ e.key = kb.1 ∧ e.born = kb.2.1 ∧ a8 E kb.2.2 e.val := by
 have hi : i < es.length := by rw [← h.1]; exact (List.getElem?_eq_some_iff.1 hk).1
 exact ⟨es[i], List.getElem?_eq_getElem hi, h.2 i kb _ hk (List.getElem?_eq_getElem hi)⟩
theorem cQ.drop {E : Env} {bK : List (Value × Nat × V)} {es : List MapEntry} (h : cQ E bK es) (n : Nat) : cQ E (bK.drop n) (es.drop n) :=
 ⟨by simp [h.1], fun i k e hk he => h.2 (n + i) k e (by simpa using hk) (by simpa using he)⟩
theorem cQ.of_nil {E : Env} {es : List MapEntry} (h : cQ E [] es) : es = [] := by have := h.1; simp at this; exact List.length_eq_zero_iff.1 this.symm
theorem cQ.of_cons {E : Env} {k : Value × Nat × V} {r : List (Value × Nat × V)} {es : List MapEntry} (h : cQ E (k :: r) es) : ∃ e es', es = e :: es' ∧ e.key = k.1 ∧ e.born = k.2.1 ∧ a8 E k.2.2 e.val ∧ cQ E r es' := by
 cases es with
 | nil => have := h.1; simp at this
 | cons e es' =>
  obtain ⟨h1, h2, h3⟩ := h.2 0 k e rfl rfl
  exact ⟨e, es', rfl, h1, h2, h3, by have := h.1; simpa using this, fun i k' e' hk he => h.2 (i + 1) k' e' (by simpa using hk) (by simpa using he)⟩

theorem rJ {E : Env} {kind : TypeDesc} {k : Value} {bK : List (Value × Nat × V)} {es : List MapEntry} (h : cQ E bK es) : ∀ (n : Nat) {r : Option (Nat × V)}, eB kind k (bK.drop n) n = some r →
  ∃ r', Instr.findNow kind k (es.drop n) n = some r' ∧ Found E bK es r r' := by
 intro n
 generalize hl : bK.length - n = m
 induction m generalizing n with
 | zero =>
  intro r hr
  have h1 : bK.drop n = [] := List.drop_eq_nil_of_le (by omega)
  have h2 : es.drop n = [] := List.drop_eq_nil_of_le (by have := h.1; omega)
  rw [h1] at hr; rw [h2]
  simp only [eB,Option.some.injEq] at hr; subst hr
  exact ⟨none, rfl, trivial⟩
 | succ m ih =>
  intro r hr
  have hn : n < bK.length := by omega
  have LY : n < es.length := by have := h.1; omega
  rw [List.drop_eq_getElem_cons hn] at hr
  rw [List.drop_eq_getElem_cons LY]
  have hk := List.getElem?_eq_getElem hn
  have he := List.getElem?_eq_getElem LY
  obtain ⟨h1, h2, h3⟩ := h.2 n _ _ hk he
  simp only [eB] at hr
  simp only [Instr.findNow,h1]
  split at hr
  ·rename_i hs; rw [hs]; simp only [Option.some.injEq] at hr; subst hr
   exact ⟨_, rfl, rfl, h3, _, _, hk, he, rfl, rfl⟩
  ·rename_i hs; rw [hs]; exact ih (n + 1) (by omega) hr
  ·cases hr
theorem tX {E : Env} {kind : TypeDesc} {k : Value} {bK : List (Value × Nat × V)} {es : List MapEntry} (h : cQ E bK es) : ∀ (n : Nat), eB kind k (bK.drop n) n = none → Instr.findNow kind k (es.drop n) n = none := by
 intro n
 generalize hl : bK.length - n = m
 induction m generalizing n with
 | zero =>
  intro hr
  have h1 : bK.drop n = [] := List.drop_eq_nil_of_le (by omega)
  rw [h1] at hr
  simp [eB] at hr
 | succ m ih =>
  intro hr
  have hn : n < bK.length := by omega
  have LY : n < es.length := by have := h.1; omega
  rw [List.drop_eq_getElem_cons hn] at hr
  rw [List.drop_eq_getElem_cons LY]
  obtain ⟨h1, h2, h3⟩ := h.2 n _ _ (List.getElem?_eq_getElem hn) (List.getElem?_eq_getElem LY)
  simp only [eB] at hr
  simp only [Instr.findNow,h1]
  split at hr
  ·cases hr
  ·rename_i hs; rw [hs]; exact ih (n + 1) (by omega) hr
  ·rename_i hs; rw [hs]
theorem rK {P : Program} {E : Env} {T : TypeId} {k : Value} {bK : List (Value × Nat × V)} {es : List MapEntry} (h : cQ E bK es) (w : World) : ∀ (n : Nat) {r : Option (Nat × V)}, jh P T k (bK.drop n) n = some r →
  ∃ r', (Instr.findAsking T k (es.drop n) n).run P w = .ok r' w ∧ Found E bK es r r' := by
 intro n
 generalize hl : bK.length - n = m
 induction m generalizing n with
 | zero =>
  intro r hr
  have h1 : bK.drop n = [] := List.drop_eq_nil_of_le (by omega)
  have h2 : es.drop n = [] := List.drop_eq_nil_of_le (by have := h.1; omega)
  rw [h1] at hr; rw [h2]
  simp only [jh,Option.some.injEq] at hr; subst hr
  exact ⟨none, rfl, trivial⟩
 | succ m ih =>
  intro r hr
  have hn : n < bK.length := by omega
  have LY : n < es.length := by have := h.1; omega
  rw [List.drop_eq_getElem_cons hn] at hr
  rw [List.drop_eq_getElem_cons LY]
  have hk := List.getElem?_eq_getElem hn
  have he := List.getElem?_eq_getElem LY
  obtain ⟨h1, h2, h3⟩ := h.2 n _ _ hk he
  simp only [jh] at hr
  simp only [Instr.findAsking,h1,Sem.run_bind]
  split at hr
  ·rename_i hs; rw [cX _ hs w]; simp only [Option.some.injEq] at hr; subst hr
   exact ⟨_, rfl, rfl, h3, _, _, hk, he, rfl, rfl⟩
  ·rename_i hs; rw [cX _ hs w]
   simpa using ih (n + 1) (by omega) hr
  ·cases hr
theorem dF {P : Program} {E : Env} {T : TypeId} {k : Value} {bK : List (Value × Nat × V)} {es : Array MapEntry} (h : cQ E bK es.toList) (w : World) {r : Option (Nat × V)} (hr : ll P T k bK = some r) :
  ∃ r', (Instr.findKey T k es.toList).run P w = .ok r' w ∧ Found E bK es.toList r r' := by
 unfold ll at hr
 split at hr
 ·rename_i d hd
  simp only [Instr.findKey,Sem.run_bind,ao hd,Result.andThen_ok]
  split at hr
  ·rename_i r1 h1
   simp only [Option.some.injEq] at hr; subst hr
   obtain ⟨r', h2, h3⟩ := rJ h 0 (r := r1) (by simpa using h1)
   simp only [List.drop_zero] at h2
   rw [h2]
   exact ⟨r', rfl, h3⟩
  ·rename_i h1
   have h2 := tX h 0 (by simpa using h1)
   simp only [List.drop_zero] at h2
   rw [h2]
   simpa using rK h w 0 (r := r) (by simpa using hr)
 ·cases hr

def nf (P : Program) (T : TypeId) (k : Value) : Bool :=
 match P.underlying T with
 | some (.int _) => true
 | some .string => true
 | some .bool => true
 | _ => match aU P (Instr.checkKey false 10000 T k), aU P (Instr.checkKey true 10000 T k) with
  | some _, some _ => true
  | _, _ => false
theorem jK {P : Program} {T : TypeId} {k : Value} (h : nf P T k = true) (b : Bool) (w : World) : (Instr.checkKey b 10000 T k).run P w = .ok () w := by
 unfold nf at h
 have Ng : ∀ d, P.underlying T = some d → (∀ m, d ≠ .interface m) → (∀ n e, d ≠ .array n e) → (∀ fs, d ≠ .struct fs) → (Instr.checkKey b 10000 T k).run P w = .ok () w := by
  intro d hd h1 h2 h3
  show (Instr.checkKey b (9999 + 1) T k).run P w = _
  rw [Instr.checkKey]
  simp only [Sem.run_bind,ao hd,Result.andThen_ok]
  cases d <;> first | (cases k <;> rfl) | exact absurd rfl (h1 _) | exact absurd rfl (h2 _ _) | exact absurd rfl (h3 _)
 split at h
 ·rename_i hd; exact Ng _ hd (by simp) (by simp) (by simp)
 ·rename_i hd; exact Ng _ hd (by simp) (by simp) (by simp)
 ·rename_i hd; exact Ng _ hd (by simp) (by simp) (by simp)
 ·split at h
  ·rename_i h1 h2
   cases b
   ·exact cX _ h1 w
   ·exact cX _ h2 w
  ·cases h

def zeroV (P : Program) (T : TypeId) : Option V :=
 match P.info? T with
 | some i => match i.zero with | some z => some (fg z) | none => none
 | none => none
theorem lL {P : Program} {T : TypeId} {v : V} (h : zeroV P T = some v) (E : Env) (w : World) : ∃ z, (zeroValue T).run P w = .ok z w ∧ a8 E v z := by
 unfold zeroV at h
 split at h
 ·rename_i i hi
  split at h
  ·rename_i z hz
   cases h
   exact ⟨z, by simp [zeroValue, cy hi, hz], fR E z⟩
  ·cases h
 ·cases h
def dG (P : Program) (T : TypeId) : Option (TypeId × TypeId) := match P.underlying T with | some (.map k e) => some (k, e) | _ => none
theorem fE {P : Program} {T kt et : TypeId} (h : dG P T = some (kt, et)) : P.underlying T = some (.map kt et) := by
 unfold dG at h
 split at h
 ·rename_i hd; cases h; exact hd
 ·cases h

def rL (ok b : Bool) (v : V) : V := if ok = true then .ch [v, .sc (.bool b)] else v
theorem vQ {E : Env} {v : V} {x : Value} (h : a8 E v x) (ok b : Bool) : a8 E (rL ok b v) (if ok = true then .tuple #[x, .bool b] else x) := by
 unfold rL
 split
 ·refine .ch _ _ _ rfl fun i c y hc hy => ?_
  match i with
  | 0 => simp at hc hy; subst hc; subst hy; exact h
  | 1 => simp at hc hy; subst hc; subst hy; exact .sc _ _
  | i + 2 => simp at hc
 ·exact h
def oo (P : Program) (mem : List aC) (kt et : TypeId) (m : V) (key : Value) (ok : Bool) : Option V :=
 match m with
 | .mp b => match mem[b]? with
  | some (.map bK _) => match ll P kt key bK with
   | some (some (_, v)) => some (rL ok true v)
   | some none => match zeroV P et with | some z => some (rL ok false z) | none => none
   | none => none
  | _ => none
 | .sc (.map none) => match ll P kt key [] with
  | some none => match zeroV P et with | some z => some (rL ok false z) | none => none
  | _ => none
 | _ => none
def e8 (P : Program) (mem : List aC) (T : TypeId) (m i : V) (ok : Bool) : Option V :=
 match dG P T with
 | some (kt, et) => match cb i with
  | some key => if nf P kt key = true then oo P mem kt et m key ok else none
  | none => none
 | none => none

theorem nC {E : Env} {b : Nat} {x : Value} (h : a8 E (.mp b) x) : ∃ g e c, x = .map (some g) ∧ E.aM b 0 = some (g, e, c) := by
 cases h with | mp _ _ l e c hb => exact ⟨l, e, c, rfl, hb⟩
theorem gN {E : Env} {w : World} {a : Act} {st : St} (hs : bc E w a st) {b : Nat} {bK : List (Value × Nat × V)} {clock : Nat} (hm : st.mem[b]? = some (.map bK clock)) {g e c : Nat} (hb : E.aM b 0 = some (g, e, c)) :
  ∃ es, w.heap[g]? = some (.map es clock) ∧ cQ E bK es.toList ∧ (∀ o, E.F ⟨g, o, none⟩ = none) ∧ (e, c) = (0, 0) := by
 obtain ⟨g', es, h1, h2, h3, h4⟩ := hs.mem b _ hm
 rw [hb] at h1; cases h1
 exact ⟨es, h2, h3, h4, rfl⟩
theorem ct {P : Program} {w : World} {g : Nat} {es : Array MapEntry} {clock : Nat} (h : w.heap[g]? = some (.map es clock)) : (getObj g).run P w = .ok (.map es clock) w := by simp [getObj, Sem.run, h]
theorem eh {P : Program} {w : World} {g : Nat} {o o' : Obj} (h : w.heap[g]? = some o) (hc : ∀ a b c, o ≠ .cells a b c) : (setObj g o').run P w = .ok () { w with heap := w.heap.setIfInBounds g o' } := by
 unfold setObj
 rw [Sem.run, h]
 cases o <;> first | rfl | exact absurd rfl (hc _ _ _)

theorem mE {E : Env} {v y : Value} (h : a8 E (.sc v) y) : y = v := by cases h; rfl
theorem tY {P : Program} {E : Env} {w : World} {a : Act} {st : St} (hs : bc E w a st) {T : TypeId} {m i v : V} {ok : Bool} {x y : Value} (hm : a8 E m x) (hi : a8 E i y) (h : e8 P st.mem T m i ok = some v) :
  ∃ z, (Instr.lookup T x y ok).run P w = .ok z w ∧ a8 E v z := by
 unfold e8 at h
 split at h
 ·rename_i kt et hd
  have hd := fE hd
  split at h
  ·rename_i key cp
   cases e7 hi cp
   split at h
   ·rename_i dc
    have FY := fun b => jK dc b w
    unfold oo at h
    split at h
    ·rename_i b
     obtain ⟨g, e, c, rfl, hb⟩ := nC hm
     split at h
     ·rename_i bK clock hB
      obtain ⟨es, hh, hr, -⟩ := gN hs hB hb
      split at h
      ·rename_i j u hf
       obtain ⟨r', h1, h2⟩ := dF hr w hf
       match r', h2 with
       | some (j', z), h2 =>
        cases h
        exact ⟨_, by simp [Instr.lookup, ao hd, ct hh, FY, h1], vQ h2.2.1 ok true⟩
      ·rename_i hf
       obtain ⟨r', h1, h2⟩ := dF hr w hf
       match r', h2 with
       | none, h2 =>
        split at h
        ·rename_i z hz
         cases h
         obtain ⟨z', h3, h4⟩ := lL hz E w
         exact ⟨_, by simp [Instr.lookup, ao hd, ct hh, FY, h1, h3], vQ h4 ok false⟩
        ·cases h
      ·cases h
     ·cases h
    ·obtain rfl := mE hm
     split at h
     ·rename_i hf
      obtain ⟨r', h1, h2⟩ := dF (E := E) (es := #[]) ⟨rfl, fun i k e h => by simp at h⟩ w hf
      match r', h2 with
      | none, h2 =>
       split at h
       ·rename_i z hz
        cases h
        obtain ⟨z', h3, h4⟩ := lL hz E w
        exact ⟨_, by simp at h1; simp [Instr.lookup, ao hd, FY, h1, h3], vQ h4 ok false⟩
       ·cases h
     ·cases h
    ·cases h
   ·cases h
  ·cases h
 ·cases h
def rM (mem : List aC) (ts : Array TypeId) (P : Program) : List V → Option V
 | [.mp b] => match mem[b]? with
  | some (.map bK _) => match ts[0]? with
   | some T => match dG P T with | some _ => some (.sc (.int .i64 bK.length)) | none => none
   | none => none
  | _ => none
 | _ => none
theorem Ay {P : Program} {E : Env} {w : World} {a : Act} {st : St} (hs : bc E w a st) {ts : Array TypeId} {ty : TypeId} {xs : List V} {v : V} {ys : Array Value} (hx : aV E xs ys.toList) (h : rM st.mem ts P xs = some v) :
  ∃ z, (Builtin.len_ ts ty ys).run P w = .ok z w ∧ a8 E v z := by
 unfold rM at h
 split at h
 ·rename_i b
  split at h
  ·rename_i bK clock hB
   split at h
   ·rename_i T h0
    split at h
    ·rename_i p hp
     cases h
     obtain ⟨kt, et⟩ := p
     have hd := fE hp
     obtain ⟨x, r, hy, h1, h2⟩ := hx.of_cons
     have := h2.of_nil; subst this
     obtain rfl : ys = #[x] := by rw [← Array.toArray_toList (xs := ys), hy]
     obtain ⟨g, e, c, rfl, hb⟩ := nC h1
     obtain ⟨es, hh, hr, -⟩ := gN hs hB hb
     refine ⟨.int .i64 es.size, by simp [Builtin.len_, h0, ao hd, ct hh, goInt], ?_⟩
     have : bK.length = es.size := by simpa using hr.1
     rw [this]; exact .sc _ _
    ·cases h
   ·cases h
  ·cases h
 ·cases h
def D0 (mem : List aC) (it : V) : Option V :=
 match it with
 | .ptr b 0 => match mem[b]? with
  | some (.eA m _ seen last) => match mem[m]? with
   | some (.map bK clock) => if clock = last then (match seen.getLast? with
    | some xI => match bK.find? (fun e => e.2.1 == xI) with
     | some e => some (.ch [fg e.1, e.2.2])
     | none => none
    | none => none) else none
   | _ => none
  | _ => none
 | _ => none
theorem cQ.find {E : Env} (p : Nat → Bool) : ∀ {bK : List (Value × Nat × V)} {es : List MapEntry} {k : Value × Nat × V}, cQ E bK es → bK.find? (fun e => p e.2.1) = some k → ∃ e, es.find? (fun e => p e.born) = some e ∧ e.key = k.1 ∧ a8 E k.2.2 e.val
 | [], es, k, h, hf => by simp at hf
 | c :: r, es, k, h, hf => by
  obtain ⟨e, es', rfl, h1, h2, h3, h4⟩ := h.of_cons
  rw [List.find?_cons] at hf ⊢
  rw [h2]
  split at hf
  ·rename_i hp; cases hf; exact ⟨e, rfl, h1, h3⟩
  ·exact cQ.find p h4 hf
theorem Az {P : Program} {E : Env} {w : World} {a : Act} {st : St} (hs : bc E w a st) {it v : V} {x : Value} (hi : a8 E it x) (h : D0 st.mem it = some v) : ∃ z, (Instr.entry x).run P w = .ok z w ∧ a8 E v z := by
 unfold D0 at h
 split at h
 ·rename_i b
  split at h
  ·rename_i m since seen last hB
   split at h
   ·rename_i bK clock hM
    split at h
    ·rename_i gj
     split at h
     ·rename_i xI ob
      split at h
      ·rename_i e he
       cases h
       obtain ⟨g, gm, em, cm, hb, Ju, hh, hf⟩ := hs.mem b _ hB
       obtain ⟨es, Vq, hr, ZP, h0⟩ := gN hs hM Ju
       cases hi with
       | ptr _ _ _ g' e' c' dt =>
       rw [hb] at dt; cases dt
       have eC : (getObj g).run P w = .ok (.mapIter (some gm) since seen.toArray last) w := by simp [getObj, Sem.run, hh]
       obtain ⟨en, h1, h2, h3⟩ := cQ.find (fun n => n == xI) hr he
       have Q7 : seen.toArray.back? = some xI := by simpa using ob
       have Gc : es.find? (fun e => e.born == xI) = some en := by
        rw [← List.find?_toArray, Array.toArray_toList] at h1; exact h1
       refine ⟨.tuple #[en.key, en.val], ?_, ?_⟩
       ·subst gj
        simp only [Instr.entry,Sem.run_bind,eC,Result.andThen_ok,Q7,ct Vq,bne_self_eq_false,Bool.false_eq_true,if_false,Gc]
        rfl
       ·refine .ch _ _ _ rfl fun i c y hc hy => ?_
        match i with
        | 0 => simp at hc hy; subst hc; subst hy; rw [h2]; exact fR E _
        | 1 => simp at hc hy; subst hc; subst hy; exact h3
        | i + 2 => simp at hc
      ·cases h
     ·cases h
    ·cases h
   ·cases h
  ·cases h
 ·cases h
end Go.Eng
end

section
namespace Go.Eng
variable [aK]

theorem bS {E : Env} {v y : Value} (h : a8 E (.sc v) y) : y = v := by cases h; rfl

theorem AA {P : Program} {tt : Table} (ht : TT P tt) {E : Env} {w : World} {a : Act} {st : St} (hs : bc E w a st) {T : TypeId} {x v : V} {lo hi : Option Operand} {y : Value} (hx : a8 E x y)
  (h : vP P tt st.mem T x (lo.map st.eval) (hi.map st.eval) = some v) : ∃ z, (Instr.sliceAt T y (lo.map a.eval) (hi.map a.eval) none).run P w = .ok z w ∧ a8 E v z := by
 unfold vP at h
 split at h
 ·cases lo with
  | none =>
   cases hi with
   | none => exact lJ hx h
   | some hi => exact gX (f := fun a h => Instr.sliceAt T a none (some h) none) hx (hs.eval hi) h
  | some lo =>
   cases hi with
   | none => exact gX (f := fun a l => Instr.sliceAt T a (some l) none none) hx (hs.eval lo) h
   | some hi =>
    simp only [Option.map_some] at h ⊢
    split at h
    ·rename_i hv Ux
     rw [e7 (hs.eval hi) Ux]
     exact gX (f := fun a l => Instr.sliceAt T a (some l) (some hv) none) hx (hs.eval lo) h
    ·simp at h
 ·split at h
  ·simp at h
  ·rename_i e he
   split at h
   ·simp at h
   ·rename_i size hz
    cases lo with
    | none =>
     cases hi with
     | none =>
      obtain ⟨aa, len, cap, rfl, h0, h1, h2, h3, hr⟩ := jI hs hx h
      exact ⟨_, jJ ht he hz w aa len cap none none 0 none (.inl ⟨rfl, rfl⟩) (.inl ⟨rfl, rfl⟩) h0 h1 h2 h3, hr⟩
     | some hi =>
      simp only [Option.map_some,Option.map_none] at h ⊢
      split at h
      ·rename_i n hn
       obtain ⟨k, hk⟩ := lK (hs.eval hi) hn
       obtain ⟨aa, len, cap, rfl, h0, h1, h2, h3, hr⟩ := jI hs hx h
       exact ⟨_, jJ ht he hz w aa len cap none _ 0 (some n) (.inl ⟨rfl, rfl⟩) (.inr ⟨k, n, by rw [hk], rfl⟩) h0 h1 h2 h3, hr⟩
      ·simp at h
    | some lo =>
     simp only [Option.map_some] at h ⊢
     split at h
     ·simp at h
     ·rename_i l hl
      obtain ⟨k, hk⟩ := lK (hs.eval lo) hl
      cases hi with
      | none =>
       simp only [Option.map_none] at h ⊢
       obtain ⟨aa, len, cap, rfl, h0, h1, h2, h3, hr⟩ := jI hs hx h
       exact ⟨_, jJ ht he hz w aa len cap _ none l none (.inr ⟨k, by rw [hk]⟩) (.inl ⟨rfl, rfl⟩) h0 h1 h2 h3, hr⟩
      | some hi =>
       simp only [Option.map_some] at h ⊢
       split at h
       ·rename_i n hn
        obtain ⟨k', fF⟩ := lK (hs.eval hi) hn
        obtain ⟨aa, len, cap, rfl, h0, h1, h2, h3, hr⟩ := jI hs hx h
        exact ⟨_, jJ ht he hz w aa len cap _ _ l (some n) (.inr ⟨k, by rw [hk]⟩) (.inr ⟨k', n, by rw [fF], rfl⟩) h0 h1 h2 h3, hr⟩
       ·simp at h

def jY : List V → Option (List Value)
 | [] => some []
 | v :: r => match cb v with
  | some x => match jY r with | some l => some (x :: l) | none => none
  | none => none
theorem nD {E : Env} : ∀ {vs : List V} {xs l : List Value}, aV E vs xs → jY vs = some l → xs = l
 | [], xs, l, h, hl => by simp [jY] at hl; subst hl; exact h.of_nil
 | v :: vs, xs, l, h, hl => by
  obtain ⟨x, ys, rfl, h1, h2⟩ := h.of_cons
  simp only [jY] at hl
  split at hl
  ·rename_i x' vJ
   split at hl
   ·rename_i l' Nd
    simp only [Option.some.injEq] at hl; subst hl
    rw [e7 h1 vJ, nD h2 Nd]
   ·simp at hl
  ·simp at hl

def dh (P : Program) (f : Array Value → Sem Value) (xs : List V) : Option V :=
 match jY xs with
 | some l => match aU P (f l.toArray) with | some v => some (fg v) | none => none
 | none => none

theorem bc.jL {E : Env} {w : World} {a : Act} {st : St} (hs : bc E w a st) (xs : Array Operand) : aV E (xs.toList.map st.eval) (xs.map a.eval).toList := by
 refine ⟨by simp, fun i v x hv hx => ?_⟩
 simp only [List.getElem?_map,Array.toList_map,Option.map_eq_some_iff] at hv hx
 obtain ⟨o, ho, rfl⟩ := hv
 obtain ⟨o', LZ, rfl⟩ := hx
 rw [ho] at LZ; cases LZ
 exact hs.eval o

def vR (P : Program) (tt : Table) (ts : Array TypeId) (ty : TypeId) : List V → Option V
 | [.slice rows] => match ts[0]? with
  | some t => match dT tt t with | some _ => some (.sc (.int .i64 rows.length)) | none => none
  | none => none
 | [.ms _ _ _ l] => match ts[0]? with
  | some t => match dT tt t with | some _ => some (.sc (.int .i64 l)) | none => none
  | none => none
 | xs => dh P (Builtin.len_ ts ty) xs

def YC (tt : Table) (S : TypeId) (f : Nat) (T : TypeId) (x : V) : Option V :=
 match x with
 | .agg cs => match JP tt S f with
  | some off => eK tt T (cs.drop off)
  | none => none
 | _ => none

def D1 (k : Int) : Bool := match aK.κ k with | some b => b | none => decide (k ≤ aK.n)
theorem vS (k : Int) : D1 k = decide (k ≤ aK.n) := by
 unfold D1
 split
 ·rename_i b h; exact (aK.ok k b h).symm
 ·rfl
def CF (op : BinOp) (x y : V) : Option V :=
 match y with
 | .gn => match op, x with
  | .leq, .sc (.int .i64 k) => some (.sc (.bool (D1 k)))
  | .gtr, .sc (.int .i64 k) => some (.sc (.bool (!D1 k)))
  | _, _ => none
 | _ => none
theorem xJ {P : Program} {E : Env} {w : World} {op : BinOp} {T : TypeId} {x y v : V} {a b : Value} (xo yo : Operand) (hx : a8 E x a) (hy : a8 E y b) (h : CF op x y = some v) :
  ∃ z, (do eqGuard op T xo yo a b; binOp op T a b : Sem Value).run P w = .ok z w ∧ a8 E v z := by
 unfold CF at h
 split at h
 ·cases hy
  split at h
  ·rename_i k
   cases h
   cases hx
   refine ⟨.bool (decide (k ≤ aK.n)), by simp [binOp, Op.intCmp, eqGuard], by rw [vS]; exact .sc _ _⟩
  ·rename_i k
   cases h
   cases hx
   refine ⟨.bool (decide (k > aK.n)), by simp [binOp, Op.intCmp, eqGuard], ?_⟩
   have : (!D1 k) = decide (k > aK.n) := by
    rw [vS]
    by_cases h : k ≤ aK.n
    ·rw [decide_eq_true h, decide_eq_false (by omega)]; rfl
    ·rw [decide_eq_false h, decide_eq_true (by omega)]; rfl
   rw [this]; exact .sc _ _
  ·cases h
 ·cases h
def pG (P : Program) (op : BinOp) (T : TypeId) (y : V) : Option V :=
 match y with
 | .sc (.pointer none) => match P.underlying T with
  | some (.pointer _) => match op with
   | .eql => some (.sc (.bool false))
   | .neq => some (.sc (.bool true))
   | _ => none
  | _ => none
 | _ => none
def vT (P : Program) (op : BinOp) (T : TypeId) (x y : V) : Option V :=
 match x with
 | .cn _ => pG P op T y
 | .ptr _ _ => pG P op T y
 | .dw _ _ _ _ => pG P op T y
 | _ => none
theorem vV {P : Program} {E : Env} {w : World} {op : BinOp} {T : TypeId} {x y v : V} {a b : Value} (xo yo : Operand) (hx : a8 E x a) (hy : a8 E y b) (h : vT P op T x y = some v) :
  ∃ z, (do eqGuard op T xo yo a b; binOp op T a b : Sem Value).run P w = .ok z w ∧ a8 E v z := by
 have key : ∀ ad : Addr, a = .pointer (some ad) → pG P op T y = some v → ∃ z, (do eqGuard op T xo yo a b; binOp op T a b : Sem Value).run P w = .ok z w ∧ a8 E v z := by
  rintro ad rfl h
  unfold pG at h
  split at h
  ·split at h
   ·rename_i e hT
    cases hy
    have he : (Op.equal T (.pointer (some ad)) (.pointer none)).run P w = .ok false w := by
     show (Op.equalIn (9999 + 1) T _ _).run P w = _
     unfold Op.equalIn
     simp [ao hT]
    split at h
    ·cases h
     exact ⟨.bool false, by simp [binOp, eqGuard, he], .sc _ _⟩
    ·cases h
     exact ⟨.bool true, by simp [binOp, eqGuard, he], .sc _ _⟩
    ·cases h
   ·cases h
  ·cases h
 unfold vT at h
 split at h
 ·cases hx with
  | cn _ _ ad xf hF hR => exact key ad rfl h
 ·cases hx with
  | ptr _ _ _ g e c hb => exact key _ rfl h
 ·cases hx with
  | dw _ _ _ _ _ g e c hb => exact key _ rfl h
 ·cases h
def fT : List V → Option (List Int)
 | [] => some []
 | .sc (.int .u8 n) :: r => match fT r with | some l => some (n :: l) | none => none
 | _ => none
def kK (P : Program) (s d : TypeId) (rows : List V) : Option V :=
 match P.underlying s with
 | some (.slice e) => match P.underlying e with
  | some (.int .u8) => match P.underlying d with
   | some .string => match fT rows with | some ns => some (.sc (.string (strOfNums ns))) | none => none
   | _ => none
  | _ => none
 | _ => none
def oq (P : Program) (mem : List aC) (s d : TypeId) : V → Option V
 | .slice rows => kK P s d rows
 | .ms b v o l => match mem[b]? with
  | some (.rows v' e rs) => if v' = v ∧ e = 1 ∧ o + l ≤ rs.length then kK P s d ((rs.drop o).take l) else none
  | some (.pB v' e rs) => if v' = v ∧ e = 1 ∧ o + l ≤ rs.length then kK P s d ((rs.drop o).take l) else none
  | _ => none
 | x => nd P (convert s d) x
theorem Gd (P : Program) (mem : List aC) (s d : TypeId) (x : Value) : oq P mem s d (.sc x) = nd P (convert s d) (.sc x) := rfl
theorem xK {P : Program} {mem : List aC} {s d e : TypeId} {rows : List V} {ns : List Int} (hs : P.underlying s = some (.slice e)) (he : P.underlying e = some (.int .u8)) (hd : P.underlying d = some .string) (hb : fT rows = some ns) :
  oq P mem s d (.slice rows) = some (.sc (.string (strOfNums ns))) := by simp only [oq,kK,hs,he,hd,hb]
theorem ln : ∀ {rows : List V} {ns : List Int}, fT rows = some ns → ns.length = rows.length
 | [], ns, h => by simp [fT] at h; subst h; rfl
 | r :: rs, ns, h => by
  unfold fT at h
  split at h
  ·rename_i heq; exact absurd heq (by simp)
  ·rename_i n l heq
   cases heq
   split at h
   ·rename_i l' hl
    cases h
    simp [ln hl]
   ·cases h
  ·cases h
theorem iV : ∀ {rows : List V} {ns : List Int}, fT rows = some ns → ∀ (i : Nat) (r : V), rows[i]? = some r → r = .sc (.int .u8 (ns.getD i 0))
 | [], ns, h, i, r, hr => by simp at hr
 | r0 :: rs, ns, h, i, r, hr => by
  unfold fT at h
  split at h
  ·rename_i heq; exact absurd heq (by simp)
  ·rename_i n l heq
   cases heq
   split at h
   ·rename_i l' hl
    cases h
    cases i with
    | zero => simp at hr; subst hr; rfl
    | succ i => exact iV hl i r (by simpa using hr)
   ·cases h
  ·cases h
theorem kL {P : Program} {w : World} {E : Env} {s d : TypeId} {rows : List V} {v : V} {aa : Option Addr} {cap : Nat} (h : kK P s d rows = some v) (hn : rows ≠ [] → ∃ g o, aa = some ⟨g, o, none⟩ ∧ ∀ (i : Nat) (r : V), rows[i]? = some r → ∃ x, w.cell? ⟨g, o + i, none⟩ = some x ∧ a8 E r x) :
  ∃ y, (convert s d (.slice aa rows.length cap)).run P w = .ok y w ∧ a8 E v y := by
 unfold kK at h
 split at h
 ·rename_i e hs
  split at h
  ·rename_i he
   split at h
   ·rename_i hd
    split at h
    ·rename_i ns hb
     cases h
     refine ⟨_, ?_, .sc _ _⟩
     have hl := ln hb
     cases rows with
     | nil =>
      have : ns = [] := List.length_eq_zero_iff.1 hl
      subst this
      rw [run_convert_bytes_string w s d e aa _ cap hs he hd]
      cases aa with
      | none => simp [Conv.bytesToString]; rfl
      | some a0 =>
       have := run_bytesToString (P := P) w a0 0 cap [] (by simp [loadCells, loadCellsFrom])
       have e0 : strOfNums [] = ByteArray.empty := rfl
       rw [e0]
       simpa using this
     | cons r0 rr =>
      obtain ⟨g, o, rfl, hc⟩ := hn (by simp)
      refine run_convert_bytes_arg w s e hs he g o _ cap ns hl (fun i hi => ?_) d hd
      obtain ⟨x, hx, hr⟩ := hc i _ (List.getElem?_eq_getElem hi)
      rw [hx, iV hb i _ (List.getElem?_eq_getElem hi)] at *
      rw [bS hr]
    ·cases h
   ·cases h
  ·cases h
 ·cases h
theorem qq {P : Program} {s d : TypeId} {rows : List V} {v : V} (h : kK P s d rows = some v) : ∃ ns, fT rows = some ns := by
 unfold kK at h
 split at h
 ·split at h
  ·split at h
   ·split at h
    ·rename_i ns hb; exact ⟨ns, hb⟩
    ·cases h
   ·cases h
  ·cases h
 ·cases h
theorem D2 {w : World} {ad : Addr} {x : Value} (h : w.cell? ad = some x) : ad.spot = none := by
 unfold World.cell? at h
 split at h
 ·split at h
  ·simp at h
  ·rename_i h1; cases hs : ad.spot with | none => rfl | some s => simp [hs] at h1
 ·simp at h
theorem xL {P : Program} {E : Env} {w : World} {a : Act} {st : St} (hs : bc E w a st) {s d : TypeId} {x v : V} {y : Value} (hx : a8 E x y) (h : oq P st.mem s d x = some v) : ∃ z, (convert s d y).run P w = .ok z w ∧ a8 E v z := by
 have ms : ∀ (b v' o l e : Nat) (rs : List V), a8 E (.ms b v' o l) y → e = 1 → o + l ≤ rs.length → (∀ g e' c, E.aM b v' = some (g, e', c) → e' = e ∧ fS E.pure e rs (fun k => w.cell? ⟨g, k, none⟩)) →
   kK P s d ((rs.drop o).take l) = some v → ∃ z, (convert s d y).run P w = .ok z w ∧ a8 E v z := by
  intro b v' o l e rs hr he hl eD hb
  obtain ⟨ns, AB⟩ := qq hb
  have hlen : ((rs.drop o).take l).length = l := by simp; omega
  cases hr with
  | dg =>
   have h0 : (rs.drop o).take 0 = [] := List.take_zero
   rw [h0] at hb
   exact kL (aa := none) (cap := 0) (w := w) (E := E) hb (fun bL => absurd rfl bL)
  | ms _ _ _ _ _ g e' c aa cap fh Jv Jt CE =>
   have dt := hb
   rw [← hlen]
   refine kL hb fun bL => ?_
   have D3 : 0 < l := by
    rcases Nat.eq_zero_or_pos l with h0 | h0
    ·subst h0; exact absurd List.take_zero bL
    ·exact h0
   obtain ⟨Vr, Nh⟩ := eD g e' c fh
   subst he
   subst Vr
   refine ⟨g, o * 1, Jv D3, fun i r hi => ?_⟩
   have Uy : rs[o + i]? = some r := by
    rw [List.getElem?_take] at hi
    split at hi
    ·simpa using hi
    ·simp at hi
   obtain ⟨-, h2⟩ := Nh _ r Uy
   have AE := iV AB i r hi
   obtain ⟨x, hx, -, Ge⟩ := h2 0 r (by rw [AE]; rfl)
   refine ⟨x, ?_, Ge.mono (Env.mD E)⟩
   have : (o + i) * 1 + 0 = o * 1 + i := by omega
   rw [← this]; exact hx
 unfold oq at h
 split at h
 ·rename_i rows
  obtain ⟨ns, AB⟩ := qq h
  cases hx with
  | slice _ _ aa cap nB ad xf ha iS hz hF jX hR =>
   refine kL h fun bL => ?_
   have key : ∀ (i : Nat) (r : V), rows[i]? = some r → ∃ x, w.cell? (ad.add i) = some x ∧ a8 E r x := fun i r hi => by
    have AE := iV AB i r hi
    have hc : r.cells = [r] := by rw [AE]; rfl
    have he : nB = 1 := by rw [← hz i r hi, hc]; rfl
    have h1 := hF i r 0 r hi (by rw [hc]; rfl)
    have h2 := hR i r 0 r hi (by rw [hc]; rfl)
    rw [he, Nat.mul_one, Nat.add_zero] at h1
    exact ⟨_, hs.F _ _ h1, h2.mono (Env.mD E)⟩
   obtain ⟨r0, h0⟩ : ∃ r0, rows[0]? = some r0 := by
    cases rows with
    | nil => exact absurd rfl bL
    | cons r0 rr => exact ⟨r0, rfl⟩
   obtain ⟨x0, j9, -⟩ := key 0 r0 h0
   have Q8 : ad.add 0 = ad := by simp [Addr.add]
   have rm := D2 j9
   rw [Q8] at rm
   obtain ⟨g, o, sp⟩ := ad
   obtain rfl : sp = none := rm
   refine ⟨g, o, ha bL, fun i r hi => ?_⟩
   obtain ⟨x, hx, hr⟩ := key i r hi
   exact ⟨x, by rw [← hx]; congr 1; unfold Addr.add; by_cases h0 : i = 0 <;> simp [h0], hr⟩
 ·rename_i b v' o l
  split at h
  ·rename_i v1 e rs hm
   split at h
   ·rename_i hc
    obtain ⟨rfl, rfl, hl⟩ := hc
    refine ms b v1 o l 1 rs hx rfl hl (fun g e' c fh => ?_) h
    rcases hs.mem b _ hm with ⟨vW, hn⟩ | ⟨g', T, xs, c', dt, hh, -, -, eD, -⟩
    ·rw [hn] at fh; cases fh
    ·rw [dt] at fh; cases fh
     refine ⟨rfl, fun i row hi => ?_⟩
     obtain ⟨h1, h2⟩ := eD i row hi
     refine ⟨h1, fun j cc hj => ?_⟩
     obtain ⟨x, hx, h3⟩ := h2 j cc hj
     exact ⟨x, (gM hh _).trans hx, h3⟩
   ·cases h
  ·rename_i v1 e rs hm
   split at h
   ·rename_i hc
    obtain ⟨rfl, rfl, hl⟩ := hc
    refine ms b v1 o l 1 rs hx rfl hl (fun g e' c fh => ?_) h
    rcases hs.mem b _ hm with ⟨vW, hn⟩ | ⟨g', c', dt, -, eD⟩
    ·rw [hn] at fh; cases fh
    ·rw [dt] at fh; cases fh
     refine ⟨rfl, fun i row hi => ?_⟩
     obtain ⟨h1, h2⟩ := eD i row hi
     refine ⟨h1, fun j cc hj => ?_⟩
     obtain ⟨x, hx, h3⟩ := h2 j cc hj
     exact ⟨x, hs.F _ _ hx, h3⟩
   ·cases h
  ·cases h
 ·exact lJ hx h
def kM (op : BinOp) (T : TypeId) (x y : Operand) : Value → Value → Sem Value := fun u v => do eqGuard op T x y u v; binOp op T u v
def rN (P : Program) (tt : Table) (T : TypeId) (x i : V) : Option V :=
 match x with
 | .ptr b o => match i with
  | .sc (.int _ n) => match P.underlying T with
   | some (.array len e) => match jG tt e with
    | some size => if 0 ≤ n ∧ n < len then some (.ptr b (o + n.toNat * size)) else none
    | none => none
   | _ => none
  | _ => none
 | _ => none
theorem xM {P : Program} {tt : Table} (ht : TT P tt) {E : Env} {T : TypeId} {p i v : V} {x y : Value} (hp : a8 E p x) (hi : a8 E i y) (h : rN P tt T p i = some v) (w : World) :
  ∃ z, (Instr.indexAt T x y).run P w = .ok z w ∧ a8 E v z := by
 unfold rN jG at h
 split at h
 ·rename_i b o
  split at h
  ·rename_i k n
   split at h
   ·rename_i len e hd
    cases hE : tt e with
    | none => rw [hE] at h; simp at h
    | some ie =>
     rw [hE] at h; simp only at h
     split at h
     ·rename_i h0
      cases h
      cases hi with
      | sc =>
      cases hp with
      | ptr _ _ _ g e' c hb =>
      refine ⟨.pointer (some ⟨g, o + n.toNat * ie.size, none⟩), ?_, .ptr _ _ _ g e' c hb⟩
      simp [Instr.indexAt, asIntOf, ao hd, Instr.sureAddr, ht.sizeOf hE, h0, add_lit]
     ·cases h
   ·cases h
  ·cases h
 ·cases h
def L0 (rows : List V) : Bool → V
 | true => .full rows
 | false => .slice rows
def CG (tt : Table) (T : TypeId) (x h m : V) : Option V :=
 match x with
 | .slice rows => match xG h with
  | some a => match xG m with
   | some b => match dT tt T with
    | some e => match jG tt e with
     | some _ => if 0 ≤ a ∧ a ≤ b ∧ b ≤ rows.length then some (L0 (rows.take a.toNat) (decide (a = b))) else none
     | none => none
    | none => none
   | none => none
  | none => none
 | _ => none
theorem xN {P : Program} {tt : Table} (ht : TT P tt) {E : Env} {T : TypeId} {x h m v : V} {y z u : Value} (hx : a8 E x y) (hh : a8 E h z) (hm : a8 E m u) (hc : CG tt T x h m = some v) (w : World) :
  ∃ q, (Instr.sliceAt T y none (some z) (some u)).run P w = .ok q w ∧ a8 E v q := by
 unfold CG at hc
 split at hc
 ·rename_i rows
  split at hc
  ·rename_i a ha
   split at hc
   ·rename_i b hb
    obtain ⟨k1, rfl⟩ := lK hh ha
    obtain ⟨k2, rfl⟩ := lK hm hb
    unfold dT jG at hc
    cases hT : tt T with
    | none => rw [hT] at hc; simp at hc
    | some iT =>
     rw [hT] at hc; simp only at hc
     cases he : iT.elem with
     | none => rw [he] at hc; simp at hc
     | some e =>
      rw [he] at hc; simp only at hc
      cases hE : tt e with
      | none => rw [hE] at hc; simp at hc
      | some ie =>
       rw [hE] at hc; simp only at hc
       obtain ⟨d, hd, -, qp, -⟩ := ht.desc T iT hT
       obtain rfl := qp e he
       split at hc
       ·rename_i jA
        obtain ⟨h0, h1, h2⟩ := jA
        cases hc
        cases hx with
        | slice _ _ aa cap nB ad xf ZQ iS hz hF jX hR =>
        have hlen : (rows.take a.toNat).length = a.toNat := by rw [List.length_take]; omega
        have di : (Instr.sliceAt T (.slice aa rows.length cap) none (some (.int k1 a)) (some (.int k2 b))).run P w = .ok (.slice aa a.toNat b.toNat) w := by
         simp only [Instr.sliceAt,Instr.slice,Sem.run_bind,ao hd,Result.andThen_ok,Instr.sliceBounds,Instr.sliceBound,asIntOf,Sem.run_pure,ht.sizeOf hE,Option.isSome_some]
         rw [if_pos ⟨by omega, by omega⟩]
         simp only [Sem.run_pure,Result.andThen_ok]
         rw [if_pos ⟨by omega, by omega⟩]
         simp [Addr.add]
        refine ⟨_, di, ?_⟩
        have hg : ∀ (i : Nat) (row : V), (rows.take a.toNat)[i]? = some row → rows[i]? = some row := fun i row hi => by
         rw [List.getElem?_take] at hi
         split at hi
         ·exact hi
         ·cases hi
        have := a8.slice E (rows.take a.toNat) aa b.toNat nB ad xf (fun bL => ZQ fun h => bL (by rw [h, List.take_nil])) (by omega) (fun i row hi => hz _ _ (hg i row hi)) (fun i row j c hi hj => hF _ _ _ _ (hg i row hi) hj) (fun i row j c hi hj => jX _ _ _ _ (hg i row hi) hj) fun i row j c hi hj => hR _ _ _ _ (hg i row hi) hj
        rw [hlen] at this
        by_cases xO : a = b
        ·rw [decide_eq_true xO]
         have ZR : b.toNat = (rows.take a.toNat).length := by rw [hlen, xO]
         have h4 : (Value.slice aa a.toNat b.toNat) = .slice aa (rows.take a.toNat).length (rows.take a.toNat).length := by rw [← ZR, ← xO]
         rw [h4]
         exact .full _ _ _ (by rw [← h4]; exact this)
        ·rw [decide_eq_false xO]
         exact this
       ·cases hc
   ·cases hc
  ·cases hc
 ·cases hc
def rn (P : Program) (tt : Table) (S : TypeId) (f : Nat) (x : V) : Option V :=
 match x with
 | .agg cs => match P.underlying S with
  | some (.struct fs) => match fs[f]? with
   | some fd => eK tt fd.type (cs.drop fd.offset)
   | none => none
  | _ => none
 | _ => none
theorem tZ {P : Program} {tt : Table} (ht : TT P tt) {E : Env} {S : TypeId} {f : Nat} {x v : V} {y : Value} (hx : a8 E x y) (h : rn P tt S f x = some v) (w : World) : ∃ z, (Instr.field S y f).run P w = .ok z w ∧ a8 E v z := by
 unfold rn at h
 split at h
 ·rename_i cs
  split at h
  ·rename_i fs hu
   split at h
   ·rename_i fd hf
    cases hx with
    | agg _ _ xs hl hr =>
     simp only [Instr.field,Sem.run_bind,ao hu,Result.andThen_ok,hf]
     unfold eK at h
     cases hi : tt fd.type with
     | none => rw [hi] at h; simp at h
     | some i =>
      rw [hi] at h; simp only at h
      cases ha : i.agg with
      | false =>
       simp only [ha,Bool.false_eq_true,if_false] at h
       have h0 : cs[fd.offset]? = some v := by simpa [List.head?_eq_getElem?] using h
       have aL : fd.offset < xs.size := by rw [← hl]; exact (List.getElem?_eq_some_iff.1 h0).1
       refine ⟨xs[fd.offset], ?_, hr _ _ _ h0 (Array.getElem?_eq_getElem aL)⟩
       simp [part, asAgg, ht.isAgg hi, ha, Array.getElem?_eq_getElem aL]
      | true =>
       simp only [ha,if_true] at h
       split at h
       ·rename_i hle
        simp only [Option.some.injEq] at h; subst h
        rw [List.length_drop] at hle
        refine ⟨.agg (xs.extract fd.offset (fd.offset + i.size)), ?_, .agg _ _ _ (by simp; omega) fun j c z hc hz => ?_⟩
        ·simp [part, asAgg, ht.isAgg hi, ha, ht.sizeOf hi]
        ·have hj : j < i.size := by
          by_cases hj : j < i.size
          ·exact hj
          ·rw [List.getElem?_take] at hc; simp [hj] at hc
         rw [List.getElem?_take_of_lt hj, List.getElem?_drop] at hc
         refine hr (fd.offset + j) c z hc ?_
         rw [Array.getElem?_extract] at hz
         split at hz
         ·exact hz
         ·cases hz
       ·cases h
   ·cases h
  ·cases h
 ·cases h
def gp (P : Program) (tt : Table) (st : St) (o : Oper) : Option V :=
 match o.op with
 | .move x => some (st.eval x)
 | .assign x => some (st.eval x)
 | .pick c a b => match st.eval c with | .sc (.bool t) => some (if t = true then st.eval a else st.eval b) | _ => none
 | .load T x => lj tt st.mem T (st.eval x)
 | .nilCheck x => Nf (st.eval x)
 | .binOp op T x y _ => match CF op (st.eval x) (st.eval y) with
  | some v => some v
  | none => match vT P op T (st.eval x) (st.eval y) with
   | some v => some v
   | none => bE P (kM op T x y) (st.eval x) (st.eval y)
 | .unOp op _ x => nd P (Op.unary op) (st.eval x)
 | .convert s d x => oq P st.mem s d (st.eval x)
 | .makeFunc fn first cap => some (.iw fn (first.toList.map st.eval) (cap.toList.map st.eval))
 | .slice T x lo hi none => vP P tt st.mem T (st.eval x) (lo.map st.eval) (hi.map st.eval)
 | .fieldAddr S x f => vK tt S f (st.eval x)
 | .field S x f => rn P tt S f (st.eval x)
 | .slice T x none (some h) (some m) => CG tt T (st.eval x) (st.eval h) (st.eval m)
 | .indexAddr T x i => match jf tt st.mem T (st.eval x) (st.eval i) with
  | some v => some v
  | none => rN P tt T (st.eval x) (st.eval i)
 | .index T x i => bE P (Instr.index T) (st.eval x) (st.eval i)
 | .extract t i => match st.eval t with | .ch vs => vs[i]? | _ => none
 | .lookup T x i ok => e8 P st.mem T (st.eval x) (st.eval i) ok
 | .entry it => D0 st.mem (st.eval it)
 | .call { callee := .builtin .len, args := xs, argTypes := ts } => match rM st.mem ts P (xs.toList.map st.eval) with
  | some v => some v
  | none => vR P tt ts o.type (xs.toList.map st.eval)
 | .call { callee := .builtin .max, args := xs, argTypes := ts } => dh P (Builtin.max_ ts o.type) (xs.toList.map st.eval)
 | .call { callee := .builtin .min, args := xs, argTypes := ts } => dh P (Builtin.min_ ts o.type) (xs.toList.map st.eval)
 | _ => none

theorem lM {P : Program} {f : Array Value → Sem Value} {E : Env} {w : World} {xs : List V} {v : V} {ys : Array Value} (hx : aV E xs ys.toList) (h : dh P f xs = some v) : ∃ z, (f ys).run P w = .ok z w ∧ a8 E v z := by
 unfold dh at h
 split at h
 ·rename_i l hl
  have := nD hx hl
  split at h
  ·rename_i z hz
   simp only [Option.some.injEq] at h; subst h
   subst this
   exact ⟨z, cX _ (by simpa using hz) w, fR E z⟩
  ·simp at h
 ·simp at h

theorem vX {P : Program} {tt : Table} (ht : TT P tt) {ts : Array TypeId} {ty t e : TypeId} (h0 : ts[0]? = some t) (he : dT tt t = some e) (w : World) (aa : Option Addr) (len cap : Nat) :
  (Builtin.len_ ts ty #[.slice aa len cap]).run P w = .ok (.int .i64 len) w := by
 unfold dT at he
 cases hT : tt t with
 | none => rw [hT] at he; simp at he
 | some iT =>
  rw [hT] at he; simp only at he
  obtain ⟨d, hd, -, qp, -⟩ := ht.desc t iT hT
  obtain rfl := qp e he
  simp [Builtin.len_, h0, ao hd, goInt]

theorem AF {P : Program} {tt : Table} (ht : TT P tt) {E : Env} {w : World} {ts : Array TypeId} {ty : TypeId} {xs : List V} {v : V} {ys : Array Value} (hx : aV E xs ys.toList) (h : vR P tt ts ty xs = some v) :
  ∃ z, (Builtin.len_ ts ty ys).run P w = .ok z w ∧ a8 E v z := by
 unfold vR at h
 split at h
 ·split at h
  ·rename_i t h0
   split at h
   ·rename_i e he
    simp only [Option.some.injEq] at h; subst h
    obtain ⟨x, r, hy, h1, h2⟩ := hx.of_cons
    have := h2.of_nil; subst this
    obtain rfl : ys = #[x] := by rw [← Array.toArray_toList (xs := ys), hy]
    cases h1 with
    | slice _ _ aa cap nB ad xf ha iS hz hF jX hR => exact ⟨_, vX ht h0 he w aa _ cap, .sc _ _⟩
   ·simp at h
  ·simp at h
 ·split at h
  ·rename_i t h0
   split at h
   ·rename_i e he
    simp only [Option.some.injEq] at h; subst h
    obtain ⟨x, r, hy, h1, h2⟩ := hx.of_cons
    have := h2.of_nil; subst this
    obtain rfl : ys = #[x] := by rw [← Array.toArray_toList (xs := ys), hy]
    cases h1 with
    | dg => exact ⟨_, vX ht h0 he w none _ 0, .sc _ _⟩
    | ms _ _ _ _ _ g e' c aa cap hb hl Jt CE => exact ⟨_, vX ht h0 he w aa _ cap, .sc _ _⟩
   ·simp at h
  ·simp at h
 ·exact lM hx h

theorem bh {P : Program} {s : Sem Value} {w : World} {x : Value} (h : s.run P w = .ok x w) : (do pure (Next.value (← s)) : Sem Next).run P w = .ok (.value x) w := by
 simp [h]

theorem mF {P : Program} {tt : Table} (ht : TT P tt) {E : Env} {w : World} {a : Act} {st : St} (hs : bc E w a st) {o : Oper} {v : V} (h : gp P tt st o = some v) :
  ∃ x, (execOp a.eval o).run P w = .ok (.value x) w ∧ a8 E v x := by
 obtain ⟨dst, op, type, pos, after, guard⟩ := o
 unfold gp at h
 dsimp only at h
 split at h
 ·simp only [Option.some.injEq] at h; subst h; exact ⟨_, rfl, hs.eval _⟩
 ·simp only [Option.some.injEq] at h; subst h; exact ⟨_, rfl, hs.eval _⟩
 ·rename_i c x y
  split at h
  ·rename_i t hc
   simp only [Option.some.injEq] at h; subst h
   have := hs.eval c
   rw [hc] at this
   refine ⟨if t = true then a.eval x else a.eval y, ?_, ?_⟩
   ·simp [execOp, bS this, asBool]
   ·cases t <;> exact hs.eval _
  ·simp at h
 ·obtain ⟨y, h1, h2⟩ := qo ht hs (hs.eval _) h
  exact ⟨y, bh h1, h2⟩
 ·rename_i x
  have hx := hs.eval x
  generalize hy : a.eval x = y at hx
  have di : ∀ z, (∀ m f c, z ≠ .func (.method m) f c) → z ≠ .pointer none → z ≠ .nilIface → z ≠ .nilFunc → a.eval x = z → (execOp a.eval { dst, op := .nilCheck x, type, pos, after, guard }).run P w = .ok (.value z) w := by
   intro z h1 h2 h3 h4 he
   simp only [execOp,he]
   rfl
  unfold Nf at h
  split at h <;> simp only [Option.some.injEq,reduceCtorEq] at h <;> subst h <;> rename_i hv <;> rw [hv] at hx
  ·cases hx with
   | ptr _ _ _ g e c hb => exact ⟨_, di _ (by simp) (by simp) (by simp) (by simp) hy, .ptr _ _ _ g e c hb⟩
  ·cases hx with
   | dw _ _ _ _ _ g e c hb => exact ⟨_, di _ (by simp) (by simp) (by simp) (by simp) hy, .dw _ _ _ _ _ g e c hb⟩
  ·cases hx with
   | cn _ _ ad xf hF hr => exact ⟨_, di _ (by simp) (by simp) (by simp) (by simp) hy, .cn _ _ _ xf hF hr⟩
  ·cases hx with
   | iw _ f first cap xs ys h1 h2 h3 h4 => exact ⟨_, di _ (by simp) (by simp) (by simp) (by simp) hy, .iw _ _ _ _ _ _ h1 h2 h3 h4⟩
  ·have := bS hx
   subst this
   exact ⟨_, di _ (by simp) (by simp) (by simp) (by simp) hy, .sc _ _⟩
 ·rename_i op T x y _
  split at h
  ·rename_i hg
   cases h
   obtain ⟨z, h1, h2⟩ := xJ (P := P) (w := w) (T := T) x y (hs.eval x) (hs.eval y) hg
   exact ⟨z, bh h1, h2⟩
  ·split at h
   ·rename_i hg
    cases h
    obtain ⟨z, h1, h2⟩ := vV (P := P) (w := w) (T := T) x y (hs.eval x) (hs.eval y) hg
    exact ⟨z, bh h1, h2⟩
   ·obtain ⟨z, h1, h2⟩ := gX (w := w) (hs.eval x) (hs.eval y) h
    exact ⟨z, bh h1, h2⟩
 ·obtain ⟨z, h1, h2⟩ := lJ (w := w) (hs.eval _) h
  exact ⟨z, bh h1, h2⟩
 ·obtain ⟨z, h1, h2⟩ := xL (w := w) hs (hs.eval _) h
  exact ⟨z, bh h1, h2⟩
 ·rename_i fn first cap
  simp only [Option.some.injEq] at h; subst h
  have h1 := hs.jL first
  have h2 := hs.jL cap
  exact ⟨_, bh rfl, .iw _ _ _ _ _ _ (by simp) (by simp) (fun i c x hc hx => h1.2 i c x hc (by simpa using hx)) fun i c x hc hx => h2.2 i c x hc (by simpa using hx)⟩
 ·obtain ⟨z, h1, h2⟩ := AA ht hs (hs.eval _) h
  exact ⟨z, bh h1, h2⟩
 ·obtain ⟨z, h1, h2⟩ := vM ht (hs.eval _) h w
  exact ⟨z, bh h1, h2⟩
 ·obtain ⟨z, h1, h2⟩ := tZ ht (hs.eval _) h w
  exact ⟨z, bh h1, h2⟩
 ·obtain ⟨z, h1, h2⟩ := xN ht (hs.eval _) (hs.eval _) (hs.eval _) h w
  exact ⟨z, bh h1, h2⟩
 ·split at h
  ·rename_i hv
   cases h
   obtain ⟨z, h1, h2⟩ := vO ht hs (hs.eval _) (hs.eval _) hv
   exact ⟨z, bh h1, h2⟩
  ·obtain ⟨z, h1, h2⟩ := xM ht (hs.eval _) (hs.eval _) h w
   exact ⟨z, bh h1, h2⟩
 ·obtain ⟨z, h1, h2⟩ := gX (w := w) (hs.eval _) (hs.eval _) h
  exact ⟨z, bh h1, h2⟩
 ·rename_i t i
  split at h
  ·rename_i vs hv
   have := hs.eval t
   rw [hv] at this
   generalize hy : a.eval t = y at this
   cases this with
   | ch _ _ xs hl hr =>
    have hi : i < xs.size := by rw [← hl]; exact (List.getElem?_eq_some_iff.1 h).1
    exact ⟨xs[i], bh (by simp [hy, Instr.extract, Array.getElem?_eq_getElem hi]), hr i v _ h (Array.getElem?_eq_getElem hi)⟩
  ·simp at h
 ·obtain ⟨z, h1, h2⟩ := tY hs (hs.eval _) (hs.eval _) h
  exact ⟨z, bh h1, h2⟩
 ·obtain ⟨z, h1, h2⟩ := Az hs (hs.eval _) h
  exact ⟨z, bh h1, h2⟩
 ·split at h
  ·rename_i hl
   cases h
   obtain ⟨z, h1, h2⟩ := Ay hs (hs.jL _) hl
   exact ⟨z, bh h1, h2⟩
  ·obtain ⟨z, h1, h2⟩ := AF ht (w := w) (hs.jL _) h
   exact ⟨z, bh h1, h2⟩
 ·obtain ⟨z, h1, h2⟩ := lM (w := w) (hs.jL _) h
  exact ⟨z, bh h1, h2⟩
 ·obtain ⟨z, h1, h2⟩ := lM (w := w) (hs.jL _) h
  exact ⟨z, bh h1, h2⟩
 ·simp at h
end Go.Eng
end

section
namespace Go.Eng
variable [aK]
open Go.RowKit (Below)

def bj (mem : List aC) (key : Nat) (B : aC) : List aC := if key < mem.length then mem.set key B else mem ++ [B]
def ei (mem : List aC) (key : Nat) : Prop := mem[key]? = some .hole ∨ key = mem.length
def Env.with (E : Env) (key bW : Nat) (t : Nat × Nat × Nat) : Env := { F := E.F, aM := fun k v => if k = key ∧ v = bW then some t else E.aM k v, gl := E.gl }

theorem kN {mem : List aC} {key : Nat} (h : key ≤ mem.length) (B : aC) (k : Nat) : (bj mem key B)[k]? = if k = key then some B else mem[k]? := by
 unfold bj
 split
 ·rename_i aL
  rw [List.getElem?_set]
  by_cases hk : key = k
  ·subst hk; simp [aL]
  ·rw [if_neg hk, if_neg (fun e => hk e.symm)]
 ·rename_i cP
  have cp : key = mem.length := by omega
  by_cases hk : k = key
  ·subst hk; rw [if_pos rfl, cp]; simp
  ·rw [if_neg hk, List.getElem?_append]
   split
   ·rfl
   ·rw [List.getElem?_eq_none (by simp; omega), List.getElem?_eq_none (by omega)]
theorem ng {mem : List aC} {key : Nat} (h : key ≤ mem.length) (B : aC) : mem.length ≤ (bj mem key B).length ∧ key < (bj mem key B).length := by
 unfold bj
 split <;> simp <;> omega
theorem ei.le {mem : List aC} {key : Nat} (h : ei mem key) : key ≤ mem.length := by
 rcases h with h | h
 ·exact Nat.le_of_lt (List.getElem?_eq_some_iff.1 h).1
 ·omega
theorem bc.free {E : Env} {w : World} {a : Act} {st : St} (hs : bc E w a st) {key : Nat} (h : ei st.mem key) : ∀ v, E.aM key v = none := by
 rcases h with h | h
 ·exact hs.mem _ _ h
 ·exact hs.top _ (by omega)
theorem Env.gO {E : Env} {key bW : Nat} (h : E.aM key bW = none) (t : Nat × Nat × Nat) : E.le (E.with key bW t) :=
 ⟨fun _ _ h => h, fun b v u hb => by
  show (if b = key ∧ v = bW then some t else E.aM b v) = some u
  rw [if_neg (fun e => by rw [e.1, e.2, h] at hb; cases hb)]; exact hb⟩

theorem iP.mono {E E' : Env} {w w' : World} {k : Nat} {B : aC} (h : iP E w k B) (hle : E.le E') (Gf : ∀ v, E.aM k v = none → E'.aM k v = none)
  (lN : ∀ g e c, E.aM k B.bW = some (g, e, c) → w'.heap[g]? = w.heap[g]?) (hF : ∀ g e c o, E.aM k B.bW = some (g, e, c) → E.F ⟨g, o, none⟩ = none → E'.F ⟨g, o, none⟩ = none) : iP E' w' k B := by
 have eD : ∀ {e rs} {f f' : Nat → Option Value}, (∀ o x, f o = some x → f' o = some x) → fS E.pure e rs f → fS E'.pure e rs f' := fun hf hr i row hi => by
  obtain ⟨h1, h2⟩ := hr i row hi
  exact ⟨h1, fun j c hj => let ⟨x, hx, h1, hr⟩ := h2 j c hj; ⟨x, hf _ _ hx, h1, hr.mono (Env.ft hle)⟩⟩
 cases B with
 | hole => exact fun v => Gf v (h v)
 | dead => trivial
 | box cs =>
  obtain ⟨g, T, xs, hb, hh, hr, hf⟩ := h
  exact ⟨g, T, xs, hle.aM _ _ _ hb, (lN _ _ _ hb).trans hh, hr.mono hle, fun o => hF _ _ _ o hb (hf o)⟩
 | rows v e rs =>
  rcases h with ⟨h1, h2⟩ | ⟨g, T, xs, c, hb, hh, jW, hl, hr, hf⟩
  ·exact .inl ⟨h1, Gf _ h2⟩
  ·exact .inr ⟨g, T, xs, c, hle.aM _ _ _ hb, (lN _ _ _ hb).trans hh, jW, hl, eD (fun _ _ h => h) hr, fun o => hF _ _ _ o hb (hf o)⟩
 | loop s iU fr params assign body =>
  obtain ⟨l, fn, tmps, db, hb, hh, hr, hf⟩ := h
  exact ⟨l, fn, tmps, db, hle.aM _ _ _ hb, (lN _ _ _ hb).trans hh, hr.mono hle, fun o => hF _ _ _ o hb (hf o)⟩
 | map bK clock =>
  obtain ⟨g, es, hb, hh, hr, hf⟩ := h
  exact ⟨g, es, hle.aM _ _ _ hb, (lN _ _ _ hb).trans hh, hr.mono hle, fun o => hF _ _ _ o hb (hf o)⟩
 | eA m since seen last =>
  obtain ⟨g, gm, e, c, hb, hm, hh, hf⟩ := h
  exact ⟨g, gm, e, c, hle.aM _ _ _ hb, hle.aM _ _ _ hm, (lN _ _ _ hb).trans hh, fun o => hF _ _ _ o hb (hf o)⟩
 | iO s pos =>
  obtain ⟨g, hb, hh, hf⟩ := h
  exact ⟨g, hle.aM _ _ _ hb, (lN _ _ _ hb).trans hh, fun o => hF _ _ _ o hb (hf o)⟩
 | je =>
  obtain ⟨g, hb, hh, hf⟩ := h
  exact ⟨g, hle.aM _ _ _ hb, (lN _ _ _ hb).trans hh, fun o => hF _ _ _ o hb (hf o)⟩
 | pB v e rs =>
  rcases h with ⟨h1, h2⟩ | ⟨g, c, hb, hl, hr⟩
  ·exact .inl ⟨h1, Gf _ h2⟩
  ·exact .inr ⟨g, c, hle.aM _ _ _ hb, hl, eD (fun _ _ h => hle.F _ _ h) hr⟩

theorem bc.new {E : Env} {w : World} {a : Act} {st : St} (hs : bc E w a st) {key : Nat} (hk : ei st.mem key) {obj : Obj} {B : aC} {e c : Nat} (Gg : B.bW = 0)
  (hB : iP (E.with key 0 (w.heap.size, e, c)) (w.alloc obj) key B) :
  bc (E.with key 0 (w.heap.size, e, c)) (w.alloc obj) a { st with mem := bj st.mem key B } ∧ dO E w (E.with key 0 (w.heap.size, e, c)) (w.alloc obj) := by
 have L1 := hs.free hk
 have hle := Env.gO (L1 0) (w.heap.size, e, c)
 have hblk : ∀ k v, ¬ (k = key ∧ v = 0) → (E.with key 0 (w.heap.size, e, c)).aM k v = E.aM k v := fun k v bL => if_neg bL
 have cp : (E.with key 0 (w.heap.size, e, c)).aM key 0 = some (w.heap.size, e, c) := if_pos ⟨rfl, rfl⟩
 have Jw : ∀ k v, k ≠ key → (E.with key 0 (w.heap.size, e, c)).aM k v = E.aM k v := fun k v bL => hblk k v fun h => bL h.1
 refine ⟨⟨fun ad x hx => ?_, fun k v g e' c' hb => ?_, fun k B' oc => ?_, fun k fF v => ?_, fun k B' oc v hv => ?_, ?_, hs.fr.mono hle⟩, hle, fun k v g e' c' hb => ?_, fun ad x hx => .inl hx, rfl, rfl, rfl, by simp, fun b hb _ => Go.RowKit.Below.heap_alloc w _ b hb⟩
 ·rw [World.cell?_alloc_lt w _ ad (World.block_lt_of_cell? w ad (hs.F ad x hx))]; exact hs.F ad x hx
 ·by_cases ck : k = key ∧ v = 0
  ·obtain ⟨rfl, rfl⟩ := ck; rw [cp] at hb; cases hb; simp
  ·rw [hblk k v ck] at hb; have := hs.lt _ _ _ _ _ hb; simp; omega
 ·rw [kN hk.le] at oc
  split at oc
  ·rename_i ck; subst ck; cases oc; exact hB
  ·rename_i ck
   exact (hs.mem k B' oc).mono hle (fun v h => by rw [Jw k v ck]; exact h) (fun g e' c' hb => Go.RowKit.Below.heap_alloc w _ g (hs.lt _ _ _ _ _ hb)) fun _ _ _ o _ h => h
 ·have := ng hk.le B
  dsimp only at fF
  rw [Jw k v (by omega)]; exact hs.top k (by omega) v
 ·dsimp only at oc
  rw [kN hk.le] at oc
  split at oc
  ·rename_i ck; subst ck; cases oc; rw [hblk k v (by omega)]; exact L1 v
  ·rename_i ck; rw [Jw k v ck]; exact hs.bW k B' oc v hv
 ·intro k k' v v' g e1 c1 e2 c2 h5 h6
  by_cases ck : k = key ∧ v = 0 <;> by_cases vY : k' = key ∧ v' = 0
  ·rw [ck.1, vY.1]
  ·obtain ⟨rfl, rfl⟩ := ck; rw [cp] at h5; cases h5; rw [hblk k' _ vY] at h6; have := hs.lt _ _ _ _ _ h6; omega
  ·obtain ⟨rfl, rfl⟩ := vY; rw [cp] at h6; cases h6; rw [hblk k _ ck] at h5; have := hs.lt _ _ _ _ _ h5; omega
  ·rw [hblk k _ ck] at h5; rw [hblk k' _ vY] at h6
   exact hs.apart _ _ _ _ _ _ _ _ _ h5 h6
 ·by_cases ck : k = key ∧ v = 0
  ·obtain ⟨rfl, rfl⟩ := ck; rw [cp] at hb; cases hb; exact .inr (Nat.le_refl _)
  ·rw [hblk k v ck] at hb; exact .inl ⟨_, _, _, _, hb⟩

theorem bc.Gh {E : Env} {w : World} {a : Act} {st : St} (hs : bc E w a st) {key : Nat} (hk : ei st.mem key) {xs : Array Value} {cs : List V} (hr : aV E cs xs.toList) (T : TypeId) :
  ∃ E', bc E' (w.alloc (.cells xs T (0, 0))) a { st with mem := bj st.mem key (.box cs) } ∧ dO E w E' (w.alloc (.cells xs T (0, 0))) ∧ a8 E' (.ptr key 0) (.pointer (some ⟨w.heap.size, 0, none⟩)) := by
 have hle := Env.gO (hs.free hk 0) (w.heap.size, 0, 0)
 have := hs.new (obj := .cells xs T (0, 0)) (B := .box cs) (e := 0) (c := 0) hk rfl ⟨w.heap.size, T, xs, if_pos ⟨rfl, rfl⟩, heap_alloc_new w _, hr.mono hle, fun o => ?_⟩
 ·exact ⟨_, this.1, this.2, .ptr _ _ _ _ 0 0 (if_pos ⟨rfl, rfl⟩)⟩
 ·show E.F _ = none
  cases hx : E.F ⟨w.heap.size, o, none⟩ with
  | none => rfl
  | some x => have := World.block_lt_of_cell? w _ (hs.F _ _ hx); simp at this

theorem bc.ot {E : Env} {w : World} {a : Act} {st : St} (hs : bc E w a st) {key : Nat} (hk : ei st.mem key) {xs : Array Value} {rs : List V} {e c : Nat} (T : TypeId) (jW : xs.size = c * e) (hl : rs.length ≤ c)
  (hr : fS E.pure e rs (fun o => xs[o]?)) :
  ∃ E', bc E' (w.alloc (.cells xs T (0, 0))) a { st with mem := bj st.mem key (.rows 0 e rs) } ∧ dO E w E' (w.alloc (.cells xs T (0, 0))) ∧ a8 E' (.ms key 0 0 rs.length) (.slice (some ⟨w.heap.size, 0, none⟩) rs.length c) := by
 have hle := Env.gO (hs.free hk 0) (w.heap.size, e, c)
 have := hs.new (obj := .cells xs T (0, 0)) (B := .rows 0 e rs) (e := e) (c := c) hk rfl (.inr ⟨w.heap.size, T, xs, c, if_pos ⟨rfl, rfl⟩, heap_alloc_new w _, jW, hl, fun i row hi => ?_, fun o => ?_⟩)
 ·exact ⟨_, this.1, this.2, .ms _ _ _ _ _ w.heap.size e c _ _ (if_pos ⟨rfl, rfl⟩) (fun _ => by simp) (fun _ => ⟨rfl, rfl⟩) ⟨hl, Nat.zero_add _, fun _ => by simp⟩⟩
 ·obtain ⟨h1, h2⟩ := hr i row hi
  exact ⟨h1, fun j c' hj => let ⟨x, hx, h1, hr⟩ := h2 j c' hj; ⟨x, hx, h1, hr.mono (Env.ft hle)⟩⟩
 ·show E.F _ = none
  cases hx : E.F ⟨w.heap.size, o, none⟩ with
  | none => rfl
  | some x => have := World.block_lt_of_cell? w _ (hs.F _ _ hx); simp at this

theorem bc.JQ {E : Env} {w : World} {a : Act} {st : St} (hs : bc E w a st) {key : Nat} (hk : ei st.mem key) (e : Nat) : bc E w a { st with mem := bj st.mem key (.rows 0 e []) } := by
 have hn := hs.free hk
 refine ⟨hs.F, hs.lt, fun k B hB => ?_, fun k fF => hs.top k ?_, fun k B hB v hv => ?_, hs.apart, hs.fr⟩
 ·rw [kN hk.le] at hB
  split at hB
  ·rename_i ck; subst ck; cases hB; exact .inl ⟨rfl, hn 0⟩
  ·exact hs.mem k B hB
 ·have := ng hk.le (.rows 0 e []); dsimp only at fF; omega
 ·dsimp only at hB
  rw [kN hk.le] at hB
  split at hB
  ·rename_i ck; subst ck; exact hn v
  ·exact hs.bW k B hB v hv
end Go.Eng
end

section
namespace Go.Eng
variable [aK]
open Go.RowKit (Below)

def ej (xs : Array Value) (o : Nat) : List Value → Array Value
 | [] => xs
 | v :: r => ej (xs.setIfInBounds o v) (o + 1) r
def cg (cs : List V) (o : Nat) : List V → List V
 | [] => cs
 | v :: r => cg (cs.set o v) (o + 1) r

theorem e9 (vs : List Value) : ∀ (xs : Array Value) (o : Nat), (ej xs o vs).size = xs.size := by
 induction vs with
 | nil => intro xs o; rfl
 | cons v r ih => intro xs o; simp [ej, ih]
theorem rO (vs : List V) : ∀ (cs : List V) (o : Nat), (cg cs o vs).length = cs.length := by
 induction vs with
 | nil => intro cs o; rfl
 | cons v r ih => intro cs o; simp [cg, ih]
theorem qs {E : Env} (vs : List V) : ∀ (ys : List Value) (cs : List V) (xs : Array Value) (o : Nat), aV E vs ys → aV E cs xs.toList → aV E (cg cs o vs) (ej xs o ys).toList := by
 induction vs with
 | nil => intro ys cs xs o h k; have := h.of_nil; subst this; exact k
 | cons v r ih =>
  intro ys cs xs o h k
  obtain ⟨y, ys, rfl, h1, h2⟩ := h.of_cons
  exact ih ys _ _ _ h2 (by simpa using k.set o h1)
theorem ea (vs : List Value) : ∀ (xs : Array Value) (o k : Nat), o + vs.length ≤ xs.size → (ej xs o vs)[k]? = if o ≤ k ∧ k < o + vs.length then vs[k - o]? else xs[k]? := by
 induction vs with
 | nil => intro xs o k _; simp [ej]; intro h1 h2; omega
 | cons v r ih =>
  intro xs o k h
  simp only [List.length_cons] at h
  rw [ej, ih _ _ _ (by simp; omega)]
  by_cases h1 : o + 1 ≤ k ∧ k < o + 1 + r.length
  ·rw [if_pos h1, if_pos ⟨by omega, by simp; omega⟩]
   have : k - o = (k - (o + 1)) + 1 := by omega
   rw [this, List.getElem?_cons_succ]
  ·rw [if_neg h1]
   by_cases h2 : k = o
   ·subst h2
    rw [if_pos ⟨Nat.le_refl _, by simp⟩]
    simp only [Nat.sub_self,List.getElem?_cons_zero]
    rw [Array.getElem?_setIfInBounds_self_of_lt (by omega)]
   ·rw [if_neg (by simp only [List.length_cons]; omega), Array.getElem?_setIfInBounds_ne (fun e => h2 e.symm)]
theorem xP (vs : List V) : ∀ (cs : List V) (o k : Nat), o + vs.length ≤ cs.length → (cg cs o vs)[k]? = if o ≤ k ∧ k < o + vs.length then vs[k - o]? else cs[k]? := by
 induction vs with
 | nil => intro xs o k _; simp [cg]; intro h1 h2; omega
 | cons v r ih =>
  intro xs o k h
  simp only [List.length_cons] at h
  rw [cg, ih _ _ _ (by simp; omega)]
  by_cases h1 : o + 1 ≤ k ∧ k < o + 1 + r.length
  ·rw [if_pos h1, if_pos ⟨by omega, by simp; omega⟩]
   have : k - o = (k - (o + 1)) + 1 := by omega
   rw [this, List.getElem?_cons_succ]
  ·rw [if_neg h1]
   by_cases h2 : k = o
   ·subst h2
    rw [if_pos ⟨Nat.le_refl _, by simp⟩]
    simp only [Nat.sub_self,List.getElem?_cons_zero]
    rw [List.getElem?_set]; simp; omega
   ·rw [if_neg (by simp only [List.length_cons]; omega), List.getElem?_set_ne (fun e => h2 e.symm)]

structure ou (w w' : World) (g : Nat) : Prop where
 os : w'.os = w.os
 tape : w'.tape = w.tape
 output : w'.output = w.output
 size : w'.heap.size = w.heap.size
 heap : ∀ b, b ≠ g → w'.heap[b]? = w.heap[b]?

theorem ek {P : Program} {g : Nat} {T : TypeId} (o : Nat) : ∀ (vs : List Value) (i : Nat) (w : World) (xs : Array Value), w.heap[g]? = some (.cells xs T (0, 0)) → o + i + vs.length ≤ xs.size →
  (∀ v ∈ vs, v.oneCell' = true) → ∃ w', (storeCells ⟨g, o, none⟩ vs i).run P w = .ok () w' ∧ w'.heap[g]? = some (.cells (ej xs (o + i) vs) T (0, 0)) ∧ ou w w' g := by
 intro vs
 induction vs with
 | nil => intro i w xs hh _ _; exact ⟨w, rfl, hh, rfl, rfl, rfl, rfl, fun _ _ => rfl⟩
 | cons v r ih =>
  intro i w xs hh hl h1
  simp only [List.length_cons] at hl
  have hc : w.cell? ⟨g, o + i, none⟩ = some (xs[o + i]'(by omega)) := by rw [gM hh, Array.getElem?_eq_getElem]
  have hf : w.frozen? ⟨g, o + i, none⟩ = false := by simp [World.frozen?, hh]
  have Jx : (w.setCell ⟨g, o + i, none⟩ v).heap[g]? = some (.cells (xs.setIfInBounds (o + i) v) T (0, 0)) := by
   simp [World.setCell, Array.getElem?_modify, hh]
  obtain ⟨w', h2, h3, h4⟩ := ih (i + 1) _ _ Jx (by simp; omega) (fun v hv => h1 v (List.mem_cons_of_mem _ hv))
  refine ⟨w', ?_, by rw [ej]; exact h3, h4.os, h4.tape, h4.output, by rw [h4.size]; simp, fun b hb => (h4.heap b hb).trans (Go.RowKit.Below.heap_setCell w _ v b hb)⟩
  rw [storeCells]
  simp only [Sem.run_bind,add_lit]
  rw [run_store P w _ v .plain (h1 v (List.mem_cons_self ..))]
  simp [stored, hc, hf, h2]

def vZ : V → Bool
 | .sc v => v.oneCell'
 | .undef => false
 | .agg _ => false
 | .ch _ => false
 | _ => true
def fU : V → Option (List V)
 | .agg cs => if cs.all vZ then some cs else none
 | v => if vZ v then some [v] else none

theorem xQ {E : Env} {c : V} {x : Value} (h : a8 E c x) (ho : vZ c = true) : x.oneCell' = true := by
 cases h <;> first | rfl | exact ho | simp [vZ] at ho
theorem kO {E : Env} {v : V} {x : Value} {cs : List V} (h : a8 E v x) (hc : fU v = some cs) : aV E cs x.cells.toList ∧ ∀ y ∈ x.cells.toList, y.oneCell' = true := by
 have key : ∀ (cs : List V) (xs : List Value), aV E cs xs → cs.all vZ = true → ∀ y ∈ xs, y.oneCell' = true := by
  intro cs
  induction cs with
  | nil => intro xs h _ y hy; rw [h.of_nil] at hy; simp at hy
  | cons c r ih =>
   intro xs h ha y hy
   obtain ⟨x, ys, rfl, h1, h2⟩ := h.of_cons
   simp only [List.all_cons,Bool.and_eq_true] at ha
   rcases List.mem_cons.1 hy with rfl | hy
   ·exact xQ h1 ha.1
   ·exact ih ys h2 ha.2 y hy
 unfold fU at hc
 split at hc
 ·split at hc
  ·rename_i nh bp
   simp only [Option.some.injEq] at hc; subst hc
   have := h.cells (by simp) (by simp)
   exact ⟨this, key _ _ this bp⟩
  ·simp at hc
 ·split at hc
  ·rename_i bL jX
   simp only [Option.some.injEq] at hc; subst hc
   have h1 : x.oneCell' = true := xQ h jX
   have hx : x.cells = #[x] := by cases x <;> first | rfl | simp [Value.oneCell'] at h1
   rw [hx]
   exact ⟨.cons h (.nil _), fun y hy => by simp at hy; subst hy; exact h1⟩
  ·simp at hc

theorem bc.v7 {E : Env} {w : World} {a : Act} {st : St} (hs : bc E w a st) {g : Nat} (hf : ∀ o, E.F ⟨g, o, none⟩ = none) {ad : Addr} {x : Value} (hx : E.F ad = some x) : ad.block ≠ g := by
 intro he
 have hc := hs.F ad x hx
 have rm : ad.spot = none := by
  unfold World.cell? at hc
  split at hc
  ·split at hc
   ·simp at hc
   ·rename_i h; cases rm : ad.spot with | none => rfl | some s => simp [rm] at h
  ·simp at hc
 have : ad = ⟨g, ad.off, none⟩ := by cases ad; simp_all
 rw [this, hf] at hx
 cases hx

theorem bc.v8 {E : Env} {w w' : World} {a : Act} {st : St} (hs : bc E w a st) {b g e c : Nat} {B B' : aC} (hm : st.mem[b]? = some B) (hh : B.held = true) (Q9 : B'.bW = B.bW) (hb : E.aM b B.bW = some (g, e, c)) (hf : ∀ o, E.F ⟨g, o, none⟩ = none)
  (ho : ou w w' g) (hB : iP E w' b B') : bc E w' a { st with mem := st.mem.set b B' } ∧ dO E w E w' := by
 have aL : b < st.mem.length := (List.getElem?_eq_some_iff.1 hm).1
 refine ⟨⟨fun ad x hx => ?_, fun k v g' e' c' hk => by rw [ho.size]; exact hs.lt _ _ _ _ _ hk, fun k B1 hk => ?_, fun k hk => hs.top k (by simpa using hk), fun k B1 hk v hv => ?_, hs.apart, hs.fr⟩,
  E.le_refl, fun k v g e c h => .inl ⟨k, v, e, c, h⟩, fun _ _ h => .inl h, ho.os, ho.tape, ho.output, by rw [ho.size]; exact Nat.le_refl _, fun b' dt bL => ho.heap b' fun e => by subst e; exact bL _ _ _ _ hb⟩
 ·have bL := hs.v7 hf hx
  have : w'.heap[ad.block]? = w.heap[ad.block]? := ho.heap _ bL
  rw [← hs.F ad x hx]; simp [World.cell?, this]
 ·rw [List.getElem?_set] at hk
  by_cases eQ : b = k
  ·subst eQ; simp only [if_true,aL] at hk; cases hk; exact hB
  ·rw [if_neg eQ] at hk
   cases An : B1.held with
   | false => cases B1 <;> first | exact hs.mem k _ hk | trivial | simp [aC.held] at An
   | true =>
    refine (hs.mem k B1 hk).mono E.le_refl (fun _ h => h) (fun g' e' c' fh => ho.heap _ fun e => ?_) fun _ _ _ _ _ h => h
    subst e
    exact eQ (hs.apart _ _ _ _ _ _ _ _ _ hb fh)
 ·dsimp only at hk
  rw [List.getElem?_set] at hk
  by_cases YD : b = k
  ·subst YD; simp only [if_true,aL] at hk; cases hk; exact hs.bW b B hm v (by omega)
  ·rw [if_neg YD] at hk; exact hs.bW k B1 hk v hv

def gY : V → Bool
 | .gn => true
 | .sc _ => true
 | .slice _ => true
 | .cn _ => true
 | .undef => true
 | _ => false
theorem wa {E : Env} {v : V} {x : Value} (h : a8 E v x) (hp : gY v = true) : a8 E.pure v x := by
 cases h with
 | undef => exact .undef _ _
 | gn => exact .gn _
 | sc => exact .sc _ _
 | slice _ rows a cap nB ad xf ha iS hz hF h1 hR => exact .slice _ _ _ _ nB ad xf ha iS hz hF h1 hR
 | cn _ cs ad xf hF hR => exact .cn _ _ _ xf hF hR
 | _ => simp [gY] at hp

def setRow (row : V) (o : Nat) (new : List V) : V :=
 match row with
 | .agg cs => .agg (cg cs o new)
 | r => match o, new with
  | 0, [c] => c
  | _, _ => r

theorem wb {row : V} {o : Nat} {new : List V} (ho : o + new.length ≤ row.cells.length) (jX : new.all vZ = true) (bL : new ≠ []) : (setRow row o new).cells = cg row.cells o new := by
 cases row with
 | agg cs => rfl
 | _ =>
  simp only [V.cells,List.length_cons,List.length_nil] at ho ⊢
  match new, bL with
  | [c], _ =>
   obtain rfl : o = 0 := by simp at ho; omega
   simp only [List.all_cons,List.all_nil,Bool.and_true] at jX
   cases c <;> first | rfl | simp [vZ] at jX
  | _ :: _ :: _, _ => simp at ho; omega

def iC (tt : Table) (mem : List aC) (T : TypeId) (p v : V) : Option (List aC) :=
 match fU v with
 | none => none
 | some new =>
  if jG tt T = some new.length then
   match p with
   | .ptr b o => match mem[b]? with
    | some (.box cs) => if o + new.length ≤ cs.length then some (mem.set b (.box (cg cs o new))) else none
    | _ => none
   | .dw b v i o => match mem[b]? with
    | some (.rows v' e rs) => match rs[i]? with
     | some row => if v' = v ∧ o + new.length ≤ row.cells.length ∧ new ≠ [] ∧ new.all gY = true ∧ new.all vZ = true then some (mem.set b (.rows v' e (rs.set i (setRow row o new)))) else none
     | none => none
    | _ => none
   | _ => none
  else none
instance (new : List V) : Decidable (new ≠ []) := match new with | [] => .isFalse (by simp) | _ :: _ => .isTrue (by simp)

theorem aV.pure {E : Env} : ∀ {vs : List V} {xs : List Value}, aV E vs xs → vs.all gY = true → aV E.pure vs xs
 | [], xs, h, _ => by rw [h.of_nil]; exact .nil _
 | v :: vs, xs, h, hp => by
  obtain ⟨x, ys, rfl, h1, h2⟩ := h.of_cons
  simp only [List.all_cons,Bool.and_eq_true] at hp
  exact .cons (wa h1 hp.1) (aV.pure h2 hp.2)

theorem ov {P : Program} {tt : Table} (ht : TT P tt) {E : Env} {w : World} {a : Act} {st : St} (hs : bc E w a st) {T : TypeId} {p v : V} {x y : Value} {aF : List aC} (hp : a8 E p x) (hv : a8 E v y)
  (h : iC tt st.mem T p v = some aF) : ∃ w', (Instr.storeAt T x y).run P w = .ok () w' ∧ bc E w' a { st with mem := aF } ∧ dO E w E w' := by
 unfold iC at h
 split at h
 ·simp at h
 ·rename_i new gZ
  obtain ⟨hr, jX⟩ := kO hv gZ
  split at h
  ·rename_i jW
   have hlen : y.cells.size = new.length := by have := hr.1; simp at this; exact this.symm
   have di : ∀ {g o : Nat} {xs : Array Value} {T' : TypeId}, w.heap[g]? = some (.cells xs T' (0, 0)) → o + new.length ≤ xs.size →
     ∃ w', (Instr.storeAt T (.pointer (some ⟨g, o, none⟩)) y).run P w = .ok () w' ∧ w'.heap[g]? = some (.cells (ej xs o y.cells.toList) T' (0, 0)) ∧ ou w w' g := fun {g o xs T'} hh hle => by
    obtain ⟨w', h1, h2, h3⟩ := ek (P := P) o y.cells.toList 0 w xs hh (by have := hr.1; simp at this ⊢; omega) jX
    refine ⟨w', ?_, by simpa using h2, h3⟩
    unfold jG at jW
    split at jW
    ·rename_i i hi
     simp only [Option.some.injEq] at jW
     simp only [Instr.storeAt,Instr.sureAddr,Sem.run_bind,Sem.run_pure,Result.andThen_ok,storeVar,ht.sizeOf hi,hlen,jW,ne_eq,not_true_eq_false,if_false]
     exact h1
    ·simp at jW
   split at h
   ·rename_i b o
    split at h
    ·rename_i cs hm
     split at h
     ·rename_i hle
      simp only [Option.some.injEq] at h; subst h
      cases hp with
      | ptr _ _ _ g e c hb =>
       obtain ⟨g', T', xs, dt, hh, uE, hf⟩ := hs.mem b _ hm
       rw [hb] at dt; cases dt
       obtain ⟨w', h1, h2, h3⟩ := di (o := o) hh (by have := uE.1; simp at this; omega)
       exact ⟨w', h1, hs.v8 hm rfl rfl hb hf h3 ⟨g, T', _, hb, h2, qs _ _ _ _ _ hr uE, hf⟩⟩
     ·simp at h
    ·simp at h
   ·rename_i b vv i o
    split at h
    ·rename_i v' e rs hm
     split at h
     ·rename_i row pF
      split at h
      ·rename_i ow
       obtain ⟨rfl, hle, bL, uF, Ra⟩ := ow
       simp only [Option.some.injEq] at h; subst h
       cases hp with
       | dw _ _ _ _ _ g e' c hb =>
        rcases hs.mem b _ hm with ⟨rfl, -⟩ | ⟨g', T', xs, c', dt, hh, kG, gj, uE, hf⟩
        ·simp at pF
        rw [hb] at dt; cases dt
        obtain ⟨CH, Vs⟩ := uE i row pF
        have hi : i < rs.length := (List.getElem?_eq_some_iff.1 pF).1
        have hmul : i * e + e ≤ xs.size := by
         rw [kG, ← Nat.succ_mul]; exact Nat.mul_le_mul_right e (by omega)
        obtain ⟨w', h1, h2, h3⟩ := di (o := i * e + o) hh (by omega)
        refine ⟨w', h1, hs.v8 hm rfl rfl hb hf h3 (.inr ⟨g, T', _, c, hb, h2, by rw [e9]; exact kG, by simpa using gj, ?_, hf⟩)⟩
        have Ni : y.cells.toList.length = new.length := hr.1.symm
        intro i' Vt xR
        rw [List.getElem?_set] at xR
        by_cases od : i = i'
        ·subst od
         simp only [if_true,hi] at xR
         cases xR
         have hc := wb hle Ra bL
         refine ⟨by rw [hc, rO]; exact CH, fun j cc hj => ?_⟩
         rw [hc, xP _ _ _ _ hle] at hj
         dsimp only
         rw [ea _ _ _ _ (by rw [Ni]; omega), Ni]
         by_cases jg : o ≤ j ∧ j < o + new.length
         ·rw [if_pos jg] at hj
          rw [if_pos ⟨by omega, by omega⟩]
          obtain ⟨z, hz, Vu⟩ := (hr.pure uF).get hj
          exact ⟨z, by rw [← hz]; congr 1; omega, jX z (List.mem_of_getElem? hz), Vu⟩
         ·rw [if_neg jg] at hj
          rw [if_neg (by omega)]
          exact Vs j cc hj
        ·rw [if_neg od] at xR
         obtain ⟨h5, h6⟩ := uE i' Vt xR
         refine ⟨h5, fun j cc hj => ?_⟩
         obtain ⟨z, hz, Qp, Vu⟩ := h6 j cc hj
         have rk : j < e := by rw [← h5]; exact (List.getElem?_eq_some_iff.1 hj).1
         refine ⟨z, ?_, Qp, Vu⟩
         dsimp only
         rw [ea _ _ _ _ (by rw [Ni]; omega), Ni, if_neg ?_]
         ·exact hz
         ·intro jg
          rcases Nat.lt_or_gt_of_ne od with aL | ZS
          ·have : (i + 1) * e ≤ i' * e := Nat.mul_le_mul_right e aL
           rw [Nat.succ_mul] at this
           omega
          ·have : (i' + 1) * e ≤ i * e := Nat.mul_le_mul_right e ZS
           rw [Nat.succ_mul] at this
           omega
      ·simp at h
     ·simp at h
    ·simp at h
   ·simp at h
  ·simp at h
end Go.Eng
end

section
namespace Go.Eng
variable [aK]
open Go.RowKit (Below)

def qt (E : Env) (e : Nat) (rs : List V) (ys : Array Value) : Prop := ys.size = rs.length * e ∧ fS E e rs (fun o => ys[o]?)

theorem rP {i n j e : Nat} (hi : i < n) (hj : j < e) : i * e + j < n * e := by
 have : (i + 1) * e ≤ n * e := Nat.mul_le_mul_right e hi
 rw [Nat.succ_mul] at this; omega

theorem uG {P : Program} {E : Env} {w : World} {ad : Addr} {rows : List V} {size : Nat} (hz : ∀ (i : Nat) (row : V), rows[i]? = some row → row.cells.length = size)
  (h : ∀ (i : Nat) (row : V) (j : Nat) (c : V), rows[i]? = some row → row.cells[j]? = some c → ∃ x, w.cell? (ad.add (i * size + j)) = some x ∧ x.oneCell' = true ∧ a8 E c x) :
  ∃ ys : Array Value, (loadCells ad (rows.length * size)).run P w = .ok ys w ∧ qt E size rows ys := by
 let f : Nat → Value := fun k => (w.cell? (ad.add k)).getD default
 have hf : ∀ k, k < rows.length * size → w.cell? (ad.add k) = some (f k) := fun k hk => by
  have hs : 0 < size := Nat.pos_of_ne_zero fun e => by subst e; simp at hk
  have hi : k / size < rows.length := by rwa [Nat.div_lt_iff_lt_mul hs]
  have hj : k % size < size := Nat.mod_lt _ hs
  have pF := List.getElem?_eq_getElem hi
  have gj := hz _ _ pF
  obtain ⟨x, hx, -⟩ := h _ _ (k % size) _ pF (List.getElem?_eq_getElem (by rw [gj]; exact hj))
  rw [Nat.mul_comm, Nat.div_add_mod] at hx
  simp [f, hx]
 refine ⟨((List.range (rows.length * size)).map f).toArray, run_loadCells w ad _ f hf, by simp, fun i row hi => ⟨hz i row hi, fun j c hj => ?_⟩⟩
 obtain ⟨x, hx, h1, hr⟩ := h i row j c hi hj
 have ZT : i < rows.length := (List.getElem?_eq_some_iff.1 hi).1
 have rk : j < size := by rw [← hz i row hi]; exact (List.getElem?_eq_some_iff.1 hj).1
 refine ⟨x, ?_, h1, hr⟩
 have := rP ZT rk
 simp [this, f, hx]

def rowsOf (mem : List aC) (size : Nat) : V → Option (List V)
 | .slice rows => if cd rows 0 size = true then some rows else none
 | .ms b v s l => match mem[b]? with
  | some (.rows v' e rs) => if v' = v ∧ e = size ∧ s + l ≤ rs.length then some ((rs.drop s).take l) else none
  | some (.pB v' e rs) => if v' = v ∧ e = size ∧ s + l ≤ rs.length then some ((rs.drop s).take l) else none
  | _ => none
 | .sc (.slice none 0 0) => some []
 | _ => none

theorem ru {rs : List V} {s l i : Nat} {row : V} (h : ((rs.drop s).take l)[i]? = some row) : rs[s + i]? = some row := by
 rw [List.getElem?_take] at h
 split at h
 ·simpa using h
 ·simp at h

theorem eo {P : Program} {E : Env} {w : World} {a : Act} {st : St} (hs : bc E w a st) {size : Nat} {v : V} {x : Value} {rows : List V} (hr : a8 E v x) (h : rowsOf st.mem size v = some rows) :
  ∃ aa cap, x = .slice aa rows.length cap ∧ rows.length ≤ cap ∧ ∃ ys : Array Value, (Builtin.firstCells size rows.length x).run P w = .ok ys w ∧ qt E.pure size rows ys := by
 have we : ∀ n, n = 0 → ∃ ys : Array Value, (Builtin.firstCells size n (.slice none n 0)).run P w = .ok ys w ∧ qt E.pure size [] ys := fun n hn => by
  subst hn
  exact ⟨#[], rfl, by simp, fun i row hi => by simp at hi⟩
 unfold rowsOf at h
 split at h
 ·rename_i ji
  split at h
  ·rename_i lO
   simp only [Option.some.injEq] at h; subst h
   cases hr with
   | slice _ _ aa cap nB ad xf ha iS hz hF jX hR =>
    refine ⟨aa, cap, rfl, iS, ?_⟩
    cases eD : ji with
    | nil =>
     subst eD
     cases aa with
     | none => exact we 0 rfl
     | some a0 => exact ⟨#[], by simp [Builtin.firstCells, loadCells, loadCellsFrom], by simp, fun i row hi => by simp at hi⟩
    | cons r0 rr =>
     have bL : ji ≠ [] := by simp [eD]
     have he : nB = size := by
      unfold cd at lO
      have h0 : ji[0]? = some r0 := by simp [eD]
      rw [h0] at lO
      simp only [beq_iff_eq] at lO
      rw [← lO, hz 0 _ h0]
     subst he
     obtain rfl := ha bL
     rw [← eD]
     exact uG (P := P) hz fun i row j c hi hj => ⟨_, hs.F _ _ (hF i row j c hi hj), jX i row j c hi hj, hR i row j c hi hj⟩
  ·simp at h
 ·rename_i b v s l
  have D4 : ∀ (rs : List V), s + l ≤ rs.length → rows = (rs.drop s).take l → (∀ g e c, E.aM b v = some (g, e, c) → e = size ∧ fS E.pure size rs (fun o => w.cell? ⟨g, o, none⟩)) →
    ∃ aa cap, x = .slice aa rows.length cap ∧ rows.length ≤ cap ∧ ∃ ys : Array Value, (Builtin.firstCells size rows.length x).run P w = .ok ys w ∧ qt E.pure size rows ys := by
   intro rs hl eD hb
   have hlen : rows.length = l := by rw [eD]; simp; omega
   cases hr with
   | dg =>
    have : rows = [] := List.length_eq_zero_iff.1 hlen
    subst this
    exact ⟨none, 0, rfl, Nat.le_refl _, we 0 rfl⟩
   | ms _ _ _ _ _ g e c aa cap fh Jv Jt CE =>
    obtain ⟨rfl, Rb⟩ := hb g e c fh
    rw [← hlen]
    refine ⟨aa, cap, rfl, by omega, ?_⟩
    by_cases D3 : 0 < l
    ·obtain rfl := Jv D3
     refine uG (P := P) (fun i row hi => ?_) fun i row j c hi hj => ?_
     ·rw [eD] at hi; exact (Rb _ _ (ru hi)).1
     ·rw [eD] at hi
      obtain ⟨x, hx, h1, h2⟩ := (Rb _ _ (ru hi)).2 j c hj
      exact ⟨x, by rw [add_lit, ← hx]; congr 2; rw [Nat.add_mul]; omega, h1, h2⟩
    ·have : rows = [] := List.length_eq_zero_iff.1 (by omega)
     subst this
     cases aa with
     | none => exact ⟨#[], rfl, by simp, fun i row hi => by simp at hi⟩
     | some a0 => exact ⟨#[], by simp [Builtin.firstCells, loadCells, loadCellsFrom], by simp, fun i row hi => by simp at hi⟩
  split at h
  ·rename_i v' e rs hm
   split at h
   ·rename_i hc
    obtain ⟨rfl, hc⟩ := hc
    simp only [Option.some.injEq] at h
    refine D4 rs hc.2 h.symm fun g e' c hb => ?_
    rcases hs.mem b _ hm with ⟨-, hn⟩ | ⟨g', T', xs, c', dt, hh, -, -, uE, -⟩
    ·rw [hb] at hn; cases hn
    ·rw [hb] at dt; cases dt
     refine ⟨hc.1, ?_⟩
     rw [hc.1] at uE
     intro i row hi
     obtain ⟨h1, h2⟩ := uE i row hi
     exact ⟨h1, fun j c hj => by dsimp only; rw [gM hh]; exact h2 j c hj⟩
   ·simp at h
  ·rename_i v' e rs hm
   split at h
   ·rename_i hc
    obtain ⟨rfl, hc⟩ := hc
    simp only [Option.some.injEq] at h
    refine D4 rs hc.2 h.symm fun g e' c hb => ?_
    rcases hs.mem b _ hm with ⟨-, hn⟩ | ⟨g', c', dt, -, uE⟩
    ·rw [hb] at hn; cases hn
    rw [hb] at dt; cases dt
    refine ⟨hc.1, ?_⟩
    rw [hc.1] at uE
    intro i row hi
    obtain ⟨h1, h2⟩ := uE i row hi
    exact ⟨h1, fun j c hj => let ⟨x, hx, h⟩ := h2 j c hj; ⟨x, hs.F _ _ hx, h⟩⟩
   ·simp at h
  ·simp at h
 ·simp only [Option.some.injEq] at h; subst h
  obtain rfl := bS hr
  exact ⟨none, 0, rfl, Nat.le_refl _, we 0 rfl⟩
 ·simp at h

def kP : V → V
 | .sc (.slice none 0 0) => .slice []
 | v => v
theorem ox {E : Env} {v : V} {x : Value} (h : a8 E v x) : a8 E (kP v) x := by
 unfold kP
 split
 ·obtain rfl := bS h
  exact .slice _ [] none 0 0 default (fun _ _ => default) (by simp) (by simp) (by simp) (by simp) (by simp) (by simp)
 ·exact h
def JR : V → V
 | .agg cs => .agg (cs.map kP)
 | v => kP v
theorem AH {v : V} {cs : List V} (h : fU v = some cs) : (JR v).cells = cs.map kP := by
 unfold fU at h
 split at h
 ·split at h
  ·simp only [Option.some.injEq] at h; subst h; rfl
  ·simp at h
 ·rename_i bL
  split at h
  ·simp only [Option.some.injEq] at h; subst h
   cases v <;> first | exact absurd rfl (bL _) | rfl | skip
   rename_i v
   simp only [JR,kP,List.map_cons,List.map_nil]
   split <;> rfl
  ·simp at h
theorem aV.kP {E : Env} : ∀ {vs : List V} {xs : List Value}, aV E vs xs → aV E (vs.map kP) xs
 | [], xs, h => h
 | v :: vs, xs, h => by
  obtain ⟨x, ys, rfl, h1, h2⟩ := h.of_cons
  exact .cons (ox h1) (aV.kP h2)

def mG (size : Nat) : List V → Option (List V)
 | [] => some []
 | v :: r => match fU v with
  | some cs => if cs.length = size ∧ cs.all gY = true then (match mG size r with | some rs => some (JR v :: rs) | none => none) else none
  | none => none

def lP : Nat → List (Nat × Operand) → Bool
 | _, [] => true
 | k, (i, _) :: r => i == k && lP (k + 1) r

theorem qu (off : Nat) : ∀ (l : List Value) (n : Nat) (cs : Array Value), (l.zipIdx n).foldl (fun cs (x : Value × Nat) => cs.setIfInBounds (off + x.2) x.1) cs = ej cs (off + n) l := by
 intro l
 induction l with
 | nil => intro n cs; rfl
 | cons v r ih => intro n cs; rw [List.zipIdx_cons, List.foldl_cons, ih, ej, Nat.add_assoc]

theorem Gi {E : Env} {size : Nat} : ∀ (parts : List (Nat × Operand)) (k : Nat) (ev : Operand → V) (av : Operand → Value) (Z : Array Value) (rs : List V), (∀ p ∈ parts, a8 E (ev p.2) (av p.2)) → lP k parts = true →
  mG size (parts.map fun p => ev p.2) = some rs → (k + parts.length) * size ≤ Z.size →
  ∃ Z', Instr.fill (fun i => some (i * size, size)) Z (parts.map fun p => (p.1, av p.2)) = some Z' ∧ Z'.size = Z.size ∧ rs.length = parts.length ∧ (∀ o, o < k * size → Z'[o]? = Z[o]?) ∧
   fS E.pure size rs (fun o => Z'[k * size + o]?) := by
 intro parts
 induction parts with
 | nil =>
  intro k ev av Z rs _ _ hl _
  simp only [List.map_nil,mG,Option.some.injEq] at hl; subst hl
  exact ⟨Z, rfl, rfl, rfl, fun _ _ => rfl, fun i row hi => by simp at hi⟩
 | cons p r ih =>
  intro k ev av Z rs mY D5 hl jW
  obtain ⟨i, o⟩ := p
  simp only [lP,Bool.and_eq_true,beq_iff_eq] at D5
  obtain ⟨rfl, D5⟩ := D5
  simp only [List.map_cons,mG] at hl
  split at hl
  ·rename_i cs pC
   split at hl
   ·rename_i hc
    split at hl
    ·rename_i rs' Nj
     simp only [Option.some.injEq] at hl; subst hl
     obtain ⟨hr, jX⟩ := kO (mY (i, o) (List.mem_cons_self ..)) pC
     have ni : (av o).cells.size = size := by have := hr.1; simp at this; omega
     simp only [List.length_cons] at jW
     have hmul : i * size + size ≤ Z.size := by
      have : (i + 1) * size ≤ (i + (r.length + 1)) * size := Nat.mul_le_mul_right _ (by omega)
      rw [Nat.succ_mul] at this; omega
     obtain ⟨Z', h1, h2, h3, h4, h5⟩ := ih (i + 1) ev av (ej Z (i * size) (av o).cells.toList) rs' (fun p hp => mY p (List.mem_cons_of_mem _ hp)) D5 Nj (by rw [e9]; rw [show i + 1 + r.length = i + (r.length + 1) from by omega]; exact jW)
     have hlen : (av o).cells.toList.length = size := by simpa using ni
     have rm : ∀ q, (ej Z (i * size) (av o).cells.toList)[q]? = if i * size ≤ q ∧ q < i * size + size then (av o).cells.toList[q - i * size]? else Z[q]? := fun q => by
      rw [ea _ _ _ _ (by rw [hlen]; exact hmul), hlen]
     refine ⟨Z', ?_, by rw [h2, e9], by simp [h3], fun q hq => ?_, fun q row hq => ?_⟩
     ·simp only [List.map_cons,Instr.fill,ni]
      rw [if_neg (by simp; omega)]
      rw [← h1]
      congr 1
      rw [← Array.foldl_toList, Array.toList_zipIdx]
      exact qu (i * size) (av o).cells.toList 0 Z
     ·rw [h4 q (by rw [Nat.succ_mul]; omega), rm, if_neg (by omega)]
     ·cases q with
      | zero =>
       simp only [List.getElem?_cons_zero,Option.some.injEq] at hq; subst hq
       rw [AH pC]
       refine ⟨by simpa using hc.1, fun j c hj => ?_⟩
       have rk : j < size := by rw [← hc.1]; simpa using (List.getElem?_eq_some_iff.1 hj).1
       obtain ⟨x, hx, Ge⟩ := (hr.pure hc.2).kP.get hj
       refine ⟨x, ?_, jX x (List.mem_of_getElem? hx), Ge⟩
       dsimp only
       rw [Nat.zero_mul, Nat.zero_add, h4 _ (by rw [Nat.succ_mul]; omega), rm, if_pos ⟨by omega, by omega⟩, ← hx]
       congr 1; omega
      | succ q =>
       simp only [List.getElem?_cons_succ] at hq
       obtain ⟨h6, h7⟩ := h5 q row hq
       refine ⟨h6, fun j c hj => ?_⟩
       obtain ⟨x, hx, ua, Ge⟩ := h7 j c hj
       refine ⟨x, ?_, ua, Ge⟩
       dsimp only at hx ⊢
       rw [← hx]
       congr 1
       rw [Nat.succ_mul, Nat.succ_mul]; omega
    ·simp at hl
   ·simp at hl
  ·simp at hl

def pH (tt : Table) (T : TypeId) (len : Nat) (parts : List (Nat × Operand)) (ev : Operand → V) : Option (Nat × List V) :=
 match dT tt T with
 | some e => match jG tt e with
  | some size => if lP 0 parts = true ∧ parts.length = len ∧ len * size ≤ 65536 then (match mG size (parts.map fun p => ev p.2) with | some rs => some (size, rs) | none => none) else none
  | none => none
 | none => none

theorem wg {P : Program} {tt : Table} (ht : TT P tt) {E : Env} {w : World} {a : Act} {ev : Operand → V} {T : TypeId} {len size : Nat} {parts : Array (Nat × Operand)} {rs : List V} (dX : ∀ p ∈ parts.toList, a8 E (ev p.2) (a.eval p.2))
  (h : pH tt T len parts.toList ev = some (size, rs)) :
  ∃ (Z : Array Value) (e : TypeId), (Instr.buildSlice T len (parts.map fun (i, x) => (i, a.eval x))).run P w = .ok (.slice (some ⟨w.heap.size, 0, none⟩) len len) (w.alloc (.cells Z e (0, 0))) ∧ Z.size = len * size ∧ rs.length = len ∧ fS E.pure size rs (fun o => Z[o]?) := by
 unfold pH dT jG at h
 cases hT : tt T with
 | none => rw [hT] at h; simp at h
 | some iT =>
  rw [hT] at h; simp only at h
  cases he : iT.elem with
  | none => rw [he] at h; simp at h
  | some e =>
   rw [he] at h; simp only at h
   cases hE : tt e with
   | none => rw [hE] at h; simp at h
   | some ie =>
    rw [hE] at h; simp only at h
    split at h
    ·rename_i hc
     obtain ⟨D5, hlen, ZU⟩ := hc
     split at h
     ·rename_i rs' Gj
      simp only [Option.some.injEq,Prod.mk.injEq] at h
      obtain ⟨rfl, rfl⟩ := h
      obtain ⟨d, hd, -, qp, -⟩ := ht.desc T iT hT
      obtain rfl := qp e he
      obtain ⟨info, oe, JS, -, z, hz, xS⟩ := ht.size e ie hE
      have hzero : ∀ w' : World, (zeroValue e).run P w' = .ok z w' := fun w' => by simp [zeroValue, cy oe, hz]
      obtain ⟨zc, Uz⟩ : ∃ zc : Array Value, zc = if len * ie.size = 0 then #[] else z.cells := ⟨_, rfl⟩
      obtain ⟨Z', h1, h2, h3, -, h5⟩ := Gi (size := ie.size) parts.toList 0 ev a.eval ((Array.range (len * ie.size)).map (zc[· % zc.size]!)) rs' dX D5 Gj (by simp [hlen])
      refine ⟨Z', e, ?_, by simpa using h2, by omega, by simpa using h5⟩
      have nE : (parts.map fun (i, x) => (i, a.eval x)).toList = parts.toList.map fun p => (p.1, a.eval p.2) := by simp
      unfold Instr.buildSlice
      simp only [Sem.run_bind,ao hd,Result.andThen_ok,ht.sizeOf hE]
      rw [if_neg (by omega)]
      by_cases h0 : len * ie.size = 0
      ·simp only [h0,if_true,Sem.run_pure,Result.andThen_ok,nE]
       rw [if_pos h0] at Uz
       subst Uz
       rw [h0] at h1
       simp only [Sem.run_bind,Sem.run_pure,Result.andThen_ok,nE]
       simp only [h1]
       simp [newRow]
      ·simp only [h0,if_false,Sem.run_bind,hzero,Sem.run_pure,Result.andThen_ok,nE]
       rw [if_neg h0] at Uz
       subst Uz
       simp only [h1]
       simp [newRow]
     ·simp at h
    ·simp at h
end Go.Eng
end

section
namespace Go.Eng
variable [aK]
open Go.RowKit (Below)

section
variable {P : Program} {w : World}
theorem rQ {t u ty e e' : TypeId} {i : TypeInfo} (ht : P.underlying t = some (.slice e)) (hu : P.underlying u = some (.slice e')) (hi : P.info? e = some i) (g lA eE n c : Nat) (aa : Option Addr) (news : Array Value)
  (hf : (Builtin.firstCells i.size n (.slice aa n c)).run P w = .ok news w) (oy : lA + n ≤ eE) {w' : World} (ob : (storeCells ⟨g, lA * i.size, none⟩ news.toList).run P w = .ok () w') :
  (Builtin.append_ #[t, u] ty #[.slice (some ⟨g, 0, none⟩) lA eE, .slice aa n c]).run P w = .ok (.slice (some ⟨g, 0, none⟩) (lA + n) eE) w' := by
 simp [Builtin.append_, ao ht, ao hu, dE hi, Builtin.lenOf, oy, hf, add_lit, ob]

theorem eT {t u ty e e' : TypeId} {i : TypeInfo} (ht : P.underlying t = some (.slice e)) (hu : P.underlying u = some (.slice e')) (hi : P.info? e = some i) (c : Nat) (aa : Option Addr) (news : Array Value)
  (hf : (Builtin.firstCells i.size 0 (.slice aa 0 c)).run P w = .ok news w) :
  (Builtin.append_ #[t, u] ty #[.slice none 0 0, .slice aa 0 c]).run P w = .ok (.slice none 0 0) w := by
 simp [Builtin.append_, ao ht, ao hu, dE hi, Builtin.lenOf, hf]

theorem fX {t u ty e e' : TypeId} {i : TypeInfo} {z : Value} (ht : P.underlying t = some (.slice e)) (hu : P.underlying u = some (.slice e')) (hi : P.info? e = some i) (hz : i.zero = some z) (base : Option Addr) (lA eE n c : Nat)
  (aa : Option Addr) (Rc news : Array Value) (Re : (Builtin.firstCells i.size lA (.slice base lA eE)).run P w.drew = .ok Rc w.drew) (hf : (Builtin.firstCells i.size n (.slice aa n c)).run P w.drew = .ok news w.drew)
  (hg : eE < lA + n) (h63 : ((lA + n : Nat) : Int) ≤ 9223372036854775807) (xT : Builtin.nextslicecap (lA + n) eE * i.bytes ≤ 281474976710656) :
  (Builtin.append_ #[t, u] ty #[.slice base lA eE, .slice aa n c]).run P w =
   .ok (.slice (some ⟨w.heap.size, 0, none⟩) (lA + n) (grownCap w (lA + n) eE e))
    (w.drew.alloc (.cells (Rc ++ news ++ Builtin.zeroCells z.cells (grownCap w (lA + n) eE e - (lA + n))) e)) := by
 have hn : ¬ (lA + n ≤ eE) := by omega
 have Vv : ¬ (9223372036854775807 < ((lA : Int) + (n : Int))) := by omega
 have Vw : ¬ (281474976710656 < Builtin.nextslicecap (lA + n) eE * i.bytes) := by omega
 simp [Builtin.append_, ao ht, ao hu, cy hi, dE hi, zeroValue, hz, Builtin.lenOf, hn, Vv, Vw, Question.forced, hf, Re, newRow, grownCap]
end

def lQ (mem : List aC) (size : Nat) : V → Option (Option (Nat × Nat) × List V)
 | .sc (.slice none 0 0) => some (none, [])
 | .full rows => if cd rows 0 size = true then some (none, rows) else none
 | .ms b v 0 l => match mem[b]? with
  | some (.rows v' e rs) => if v' = v ∧ e = size ∧ rs.length = l then some (some (b, v), rs) else none
  | _ => none
 | _ => none

def xU : V → List V → Bool
 | .full _, [] => false
 | _, _ => true
theorem Gk (b v s l : Nat) (xs : List V) : xU (.ms b v s l) xs = true := rfl
theorem Gm (v : Value) (xs : List V) : xU (.sc v) xs = true := rfl
theorem AI (v x : V) (xs : List V) : xU v (x :: xs) = true := by cases v <;> rfl
def dS (tt : Table) (mem : List aC) (ts : List TypeId) (s x : V) : Option (Nat × Option (Nat × Nat) × List V) :=
 match ts with
 | [t, u] => match tt t with
  | some it => match it.elem with
   | some e => match dT tt u with
    | some _ => match tt e with
     | some i =>
      if 0 < i.size ∧ i.bytes ≤ 4096 ∧ i.zero.length = i.size then
       match lQ mem i.size s with
       | some (ka, rs) => match rowsOf mem i.size x with
        | some xs => if rs.length + xs.length ≤ 34359738368 then (if xU s xs = true then some (i.size, ka, rs ++ xs) else none) else none
        | none => none
       | none => none
      else none
     | none => none
    | none => none
   | none => none
  | none => none
 | _ => none

def cK (mem : List aC) (key size : Nat) (rows : List V) : Option (Nat × Nat) → List aC × V
 | none => (bj mem key (.rows 0 size rows), .ms key 0 0 rows.length)
 | some (b, v) => (mem.set b (.rows (v + 1) size rows), .ms b (v + 1) 0 rows.length)

theorem bc.renew {E : Env} {w w' : World} {a : Act} {st : St} (hs : bc E w a st) {b v e0 g e c : Nat} {rs rows : List V} (hm : st.mem[b]? = some (.rows v e0 rs)) (hF : ∀ ad x, E.F ad = some x → w'.cell? ad = some x) (jW : w.heap.size ≤ w'.heap.size)
  (hg : g < w'.heap.size) (rR : ∀ k B', k ≠ b → st.mem[k]? = some B' → B'.held = true → ∀ g' e' c', E.aM k B'.bW = some (g', e', c') → w'.heap[g']? = w.heap[g']? ∧ g' ≠ g)
  (hB : iP (E.with b (v + 1) (g, e, c)) w' b (.rows (v + 1) e rows)) (L2 : ∀ k v' e' c', E.aM k v' = some (g, e', c') → k = b) : bc (E.with b (v + 1) (g, e, c)) w' a { st with mem := st.mem.set b (.rows (v + 1) e rows) } := by
 have hn : ∀ v', v < v' → E.aM b v' = none := fun v' rI => hs.bW b _ hm v' rI
 have hle : E.le (E.with b (v + 1) (g, e, c)) := Env.gO (hn _ (Nat.lt_succ_self v)) _
 have cp : (E.with b (v + 1) (g, e, c)).aM b (v + 1) = some (g, e, c) := if_pos ⟨rfl, rfl⟩
 have hblk : ∀ k v', ¬ (k = b ∧ v' = v + 1) → (E.with b (v + 1) (g, e, c)).aM k v' = E.aM k v' := fun k v' bL => if_neg bL
 have Jw : ∀ k v', k ≠ b → (E.with b (v + 1) (g, e, c)).aM k v' = E.aM k v' := fun k v' bL => hblk k v' fun h => bL h.1
 have aL : b < st.mem.length := (List.getElem?_eq_some_iff.1 hm).1
 have eC : ∀ (k : Nat) (B : aC), (st.mem.set b (.rows (v + 1) e rows))[k]? = some B → (k = b ∧ B = .rows (v + 1) e rows) ∨ (k ≠ b ∧ st.mem[k]? = some B) := fun k B hk => by
  rw [List.getElem?_set] at hk
  by_cases eQ : b = k
  ·subst eQ; simp only [if_true,aL] at hk; cases hk; exact .inl ⟨rfl, rfl⟩
  ·rw [if_neg eQ] at hk; exact .inr ⟨fun e => eQ e.symm, hk⟩
 refine ⟨hF, fun k v' g' e' c' hb => ?_, fun k B hk => ?_, fun k hk v' => ?_, fun k B hk v' rI => ?_, fun k k' v1 v2 g' e1 c1 e2 c2 h5 h6 => ?_, hs.fr.mono hle⟩
 ·by_cases hq : k = b ∧ v' = v + 1
  ·obtain ⟨rfl, rfl⟩ := hq; rw [cp] at hb; cases hb; exact hg
  ·rw [hblk k v' hq] at hb; exact Nat.lt_of_lt_of_le (hs.lt _ _ _ _ _ hb) jW
 ·rcases eC k B hk with ⟨rfl, rfl⟩ | ⟨eQ, fF⟩
  ·exact hB
  ·cases An : B.held with
   | false =>
    have := hs.mem k B fF
    cases B with
    | hole => exact fun v' => by rw [Jw k v' eQ]; exact this v'
    | dead => trivial
    | _ => simp [aC.held] at An
   | true => exact (hs.mem k B fF).mono hle (fun v' h => by rw [Jw k v' eQ]; exact h) (fun g' e' c' fh => (rR k B eQ fF An g' e' c' fh).1) fun _ _ _ _ _ h => h
 ·have fF : st.mem.length ≤ k := by simpa using hk
  rw [Jw k v' (by omega)]; exact hs.top k fF v'
 ·rcases eC k B hk with ⟨rfl, rfl⟩ | ⟨eQ, fF⟩
  ·have : v + 1 < v' := rI
   rw [hblk k v' (by omega)]; exact hn v' (by omega)
  ·rw [Jw k v' eQ]; exact hs.bW k B fF v' rI
 ·by_cases hq : k = b ∧ v1 = v + 1 <;> by_cases D6 : k' = b ∧ v2 = v + 1
  ·rw [hq.1, D6.1]
  ·obtain ⟨rfl, rfl⟩ := hq; rw [cp] at h5; cases h5; rw [hblk k' _ D6] at h6; exact (L2 _ _ _ _ h6).symm
  ·obtain ⟨rfl, rfl⟩ := D6; rw [cp] at h6; cases h6; rw [hblk k _ hq] at h5; exact L2 _ _ _ _ h5
  ·rw [hblk k _ hq] at h5; rw [hblk k' _ D6] at h6
   exact hs.apart _ _ _ _ _ _ _ _ _ h5 h6

theorem bc.xV {E : Env} {w : World} {a : Act} {st : St} (hs : bc E w a st) {b v e0 e : Nat} {rs : List V} (hm : st.mem[b]? = some (.rows v e0 rs)) : bc E w a { st with mem := st.mem.set b (.rows (v + 1) e []) } := by
 have hn : ∀ v', v < v' → E.aM b v' = none := fun v' rI => hs.bW b _ hm v' rI
 have aL : b < st.mem.length := (List.getElem?_eq_some_iff.1 hm).1
 have eC : ∀ (k : Nat) (B : aC), (st.mem.set b (.rows (v + 1) e []))[k]? = some B → (k = b ∧ B = .rows (v + 1) e []) ∨ (k ≠ b ∧ st.mem[k]? = some B) := fun k B hk => by
  rw [List.getElem?_set] at hk
  by_cases eQ : b = k
  ·subst eQ; simp only [if_true,aL] at hk; cases hk; exact .inl ⟨rfl, rfl⟩
  ·rw [if_neg eQ] at hk; exact .inr ⟨fun e => eQ e.symm, hk⟩
 refine ⟨hs.F, hs.lt, fun k B hk => ?_, fun k hk v' => hs.top k (by simpa using hk) v', fun k B hk v' rI => ?_, hs.apart, hs.fr⟩
 ·rcases eC k B hk with ⟨rfl, rfl⟩ | ⟨eQ, fF⟩
  ·exact .inl ⟨rfl, hn _ (Nat.lt_succ_self v)⟩
  ·exact hs.mem k B fF
 ·rcases eC k B hk with ⟨rfl, rfl⟩ | ⟨eQ, fF⟩
  ·exact hn v' (Nat.lt_of_succ_lt rI)
  ·exact hs.bW k B fF v' rI

theorem gP {E : Env} {e : Nat} {rs xs : List V} {A B C : Array Value} (h1 : qt E e rs A) (h2 : qt E e xs B) : fS E e (rs ++ xs) (fun o => (A ++ B ++ C)[o]?) := by
 intro i row hi
 rw [List.getElem?_append] at hi
 split at hi
 ·rename_i aL
  obtain ⟨h3, h4⟩ := h1.2 i row hi
  refine ⟨h3, fun j c hj => ?_⟩
  obtain ⟨x, hx, hr⟩ := h4 j c hj
  dsimp only at hx
  have Nk : i * e + j < A.size := (Array.getElem?_eq_some_iff.1 hx).1
  refine ⟨x, ?_, hr⟩
  dsimp only
  rw [Array.append_assoc, Array.getElem?_append_left Nk, hx]
 ·rename_i cP
  obtain ⟨h3, h4⟩ := h2.2 (i - rs.length) row hi
  refine ⟨h3, fun j c hj => ?_⟩
  obtain ⟨x, hx, hr⟩ := h4 j c hj
  dsimp only at hx
  have Nk : (i - rs.length) * e + j < B.size := (Array.getElem?_eq_some_iff.1 hx).1
  refine ⟨x, ?_, hr⟩
  dsimp only
  have hmul : i * e = A.size + (i - rs.length) * e := by
   rw [h1.1, ← Nat.add_mul]; congr 1; omega
  rw [Array.append_assoc, Array.getElem?_append_right (by omega), Array.getElem?_append_left (by omega), ← hx]
  congr 1; omega

theorem wh {E : Env} {b v s l : Nat} {x : Value} (h : a8 E (.ms b v s l) x) : (l = 0 ∧ x = .slice none 0 0) ∨
  ∃ g e c a cap, x = .slice a l cap ∧ E.aM b v = some (g, e, c) ∧ (0 < l → a = some ⟨g, s * e, none⟩) ∧ (s = 0 → a = some ⟨g, 0, none⟩ ∧ cap = c) ∧ (l ≤ cap ∧ s + cap = c ∧ (0 < cap → a = some ⟨g, s * e, none⟩)) := by
 cases h with
 | dg => exact .inl ⟨rfl, rfl⟩
 | ms _ _ _ _ _ g e c a cap hb hl h0 hc => exact .inr ⟨g, e, c, a, cap, rfl, hb, hl, h0, hc⟩

theorem qv {E : Env} {e : Nat} {xs : List V} {A : Array Value} (gC : 0 < e) (h : qt E e xs A) : ∀ v ∈ A.toList, v.oneCell' = true := by
 intro v hv
 obtain ⟨q, hq, rfl⟩ := List.mem_iff_getElem.1 hv
 have D6 : q < xs.length * e := by rw [← h.1]; simpa using hq
 have ZV : q / e < xs.length := by rwa [Nat.div_lt_iff_lt_mul gC]
 have pF := List.getElem?_eq_getElem ZV
 obtain ⟨Vx, kf⟩ := h.2 _ _ pF
 obtain ⟨vv, UA, xz, -⟩ := kf (q % e) _ (List.getElem?_eq_getElem (by rw [Vx]; exact Nat.mod_lt _ gC))
 dsimp only at UA
 rw [Nat.mul_comm, Nat.div_add_mod] at UA
 have : A.toList[q] = vv := by
  have Qq : q < A.size := by simpa using hq
  rw [Array.getElem?_eq_getElem Qq] at UA
  simpa using UA
 rw [this]; exact xz

theorem ub {P : Program} {tt : Table} (ht : TT P tt) {E : Env} {w : World} {a : Act} {st : St} (hs : bc E w a st) {ts : Array TypeId} {ty : TypeId} {s x : V} {y z : Value} {size : Nat} {ka : Option (Nat × Nat)} {rows : List V} {key : Nat}
  (hk : ei st.mem key) (D7 : a8 E s y) (Ge : a8 E x z) (h : dS tt st.mem ts.toList s x = some (size, ka, rows)) :
  ∃ v w' E', (Builtin.append_ ts ty #[y, z]).run P w = .ok v w' ∧ bc E' w' a { st with mem := (cK st.mem key size rows ka).1 } ∧ dO E w E' w' ∧ a8 E' (cK st.mem key size rows ka).2 v := by
 unfold dS at h
 split at h
 ·rename_i t u JT
  obtain rfl : ts = #[t, u] := by rw [← Array.toArray_toList (xs := ts), JT]
  split at h
  ·rename_i it hT
   split at h
   ·rename_i e he
    split at h
    ·rename_i e' Qr
     split at h
     ·rename_i i hE
      split at h
      ·rename_i hc
       obtain ⟨gC, rS, xS⟩ := hc
       split at h
       ·rename_i ZW rs iQ
        split at h
        ·rename_i xs kG
         split at h
         ·rename_i hlen
          split at h
          case isFalse => cases h
          rename_i Vy
          simp only [Option.some.injEq,Prod.mk.injEq] at h
          obtain ⟨rfl, rfl, rfl⟩ := h
          obtain ⟨d, hd, -, qp, -⟩ := ht.desc t it hT
          obtain rfl := qp e he
          have CI : ∃ e1, P.underlying u = some (.slice e1) := by
           unfold dT at Qr
           split at Qr
           ·rename_i iu hU
            obtain ⟨d, hd, -, qp, -⟩ := ht.desc u iu hU
            exact ⟨e', by rw [hd, qp e' Qr]⟩
           ·simp at Qr
          obtain ⟨e1, CI⟩ := CI
          obtain ⟨info, oe, JS, Qs, z0, Nl, Qp⟩ := ht.size e i hE
          have D8 : z0.cells.size = info.size := by rw [JS, ← xS, ← Qp]; simp
          rw [← JS] at kG iQ gC ⊢
          rw [← Qs] at rS
          have L3 : bc E w.drew a st := hs.drew
          obtain ⟨xa, xc, rfl, ZX, xA, ua, CJ⟩ := eo (P := P) hs Ge kG
          obtain ⟨ZY, ZZ, heq, -, xB, Rf, Nn⟩ := eo (P := P) L3 Ge kG
          simp only [Value.slice.injEq] at heq
          obtain ⟨rfl, -, rfl⟩ := heq
          have xT : ∀ eE, eE < rs.length + xs.length → Builtin.nextslicecap (rs.length + xs.length) eE * info.bytes ≤ 281474976710656 := fun eE aL =>
           growslice_fits aL (Nat.le_trans (Nat.mul_le_mul hlen rS) (by decide))
          have CH : (rs ++ xs).length = rs.length + xs.length := by simp
          have cP : ∀ eE, rs.length + xs.length ≤ grownCap w (rs.length + xs.length) eE e := fun eE => grownCap_ge w (rs.length + xs.length) eE e
          have lR : ∀ (eE : Nat) (A : Array Value), qt E.pure info.size rs A → (A ++ xB ++ Builtin.zeroCells z0.cells (grownCap w (rs.length + xs.length) eE e - (rs.length + xs.length))).size = grownCap w (rs.length + xs.length) eE e * info.size := fun eE A Z0 => by
           simp only [Array.size_append,size_zeroCells,D8,Z0.1,Nn.1,← Nat.add_mul]
           congr 1; have := cP eE; omega
          unfold lQ at iQ
          split at iQ
          ·-- nil
           simp only [Option.some.injEq,Prod.mk.injEq] at iQ
           obtain ⟨rfl, rfl⟩ := iQ
           obtain rfl := bS D7
           by_cases h0 : xs.length = 0
           ·have Rg : xs = [] := List.length_eq_zero_iff.1 h0
            subst Rg
            exact ⟨_, w, E, eT (ty := ty) hd CI oe xc xa xA ua, hs.JQ hk info.size, dO.refl E w, .dg _ _ _ _⟩
           ·have di := fX (ty := ty) hd CI oe Nl none 0 0 xs.length xc xa #[] xB rfl Rf (by omega) (by omega) (xT 0 (by simp; omega))
            obtain ⟨E', h5, h6, h7⟩ := bc.ot L3 (key := key) hk (xs := #[] ++ xB ++ Builtin.zeroCells z0.cells (grownCap w (([] : List V).length + xs.length) 0 e - (([] : List V).length + xs.length))) (rs := [] ++ xs) (e := info.size)
             (c := grownCap w (([] : List V).length + xs.length) 0 e) e (lR 0 #[] ⟨by simp, fun i row hi => by simp at hi⟩) (by rw [CH]; exact cP 0) (gP ⟨by simp, fun i row hi => by simp at hi⟩ Nn)
            refine ⟨_, _, E', di, h5, (dO.drew E w).trans h6, ?_⟩
            simp only [cK]
            rw [CH] at h7 ⊢
            exact h7
          ·-- rows CK room
           rename_i ji
           split at iQ
           case isFalse => cases iQ
           rename_i lO
           simp only [Option.some.injEq,Prod.mk.injEq] at iQ
           obtain ⟨rfl, rfl⟩ := iQ
           have j9 : 0 < xs.length := by
            cases xs with
            | nil => simp [xU] at Vy
            | cons _ _ => simp
           cases D7 with
           | full _ _ sa D7 =>
           have Nh : rowsOf st.mem info.size (.slice ji) = some ji := by simp only [rowsOf]; rw [if_pos lO]
           obtain ⟨YE, sc, heq, YF, A, JU, CM⟩ := eo (P := P) L3 D7 Nh
           simp only [Value.slice.injEq] at heq
           obtain ⟨rfl, -, rfl⟩ := heq
           have di := fX (ty := ty) hd CI oe Nl sa ji.length ji.length xs.length xc xa A xB JU Rf (by omega) (by omega) (xT _ (by omega))
           obtain ⟨E', h5, h6, h7⟩ := bc.ot L3 (key := key) hk (xs := A ++ xB ++ Builtin.zeroCells z0.cells (grownCap w (ji.length + xs.length) ji.length e - (ji.length + xs.length))) (rs := ji ++ xs) (e := info.size)
            (c := grownCap w (ji.length + xs.length) ji.length e) e (lR ji.length A CM) (by rw [CH]; exact cP _) (gP CM Nn)
           refine ⟨_, _, E', di, h5, (dO.drew E w).trans h6, ?_⟩
           simp only [cK]
           rw [CH] at h7 ⊢
           exact h7
          ·rename_i b v l
           split at iQ
           ·rename_i v' eb rs' hm
            split at iQ
            ·rename_i Ao
             obtain ⟨rfl, rfl, Qt⟩ := Ao
             simp only [Option.some.injEq,Prod.mk.injEq] at iQ
             obtain ⟨rfl, rfl⟩ := iQ
             have Nh : rowsOf st.mem info.size (.ms b v' 0 l) = some rs' := by
              simp [rowsOf, hm, Qt]
              rw [← Qt]; simp
             obtain ⟨sa, sc, rfl, YF, A, JU, CM⟩ := eo (P := P) L3 D7 Nh
             simp only [cK]
             by_cases oy : rs'.length + xs.length ≤ sc
             ·-- there is room
              rcases wh D7 with ⟨D3, Gn⟩ | ⟨g, Z6, c, YE, Z7, Gn, hb, hl, Jt, CE⟩
              ·simp only [Value.slice.injEq] at Gn
               obtain ⟨rfl, Vz, rfl⟩ := Gn
               have j9 : xs = [] := List.length_eq_zero_iff.1 (by omega)
               have JV : rs' = [] := List.length_eq_zero_iff.1 (by omega)
               subst j9; subst JV
               exact ⟨_, w, E, eT (ty := ty) hd CI oe xc xa xA ua, hs.xV hm, dO.refl E w, .dg _ _ _ _⟩
              ·simp only [Value.slice.injEq] at Gn
               obtain ⟨rfl, -, rfl⟩ := Gn
               obtain ⟨rfl, YG⟩ := Jt rfl
               have VB := YG.symm
               subst VB
               rcases hs.mem b _ hm with ⟨-, hn⟩ | ⟨g', T', cur, c', dt, hh, pC, gj, uE, hf⟩
               ·rw [hb] at hn; cases hn
               rw [hb] at dt; cases dt
               have rT : rs'.length * info.size + xA.toList.length ≤ cur.size := by
                have := CJ.1
                simp only [Array.length_toList]
                rw [this, pC, ← Nat.add_mul]; exact Nat.mul_le_mul_right _ oy
               obtain ⟨w', ob, Jx, wi⟩ := ek (P := P) (g := g) (T := T') (rs'.length * info.size) xA.toList 0 w cur hh (by simpa using rT) (qv gC CJ)
               have di := rQ (ty := ty) hd CI oe g rs'.length c xs.length xc xa xA ua oy ob
               have hle : E.le (E.with b (v' + 1) (g, info.size, c)) := Env.gO (hs.bW b _ hm _ (Nat.lt_succ_self v')) _
               have cp : (E.with b (v' + 1) (g, info.size, c)).aM b (v' + 1) = some (g, info.size, c) := if_pos ⟨rfl, rfl⟩
               refine ⟨_, w', E.with b (v' + 1) (g, info.size, c), di, hs.renew hm (fun ad y hy => ?_) (by rw [wi.size]; exact Nat.le_refl _) (by rw [wi.size]; exact hs.lt _ _ _ _ _ hb) (fun k B' eQ fF L4 g' e' c' fh => ?_) ?_ (fun k v2 e2 c2 h => hs.apart _ _ _ _ _ _ _ _ _ h hb),
                ⟨hle, fun k q g' e' c' eQ => ?_, fun ad y hy => .inl hy, wi.os, wi.tape, wi.output, by rw [wi.size]; exact Nat.le_refl _, fun b' dt bL => wi.heap b' fun e => by subst e; exact bL _ _ _ _ hb⟩, ?_⟩
               ·have bL := hs.v7 hf hy
                rw [← hs.F ad y hy]; simp [World.cell?, wi.heap _ bL]
               ·have Rh : g' ≠ g := fun e => by
                 subst e
                 exact eQ (hs.apart _ _ _ _ _ _ _ _ _ fh hb)
                exact ⟨wi.heap _ Rh, Rh⟩
               ·refine .inr ⟨g, T', _, c, cp, Jx, by rw [e9]; exact pC, by rw [CH]; exact oy, ?_, hf⟩
                intro q row hq
                simp only [Nat.add_zero]
                have xC : xA.toList.length = xs.length * info.size := by simpa using CJ.1
                rw [List.getElem?_append] at hq
                split at hq
                ·rename_i aL
                 obtain ⟨h3, h4⟩ := uE q row hq
                 refine ⟨h3, fun j cc hj => ?_⟩
                 obtain ⟨v, hv, xz, D9⟩ := h4 j cc hj
                 have rk : j < info.size := by rw [← h3]; exact (List.getElem?_eq_some_iff.1 hj).1
                 refine ⟨v, ?_, xz, D9⟩
                 rw [ea _ _ _ _ rT, if_neg (by have := rP aL rk; omega)]
                 exact hv
                ·rename_i VE
                 obtain ⟨h3, h4⟩ := CJ.2 _ row hq
                 refine ⟨h3, fun j cc hj => ?_⟩
                 obtain ⟨v, hv, xz, D9⟩ := h4 j cc hj
                 have rk : j < info.size := by rw [← h3]; exact (List.getElem?_eq_some_iff.1 hj).1
                 have UB : q - rs'.length < xs.length := (List.getElem?_eq_some_iff.1 hq).1
                 have hmul : q * info.size = rs'.length * info.size + (q - rs'.length) * info.size := by rw [← Nat.add_mul]; congr 1; omega
                 refine ⟨v, ?_, xz, D9⟩
                 rw [ea _ _ _ _ rT, if_pos (by have := rP UB rk; omega)]
                 dsimp only at hv
                 rw [← hv, Array.getElem?_toList]
                 congr 1; omega
               ·by_cases hq : k = b ∧ q = v' + 1
                ·obtain ⟨rfl, rfl⟩ := hq; rw [cp] at eQ; cases eQ; exact .inl ⟨_, _, _, _, hb⟩
                ·have : (E.with b (v' + 1) (g, info.size, c)).aM k q = E.aM k q := if_neg hq
                 rw [this] at eQ; exact .inl ⟨_, _, _, _, eQ⟩
               ·rw [CH]
                exact .ms _ _ _ _ _ g info.size c _ _ cp (fun _ => by simp) (fun _ => ⟨rfl, rfl⟩) ⟨oy, Nat.zero_add _, fun _ => by simp⟩
             ·-- a new block
              have aL : sc < rs'.length + xs.length := by omega
              have di := fX (ty := ty) hd CI oe Nl sa rs'.length sc xs.length xc xa A xB JU Rf aL (by omega) (xT sc aL)
              have hle : E.le (E.with b (v' + 1) (w.heap.size, info.size, grownCap w (rs'.length + xs.length) sc e)) := Env.gO (hs.bW b _ hm _ (Nat.lt_succ_self v')) _
              have cp : (E.with b (v' + 1) (w.heap.size, info.size, grownCap w (rs'.length + xs.length) sc e)).aM b (v' + 1) = some (w.heap.size, info.size, grownCap w (rs'.length + xs.length) sc e) := if_pos ⟨rfl, rfl⟩
              refine ⟨_, _, E.with b (v' + 1) (w.heap.size, info.size, grownCap w (rs'.length + xs.length) sc e), di, hs.renew hm (fun ad y hy => ?_) (by simp) (by simp) (fun k B' eQ fF L4 g' e' c' fh => ?_) ?_ (fun k v2 e2 c2 h => absurd (hs.lt _ _ _ _ _ h) (Nat.lt_irrefl _)),
               ⟨hle, fun k q g' e' c' eQ => ?_, fun ad y hy => .inl hy, rfl, rfl, rfl, by simp, fun b' dt bL => Go.RowKit.Below.heap_alloc w.drew _ b' dt⟩, ?_⟩
              ·rw [World.cell?_alloc_lt w.drew _ ad (World.block_lt_of_cell? w ad (hs.F ad y hy))]; exact hs.F ad y hy
              ·have := hs.lt _ _ _ _ _ fh
               exact ⟨Go.RowKit.Below.heap_alloc w.drew _ g' this, by omega⟩
              ·refine .inr ⟨w.heap.size, e, _, _, cp, heap_alloc_new w.drew _, lR sc A CM, by rw [CH]; exact cP sc, ?_, fun o => ?_⟩
               ·intro q row hq
                obtain ⟨h3, h4⟩ := gP (C := Builtin.zeroCells z0.cells (grownCap w (rs'.length + xs.length) sc e - (rs'.length + xs.length))) CM Nn q row hq
                exact ⟨h3, fun j cc hj => let ⟨v, hv, xz, D9⟩ := h4 j cc hj; ⟨v, hv, xz, D9.mono (Env.ft hle)⟩⟩
               ·show E.F _ = none
                cases hx : E.F ⟨w.heap.size, o, none⟩ with
                | none => rfl
                | some x => have := World.block_lt_of_cell? w _ (hs.F _ _ hx); simp at this
              ·by_cases hq : k = b ∧ q = v' + 1
               ·obtain ⟨rfl, rfl⟩ := hq; rw [cp] at eQ; cases eQ; exact .inr (Nat.le_refl _)
               ·have : (E.with b (v' + 1) (w.heap.size, info.size, grownCap w (rs'.length + xs.length) sc e)).aM k q = E.aM k q := if_neg hq
                rw [this] at eQ; exact .inl ⟨_, _, _, _, eQ⟩
              ·rw [CH]
               exact .ms _ _ _ _ _ w.heap.size info.size _ _ _ cp (fun _ => by simp) (fun _ => ⟨rfl, rfl⟩) ⟨cP sc, Nat.zero_add _, fun _ => by simp⟩
            ·simp at iQ
           ·simp at iQ
          ·simp at iQ
         ·simp at h
        ·simp at h
       ·simp at h
      ·simp at h
     ·simp at h
    ·simp at h
   ·simp at h
  ·simp at h
 ·simp at h
end Go.Eng
end

section
namespace Go.Eng
variable [aK]

theorem cQ.set {E : Env} {bK : List (Value × Nat × V)} {es : List MapEntry} (h : cQ E bK es) (i : Nat) {kb : Value × Nat × V} {e : MapEntry} (h1 : e.key = kb.1) (h2 : e.born = kb.2.1) (h3 : a8 E kb.2.2 e.val) : cQ E (bK.set i kb) (es.set i e) := by
  refine ⟨by simp [h.1], fun j k e' hk he => ?_⟩
  by_cases qW : i = j
  · subst qW
    rw [List.getElem?_set] at hk he
    simp only [if_true] at hk he
    split at hk
    · split at he
      · cases hk; cases he; exact ⟨h1, h2, h3⟩
      · cases he
    · cases hk
  · rw [List.getElem?_set_ne qW] at hk he; exact h.2 j k e' hk he
theorem cQ.push {E : Env} {bK : List (Value × Nat × V)} {es : List MapEntry} (h : cQ E bK es) {kb : Value × Nat × V} {e : MapEntry} (h1 : e.key = kb.1) (h2 : e.born = kb.2.1) (h3 : a8 E kb.2.2 e.val) : cQ E (bK ++ [kb]) (es ++ [e]) := by
  refine ⟨by simp [h.1], fun j k e' hk he => ?_⟩
  by_cases hj : j < bK.length
  · rw [List.getElem?_append_left hj] at hk; rw [List.getElem?_append_left (by have := h.1; omega)] at he; exact h.2 j k e' hk he
  · rw [List.getElem?_append_right (by omega)] at hk; rw [List.getElem?_append_right (by have := h.1; omega)] at he
    rw [h.1] at hk
    cases hd : j - es.length with
    | zero => rw [hd] at hk he; simp at hk he; subst hk; subst he; exact ⟨h1, h2, h3⟩
    | succ n => rw [hd] at hk; simp at hk
theorem cQ.erase {E : Env} : ∀ {bK : List (Value × Nat × V)} {es : List MapEntry}, cQ E bK es → ∀ (i : Nat), cQ E (bK.eraseIdx i) (es.eraseIdx i)
  | [], es, h, i => by rw [h.of_nil]; exact ⟨rfl, fun j k e hk => by simp at hk⟩
  | k :: r, es, h, i => by
    obtain ⟨e, es', rfl, h1, h2, h3, h4⟩ := h.of_cons
    cases i with
    | zero => exact h4
    | succ i =>
      have h5 := cQ.erase h4 i
      simp only [List.eraseIdx_cons_succ]
      refine ⟨by simp [h5.1], fun j k' e' hk he => ?_⟩
      cases j with
      | zero => simp at hk he; subst hk; subst he; exact ⟨h1, h2, h3⟩
      | succ j => exact h5.2 j k' e' (by simpa using hk) (by simpa using he)

def insertAt (P : Program) (kt : TypeId) (key : Value) (v : V) (bK : List (Value × Nat × V)) (clock : Nat) : Option (List (Value × Nat × V) × Nat) :=
  match ll P kt key bK with
  | some (some (i, _)) => match bK[i]? with
    | some e => if Instr.sameBits 10000 e.1 key = true then some (bK.set i (key, e.2.1, v), clock) else none
    | none => none
  | some none => some (bK ++ [(key, clock, v)], clock + 1)
  | none => none
def cD (P : Program) (mem : List aC) (T : TypeId) (m k v : V) : Option (List aC) :=
  match dG P T with
  | some (kt, _) => match cb k with
    | some key => if nf P kt key = true then
        match m with
        | .mp b => match mem[b]? with
          | some (.map bK clock) => match insertAt P kt key v bK clock with
            | some (kvs', clock') => some (mem.set b (.map kvs' clock'))
            | none => none
          | _ => none
        | _ => none
      else none
    | none => none
  | none => none
def CN (P : Program) (kt et : TypeId) (key : Value) (bK : List (Value × Nat × V)) (clock : Nat) : Option (List (Value × Nat × V) × Nat × V) :=
  match ll P kt key bK with
  | some (some (i, v)) => match bK[i]? with
    | some e => if Instr.sameBits 10000 e.1 key = true then some (bK.set i (key, e.2.1, e.2.2), clock, .ch [v, .sc (.int .i64 e.2.1)]) else none
    | none => none
  | some none => match zeroV P et with
    | some z => some (bK ++ [(key, clock, z)], clock + 1, .ch [z, .sc (.int .i64 clock)])
    | none => none
  | none => none
def pI (P : Program) (mem : List aC) (T : TypeId) (m k : V) : Option (List aC × V) :=
  match dG P T with
  | some (kt, et) => match cb k with
    | some key => if nf P kt key = true then
        match m with
        | .mp b => match mem[b]? with
          | some (.map bK clock) => match CN P kt et key bK clock with
            | some (kvs', clock', v) => some (mem.set b (.map kvs' clock'), v)
            | none => none
          | _ => none
        | _ => none
      else none
    | none => none
  | none => none
def pJ (mem : List aC) (m s v : V) : Option (List aC) :=
  match m, s with
  | .mp b, .sc (.int _ n) => match mem[b]? with
    | some (.map bK clock) => match bK.findIdx? (fun e => (e.2.1 : Int) == n) with
      | some i => match bK[i]? with
        | some e => some (mem.set b (.map (bK.set i (e.1, e.2.1, v)) clock))
        | none => none
      | none => none
    | _ => none
  | _, _ => none
def mH (P : Program) (mem : List aC) (ts : Array TypeId) : List V → Option (List aC)
  | [.mp b, k] => match ts[0]? with
    | some T => match dG P T with
      | some (kt, _) => match cb k with
        | some key => if nf P kt key = true then
            match mem[b]? with
            | some (.map bK clock) => match ll P kt key bK with
              | some (some (i, _)) => some (mem.set b (.map (bK.eraseIdx i) clock))
              | some none => some (mem.set b (.map bK clock))
              | none => none
            | _ => none
          else none
        | none => none
      | none => none
    | none => none
  | _ => none

theorem lS {w : World} {g : Nat} {o : Obj} : ou w { w with heap := w.heap.setIfInBounds g o } g :=
  ⟨rfl, rfl, rfl, by simp, fun b hb => Array.getElem?_setIfInBounds_ne (fun e => hb e.symm)⟩
theorem heap_set {w : World} {g : Nat} {o o' : Obj} (h : w.heap[g]? = some o) : ({ w with heap := w.heap.setIfInBounds g o' } : World).heap[g]? = some o' := by
  have : g < w.heap.size := by
    rcases Nat.lt_or_ge g w.heap.size with h1 | h1
    · exact h1
    · rw [Array.getElem?_eq_none h1] at h; cases h
  simp [this]
theorem bc.kQ {E : Env} {w : World} {a : Act} {st : St} (hs : bc E w a st) {b g e c : Nat} {bK kvs' : List (Value × Nat × V)} {clock clock' : Nat} {es es' : Array MapEntry} (hm : st.mem[b]? = some (.map bK clock)) (hb : E.aM b 0 = some (g, e, c)) (hh : w.heap[g]? = some (.map es clock))
    (hf : ∀ o, E.F ⟨g, o, none⟩ = none) (hr : cQ E kvs' es'.toList) :
    bc E { w with heap := w.heap.setIfInBounds g (.map es' clock') } a { st with mem := st.mem.set b (.map kvs' clock') } ∧ dO E w E { w with heap := w.heap.setIfInBounds g (.map es' clock') } := by
  obtain ⟨-, -, -, -, h0⟩ := gN hs hm hb
  cases h0
  exact hs.v8 hm rfl (B' := .map kvs' clock') rfl hb hf lS ⟨g, es', hb, heap_set hh, hr, hf⟩

theorem nF {es : Array MapEntry} {i : Nat} {e : MapEntry} (h : es[i]? = some e) (f : MapEntry → MapEntry) : (es.modify i f).toList = es.toList.set i (f e) := by
  apply List.ext_getElem?
  intro j
  rw [Array.getElem?_toList, Array.getElem?_modify, List.getElem?_set]
  by_cases qW : i = j
  · subst qW
    have : i < es.size := (Array.getElem?_eq_some_iff.1 h).1
    have he : es[i] = e := (Array.getElem?_eq_some_iff.1 h).2
    simp [this, he]
  · simp [qW]
theorem uH {P : Program} {w : World} {ka new : Value} (h : Instr.sameBits 10000 ka new = true) : (Instr.keyThatStays ka new).run P w = .ok new w := by simp [Instr.keyThatStays, h]

theorem nj {P : Program} {E : Env} {w : World} {a : Act} {st : St} (hs : bc E w a st) {T : TypeId} {m k v : V} {x y z : Value} {aF : List aC} (hm : a8 E m x) (hk : a8 E k y) (hv : a8 E v z) (h : cD P st.mem T m k v = some aF) :
    ∃ w', (Instr.mapUpdate T x y z).run P w = .ok () w' ∧ bc E w' a { st with mem := aF } ∧ dO E w E w' := by
  unfold cD at h
  split at h
  · rename_i kt et hd
    have hd := fE hd
    split at h
    · rename_i key cp
      cases e7 hk cp
      split at h
      · rename_i dc
        have FY := fun b => jK dc b w
        split at h
        · rename_i b
          obtain ⟨g, e, c, rfl, hb⟩ := nC hm
          split at h
          · rename_i bK clock hB
            obtain ⟨es, hh, hr, hf, -⟩ := gN hs hB hb
            split at h
            · rename_i kvs' clock' hi
              cases h
              unfold insertAt at hi
              split at hi
              · rename_i i u Gp
                obtain ⟨r', h1, h2⟩ := dF hr w Gp
                match r', h2 with
                | some (j', z'), h2 =>
                  obtain ⟨rfl, h3, kb, en, h4, h5, h6, h7⟩ := h2
                  have Np : es[i]? = some en := by simpa using h5
                  split at hi
                  · rename_i Z8 eQ
                    rw [eQ] at h4; cases h4
                    split at hi
                    · rename_i Gq
                      cases hi
                      obtain ⟨p1, p2, p3⟩ := hr.2 i _ _ eQ h5
                      have di : (Instr.mapUpdate T (.map (some g)) y z).run P w = .ok () { w with heap := w.heap.setIfInBounds g (.map (es.modify i fun e => { e with key := y, val := z }) clock) } := by
                        have := eh (P := P) (o' := .map (es.modify i fun e => { e with key := y, val := z }) clock) hh (by simp)
                        simp [Instr.mapUpdate, ao hd, ct hh, FY, h1, Np, p1, uH Gq, this]
                      obtain ⟨q1, q2⟩ := hs.kQ hB hb hh hf (clock' := clock) (kvs' := bK.set i (y, kb.2.1, v)) (es' := es.modify i fun e => { e with key := y, val := z }) (by rw [nF Np]; exact hr.set i rfl p2 hv)
                      exact ⟨_, di, q1, q2⟩
                    · cases hi
                  · cases hi
              · rename_i Gp
                obtain ⟨r', h1, h2⟩ := dF hr w Gp
                match r', h2 with
                | none, h2 =>
                  cases hi
                  have di : (Instr.mapUpdate T (.map (some g)) y z).run P w = .ok () { w with heap := w.heap.setIfInBounds g (.map (es.push { key := y, val := z, born := clock }) (clock + 1)) } := by
                    have := eh (P := P) (o' := .map (es.push { key := y, val := z, born := clock }) (clock + 1)) hh (by simp)
                    simp [Instr.mapUpdate, ao hd, ct hh, FY, h1, this]
                  obtain ⟨q1, q2⟩ := hs.kQ hB hb hh hf (clock' := clock + 1) (kvs' := bK ++ [(y, clock, v)]) (es' := es.push { key := y, val := z, born := clock }) (by rw [Array.toList_push]; exact hr.push rfl rfl hv)
                  exact ⟨_, di, q1, q2⟩
              · cases hi
            · cases h
          · cases h
        · cases h
      · cases h
    · cases h
  · cases h

theorem xW {E : Env} {v : V} {x : Value} (h : a8 E v x) (n : Nat) : a8 E (.ch [v, .sc (.int .i64 n)]) (.tuple #[x, goInt n]) := by
  refine .ch _ _ _ rfl fun i c y hc hy => ?_
  match i with
  | 0 => simp at hc hy; subst hc; subst hy; exact h
  | 1 => simp at hc hy; subst hc; subst hy; exact .sc _ _
  | i + 2 => simp at hc
theorem wj {P : Program} {E : Env} {w : World} {a : Act} {st : St} (hs : bc E w a st) {T : TypeId} {m k v : V} {x y : Value} {aF : List aC} (hm : a8 E m x) (hk : a8 E k y) (h : pI P st.mem T m k = some (aF, v)) :
    ∃ z w', (Instr.mapEntry T x y).run P w = .ok z w' ∧ bc E w' a { st with mem := aF } ∧ dO E w E w' ∧ a8 E v z := by
  unfold pI at h
  split at h
  · rename_i kt et hd
    have hd := fE hd
    split at h
    · rename_i key cp
      cases e7 hk cp
      split at h
      · rename_i dc
        have FY := fun b => jK dc b w
        split at h
        · rename_i b
          obtain ⟨g, e, c, rfl, hb⟩ := nC hm
          split at h
          · rename_i bK clock hB
            obtain ⟨es, hh, hr, hf, -⟩ := gN hs hB hb
            split at h
            · rename_i kvs' clock' v' hi
              cases h
              unfold CN at hi
              split at hi
              · rename_i i u Gp
                obtain ⟨r', h1, h2⟩ := dF hr w Gp
                match r', h2 with
                | some (j', z'), h2 =>
                  obtain ⟨rfl, h3, kb, en, h4, h5, h6, h7⟩ := h2
                  have Np : es[i]? = some en := by simpa using h5
                  split at hi
                  · rename_i Z8 eQ
                    rw [eQ] at h4; cases h4
                    split at hi
                    · rename_i Gq
                      cases hi
                      obtain ⟨p1, p2, p3⟩ := hr.2 i _ _ eQ h5
                      have di : (Instr.mapEntry T (.map (some g)) y).run P w = .ok (.tuple #[z', goInt en.born]) { w with heap := w.heap.setIfInBounds g (.map (es.modify i fun e => { e with key := y }) clock) } := by
                        have := eh (P := P) (o' := .map (es.modify i fun e => { e with key := y }) clock) hh (by simp)
                        simp [Instr.mapEntry, ao hd, ct hh, FY, h1, Np, p1, uH Gq, this]
                      obtain ⟨q1, q2⟩ := hs.kQ hB hb hh hf (clock' := clock) (kvs' := bK.set i (y, kb.2.1, kb.2.2)) (es' := es.modify i fun e => { e with key := y }) (by rw [nF Np]; exact hr.set i rfl p2 p3)
                      exact ⟨_, _, di, q1, q2, by rw [p2]; exact xW h3 _⟩
                    · cases hi
                  · cases hi
              · rename_i Gp
                obtain ⟨r', h1, h2⟩ := dF hr w Gp
                match r', h2 with
                | none, h2 =>
                  split at hi
                  · rename_i z0 Nl
                    cases hi
                    obtain ⟨zz, h3, h4⟩ := lL Nl E w
                    have di : (Instr.mapEntry T (.map (some g)) y).run P w = .ok (.tuple #[zz, goInt clock]) { w with heap := w.heap.setIfInBounds g (.map (es.push { key := y, val := zz, born := clock }) (clock + 1)) } := by
                      have := eh (P := P) (o' := .map (es.push { key := y, val := zz, born := clock }) (clock + 1)) hh (by simp)
                      simp [Instr.mapEntry, ao hd, ct hh, FY, h1, h3, this]
                    obtain ⟨q1, q2⟩ := hs.kQ hB hb hh hf (clock' := clock + 1) (kvs' := bK ++ [(y, clock, z0)]) (es' := es.push { key := y, val := zz, born := clock }) (by rw [Array.toList_push]; exact hr.push rfl rfl h4)
                    exact ⟨_, _, di, q1, q2, xW h4 _⟩
                  · cases hi
              · cases hi
            · cases h
          · cases h
        · cases h
      · cases h
    · cases h
  · cases h

theorem qw {E : Env} (n : Int) : ∀ {bK : List (Value × Nat × V)} {es : List MapEntry}, cQ E bK es → bK.findIdx? (fun e => (e.2.1 : Int) == n) = es.findIdx? (fun e => (e.born : Int) == n)
  | [], es, h => by rw [h.of_nil]; rfl
  | k :: r, es, h => by
    obtain ⟨e, es', rfl, h1, h2, h3, h4⟩ := h.of_cons
    rw [List.findIdx?_cons, List.findIdx?_cons, h2, qw n h4]
theorem wm {P : Program} {E : Env} {w : World} {a : Act} {st : St} (hs : bc E w a st) {T : TypeId} {m s v : V} {x y z : Value} {aF : List aC} (hm : a8 E m x) (hk : a8 E s y) (hv : a8 E v z) (h : pJ st.mem m s v = some aF) :
    ∃ w', (Instr.entryStore T x y z).run P w = .ok () w' ∧ bc E w' a { st with mem := aF } ∧ dO E w E w' := by
  unfold pJ at h
  split at h
  · rename_i b k n
    obtain ⟨g, e, c, rfl, hb⟩ := nC hm
    obtain rfl := mE hk
    split at h
    · rename_i bK clock hB
      obtain ⟨es, hh, hr, hf, -⟩ := gN hs hB hb
      split at h
      · rename_i i hi
        split at h
        · rename_i kb eQ
          cases h
          obtain ⟨en, h5, p1, p2, p3⟩ := hr.get eQ
          have Np : es[i]? = some en := by simpa using h5
          have Nq : es.findIdx? (fun e => (e.born : Int) == n) = some i := by
            rw [qw n hr, ← List.findIdx?_toArray, Array.toArray_toList] at hi; exact hi
          have di : (Instr.entryStore T (.map (some g)) (.int k n) z).run P w = .ok () { w with heap := w.heap.setIfInBounds g (.map (es.modify i fun e => { e with val := z }) clock) } := by
            have := eh (P := P) (o' := .map (es.modify i fun e => { e with val := z }) clock) hh (by simp)
            simp [Instr.entryStore, ct hh, asInt, asIntOf, Nq, this]
          obtain ⟨q1, q2⟩ := hs.kQ hB hb hh hf (clock' := clock) (kvs' := bK.set i (kb.1, kb.2.1, v)) (es' := es.modify i fun e => { e with val := z }) (by rw [nF Np]; exact hr.set i p1 p2 hv)
          exact ⟨_, di, q1, q2⟩
        · cases h
      · cases h
    · cases h
  · cases h

theorem uc {P : Program} {E : Env} {w : World} {a : Act} {st : St} (hs : bc E w a st) {ts : Array TypeId} {ty : TypeId} {xs : List V} {ys : Array Value} {aF : List aC} (hx : aV E xs ys.toList) (h : mH P st.mem ts xs = some aF) :
    ∃ w', (Builtin.delete_ ts ty ys).run P w = .ok (.tuple #[]) w' ∧ bc E w' a { st with mem := aF } ∧ dO E w E w' := by
  unfold mH at h
  split at h
  · rename_i b k
    obtain ⟨x, r, hy, AE, hx⟩ := hx.of_cons
    obtain ⟨y, r2, hz, Ea, hx⟩ := hx.of_cons
    have := hx.of_nil
    subst this; subst hz
    obtain rfl : ys = #[x, y] := by rw [← Array.toArray_toList (xs := ys), hy]
    obtain ⟨g, e, c, rfl, hb⟩ := nC AE
    split at h
    · rename_i T h0
      split at h
      · rename_i kt et hd
        have hd := fE hd
        split at h
        · rename_i key cp
          cases e7 Ea cp
          split at h
          · rename_i dc
            have FY := fun b => jK dc b w
            split at h
            · rename_i bK clock hB
              obtain ⟨es, hh, hr, hf, -⟩ := gN hs hB hb
              split at h
              · rename_i i u Gp
                cases h
                obtain ⟨r', h1, h2⟩ := dF hr w Gp
                match r', h2 with
                | some (j', z'), h2 =>
                  obtain ⟨rfl, h3, kb, en, h4, h5, h6, h7⟩ := h2
                  have di : (Builtin.delete_ ts ty #[.map (some g), y]).run P w = .ok (.tuple #[]) { w with heap := w.heap.setIfInBounds g (.map (es.eraseIdxIfInBounds i) clock) } := by
                    have := eh (P := P) (o' := .map (es.eraseIdxIfInBounds i) clock) hh (by simp)
                    simp [Builtin.delete_, h0, ao hd, ct hh, FY, h1, this]
                  obtain ⟨q1, q2⟩ := hs.kQ hB hb hh hf (clock' := clock) (kvs' := bK.eraseIdx i) (es' := es.eraseIdxIfInBounds i) (by rw [Array.toList_eraseIdxIfInBounds]; exact hr.erase i)
                  exact ⟨_, di, q1, q2⟩
              · rename_i Gp
                cases h
                obtain ⟨r', h1, h2⟩ := dF hr w Gp
                match r', h2 with
                | none, h2 =>
                  have di : (Builtin.delete_ ts ty #[.map (some g), y]).run P w = .ok (.tuple #[]) { w with heap := w.heap.setIfInBounds g (.map es clock) } := by
                    have := eh (P := P) (o' := .map es clock) hh (by simp)
                    simp [Builtin.delete_, h0, ao hd, ct hh, FY, h1, this]
                  obtain ⟨q1, q2⟩ := hs.kQ hB hb hh hf (clock' := clock) (kvs' := bK) (es' := es) hr
                  exact ⟨_, di, q1, q2⟩
              · cases h
            · cases h
          · cases h
        · cases h
      · cases h
    · cases h
  · cases h

/-! ### ranging -/

def leftOf (bK : List (Value × Nat × V)) (seen : List Nat) : List (Value × Nat × V) := bK.filter fun e => !seen.contains e.2.1
def rU (bK : List (Value × Nat × V)) (seen : List Nat) (since : Nat) : List (Value × Nat × V) := (leftOf bK seen).filter fun e => e.2.1 < since
def Gr (bK : List (Value × Nat × V)) (seen : List Nat) (since : Nat) : List (Value × Nat × V) := (leftOf bK seen).filter fun e => e.2.1 ≥ since
def wo (bK : List (Value × Nat × V)) (seen : List Nat) (last : Nat) : Bool := !seen.isEmpty && !bK.isEmpty && bK.all fun e => e.2.1 ≥ last
def rV : V := .ch [.sc (.bool false)]
def Gs (e : Value × Nat × V) : V := .ch [.sc (.bool true), fg e.1, e.2.2]
def L5 (s : ByteArray) (pos : Nat) : V := .ch [.sc (.bool true), .sc (.int .i64 pos), .sc (.int .i32 (Utf8.decode s pos).1)]
def oz (st : St) (dst : Option Tmp) (it : V) (str : Bool) (Q : St → Prop) : Prop :=
  match it with
  | .ptr b 0 => match st.mem[b]? with
    | some (.eA m since seen last) => match st.mem[m]? with
      | some (.map bK clock) => str = false ∧ wo bK seen last = false ∧ (rU bK seen since = [] → Q (st.put dst rV)) ∧
          ∀ e ∈ rU bK seen since ++ Gr bK seen since, Q ({ st with mem := st.mem.set b (.eA m since (seen ++ [e.2.1]) clock) }.put dst (Gs e))
      | _ => False
    | some (.iO s pos) => str = true ∧ if pos < s.size then Q ({ st with mem := st.mem.set b (.iO s (pos + (Utf8.decode s pos).2)) }.put dst (L5 s pos)) else Q (st.put dst rV)
    | some .je => str = false ∧ Q (st.put dst rV)
    | _ => False
  | _ => False

theorem cQ.filter {E : Env} (p : Nat → Bool) : ∀ {bK : List (Value × Nat × V)} {es : List MapEntry}, cQ E bK es → cQ E (bK.filter fun e => p e.2.1) (es.filter fun e => p e.born)
  | [], es, h => by rw [h.of_nil]; exact ⟨rfl, fun j k e hk => by simp at hk⟩
  | k :: r, es, h => by
    obtain ⟨e, es', rfl, h1, h2, h3, h4⟩ := h.of_cons
    have h5 := cQ.filter p h4
    simp only [List.filter_cons,h2]
    split
    · refine ⟨by simp [h5.1], fun j k' e' hk he => ?_⟩
      cases j with
      | zero => simp at hk he; subst hk; subst he; exact ⟨h1, h2, h3⟩
      | succ j => exact h5.2 j k' e' (by simpa using hk) (by simpa using he)
    · exact h5
theorem cQ.all {E : Env} (p : Nat → Bool) : ∀ {bK : List (Value × Nat × V)} {es : List MapEntry}, cQ E bK es → (bK.all fun e => p e.2.1) = es.all fun e => p e.born
  | [], es, h => by rw [h.of_nil]; rfl
  | k :: r, es, h => by
    obtain ⟨e, es', rfl, h1, h2, h3, h4⟩ := h.of_cons
    simp only [List.all_cons,h2,cQ.all p h4]
theorem cQ.append {E : Env} {a b : List (Value × Nat × V)} {x y : List MapEntry} (h : cQ E a x) (k : cQ E b y) : cQ E (a ++ b) (x ++ y) := by
  refine ⟨by simp [h.1, k.1], fun j kk e hk he => ?_⟩
  by_cases hj : j < a.length
  · rw [List.getElem?_append_left hj] at hk; rw [List.getElem?_append_left (by have := h.1; omega)] at he; exact h.2 j kk e hk he
  · rw [List.getElem?_append_right (by omega)] at hk; rw [List.getElem?_append_right (by have := h.1; omega)] at he
    rw [h.1] at hk
    exact k.2 _ kk e hk he
theorem Eb {E : Env} {k : Value × Nat × V} {e : MapEntry} (h1 : e.key = k.1) (h3 : a8 E k.2.2 e.val) : a8 E (Gs k) (.tuple #[.bool true, e.key, e.val]) := by
  refine .ch _ _ _ rfl fun i c y hc hy => ?_
  match i with
  | 0 => simp at hc hy; subst hc; subst hy; exact .sc _ _
  | 1 => simp at hc hy; subst hc; subst hy; rw [h1]; exact fR E _
  | 2 => simp at hc hy; subst hc; subst hy; exact h3
  | i + 3 => simp at hc

theorem rW {P : Program} {w : World} {n : Nat} (hn : 0 < n) : ∃ i w', (choose (.mapNext n)).run P w = .ok i w' ∧ i < n ∧ (w' = w ∨ w' = w.drew) := by
  unfold choose
  rw [Sem.run]
  split
  · exact ⟨0, w, rfl, hn, .inl rfl⟩
  · exact ⟨_, _, rfl, Nat.mod_lt _ hn, .inr rfl⟩
theorem bc.Nr {E : Env} {w w' : World} {a : Act} {st : St} (hs : bc E w a st) (h : w' = w ∨ w' = w.drew) : bc E w' a st ∧ dO E w E w' ∧ w'.heap = w.heap := by
  rcases h with rfl | rfl
  · exact ⟨hs, dO.refl _ _, rfl⟩
  · exact ⟨hs.drew, dO.drew _ _, rfl⟩
theorem xX {P : Program} {E : Env} {w : World} {a : Act} {st : St} (hs : bc E w a st) {dst : Option Tmp} {it : V} {x : Value} {str : Bool} {ty : TypeId} {Q : St → Prop} (hi : a8 E it x) (h : oz st dst it str Q) :
    ∃ z w' st', (Instr.next x str ty).run P w = .ok z w' ∧ bc E w' (a.put dst z) st' ∧ dO E w E w' ∧ Q st' := by
  unfold oz at h
  split at h
  · rename_i b
    split at h
    · rename_i m since seen last hB
      split at h
      · rename_i bK clock hM
        obtain ⟨rfl, ob, Ri, bp⟩ := h
        obtain ⟨g, gm, em, cm, hb, Ju, hh, hf⟩ := hs.mem b _ hB
        obtain ⟨es, Vq, hr, ZP, h0⟩ := gN hs hM Ju
        cases h0
        cases hi with
        | ptr _ _ _ g' e' c' dt =>
        rw [hb] at dt; cases dt
        have eC : (getObj g).run P w = .ok (.mapIter (some gm) since seen.toArray last) w := by simp [getObj, Sem.run, hh]
        have Ns : (!seen.toArray.isEmpty && !es.isEmpty && es.all (fun e => decide (e.born ≥ last))) = false := by
          rw [← ob]
          unfold wo
          have e1 : seen.toArray.isEmpty = seen.isEmpty := by simp
          have e2 : es.isEmpty = bK.isEmpty := by
            have h1 := hr.1
            rw [Bool.eq_iff_iff, Array.isEmpty_iff_size_eq_zero, List.isEmpty_iff, ← List.length_eq_zero_iff, h1, Array.length_toList]
          rw [e1, e2, ← Array.all_toList, ← cQ.all (fun n => decide (n ≥ last)) hr]
        have L6 : (es.filter fun e => !seen.toArray.contains e.born).toList = es.toList.filter fun e => !seen.contains e.born := by
          rw [Array.toList_filter]; simp
        have hl := cQ.filter (fun n => !seen.contains n) hr
        have ho := cQ.filter (fun n => decide (n < since)) hl
        have hw := cQ.filter (fun n => decide (n ≥ since)) hl
        have Rj := ho.append hw
        obtain ⟨L, hL⟩ : ∃ L, L = es.filter fun e => !seen.toArray.contains e.born := ⟨_, rfl⟩
        have hO : (L.filter fun e => decide (e.born < since)).toList = (es.toList.filter fun e => !seen.contains e.born).filter fun e => decide (e.born < since) := by rw [Array.toList_filter, hL, L6]
        have hN : (L.filter fun e => decide (e.born ≥ since)).toList = (es.toList.filter fun e => !seen.contains e.born).filter fun e => decide (e.born ≥ since) := by rw [Array.toList_filter, hL, L6]
        rw [← hO] at ho
        rw [← hO, ← hN] at Rj
        generalize Z9 : L.filter (fun e => decide (e.born < since)) = O at ho Rj
        generalize hNN : L.filter (fun e => decide (e.born ≥ since)) = N at Rj
        have VG : O.isEmpty = (rU bK seen since).isEmpty := by
          have h1 := ho.1
          rw [Bool.eq_iff_iff, Array.isEmpty_iff_size_eq_zero, List.isEmpty_iff, ← List.length_eq_zero_iff, ← Array.length_toList, ← h1]; rfl
        have Rk : 0 < ((if O.isEmpty then #[none] else #[]) ++ (O ++ N).map some : Array (Option MapEntry)).size := by
          by_cases Gt : O.isEmpty = true
          · rw [if_pos Gt]; simp; omega
          · rw [if_neg Gt]
            have : O.size ≠ 0 := fun h => Gt (Array.isEmpty_iff_size_eq_zero.2 h)
            simp; omega
        obtain ⟨i, w1, Jy, Ao, Qt⟩ := rW (P := P) (w := w) Rk
        obtain ⟨s1, v1, Rm⟩ := hs.Nr Qt
        have di : ∀ {R}, (match ((if O.isEmpty then #[none] else #[]) ++ (O ++ N).map some : Array (Option MapEntry))[i]? with
            | some (some e) => do setObj g (.mapIter (some gm) since (seen.toArray.push e.born) clock); pure (Value.tuple #[.bool true, e.key, e.val])
            | some none => (pure (Value.tuple #[.bool false]) : Sem Value)
            | none => stuck "Next: no such candidate").run P w1 = R → (Instr.next (.pointer (some ⟨g, 0, none⟩)) false ty).run P w = R := fun hR => by
          rw [← hR]
          simp only [Instr.next,Sem.run_bind,eC,Result.andThen_ok,ct Vq,Ns,Bool.false_eq_true,if_false,← hL,Z9,hNN,Jy]
          rfl
        have hci := Array.getElem?_eq_getElem Ao
        by_cases jg : i < (if O.isEmpty then #[none] else #[] : Array (Option MapEntry)).size
        · have Gt : O.isEmpty = true := by
            by_cases Gt : O.isEmpty = true
            · exact Gt
            · rw [if_neg Gt] at jg; simp at jg
          rw [if_pos Gt] at jg
          have AJ : i = 0 := by simp at jg; omega
          subst AJ
          have hold : rU bK seen since = [] := by rw [VG] at Gt; exact List.isEmpty_iff.1 Gt
          refine ⟨_, w1, _, di (R := Result.ok (Value.tuple #[.bool false]) w1) ?_, s1.put dst (.ch _ _ _ rfl fun i c y hc hy => ?_), v1, Ri hold⟩
          · rw [if_pos Gt, Array.getElem?_append_left (by simp)]; rfl
          · match i with
            | 0 => simp at hc hy; subst hc; subst hy; exact .sc _ _
            | i + 1 => simp at hc
        · obtain ⟨j, hj, UC⟩ : ∃ j, j < (O ++ N).size ∧ ((if O.isEmpty then #[none] else #[]) ++ (O ++ N).map some : Array (Option MapEntry))[i]? = some (some ((O ++ N)[j]!)) := by
            refine ⟨i - (if O.isEmpty then #[none] else #[] : Array (Option MapEntry)).size, ?_, ?_⟩
            · have := Ao; simp only [Array.size_append,Array.size_map] at this ⊢; omega
            · rw [Array.getElem?_append_right (by omega), Array.getElem?_map]
              have aL : i - (if O.isEmpty then #[none] else #[] : Array (Option MapEntry)).size < (O ++ N).size := by have := Ao; simp only [Array.size_append,Array.size_map] at this ⊢; omega
              rw [Array.getElem?_eq_getElem aL, getElem!_pos (O ++ N) _ aL]; rfl
          rw [getElem!_pos (O ++ N) _ hj] at UC
          obtain ⟨kb, eQ⟩ : ∃ kb, (rU bK seen since ++ Gr bK seen since)[j]? = some kb := ⟨_, List.getElem?_eq_getElem (by have h1 := Rj.1; simp only [List.length_append,Array.length_toList] at h1; simp only [List.length_append]; simp only [Array.size_append] at hj; exact Nat.lt_of_lt_of_eq hj h1.symm)⟩
          obtain ⟨en, hen, p1, p2, p3⟩ := Rj.get eQ
          have VH : (O ++ N)[j] = en := by
            have : (O ++ N).toList[j]? = some en := by rw [Array.toList_append]; exact hen
            rw [Array.getElem?_toList, Array.getElem?_eq_getElem hj] at this
            simpa using this
          rw [VH] at UC
          have Qu : w1.heap[g]? = some (.mapIter (some gm) since seen.toArray last) := by rw [Rm]; exact hh
          have oc : iP E { w1 with heap := w1.heap.setIfInBounds g (.mapIter (some gm) since (seen.toArray.push en.born) clock) } b (.eA m since (seen ++ [kb.2.1]) clock) := by
            refine ⟨g, gm, 0, 0, hb, Ju, ?_, hf⟩
            rw [heap_set Qu, p2]; simp
          obtain ⟨q1, q2⟩ := s1.v8 hB rfl (B' := .eA m since (seen ++ [kb.2.1]) clock) rfl hb hf lS oc
          refine ⟨.tuple #[.bool true, en.key, en.val], _, _, di ?_, q1.put dst (Eb p1 p3), v1.trans q2, bp kb (List.mem_of_getElem? eQ)⟩
          rw [UC]
          have := eh (P := P) (o' := .mapIter (some gm) since (seen.toArray.push en.born) clock) Qu (by simp)
          dsimp only
          rw [Sem.run_bind, this]; rfl
      · exact h.elim
    · rename_i s pos hB
      obtain ⟨rfl, rX⟩ := h
      obtain ⟨g, hb, hh, hf⟩ := hs.mem b _ hB
      cases hi with
      | ptr _ _ _ g' e' c' dt =>
      rw [hb] at dt; cases dt
      have eC : (getObj g).run P w = .ok (.stringIter s pos) w := by simp [getObj, Sem.run, hh]
      split at rX
      · rename_i aL
        obtain ⟨q1, q2⟩ := hs.v8 hB rfl (B' := .iO s (pos + (Utf8.decode s pos).2)) rfl hb hf (lS (o := .stringIter s (pos + (Utf8.decode s pos).2))) ⟨g, hb, heap_set hh, hf⟩
        refine ⟨.tuple #[.bool true, goInt pos, .int .i32 (Utf8.decode s pos).1], _, _, ?_, q1.put dst (.ch _ _ _ rfl fun i c y hc hy => ?_), q2, rX⟩
        · have := eh (P := P) (o' := .stringIter s (pos + (Utf8.decode s pos).2)) hh (by simp)
          simp [Instr.next, eC, aL, this]
        · match i with
          | 0 => simp at hc hy; subst hc; subst hy; exact .sc _ _
          | 1 => simp at hc hy; subst hc; subst hy; exact .sc _ _
          | 2 => simp at hc hy; subst hc; subst hy; exact .sc _ _
          | i + 3 => simp at hc
      · rename_i aL
        refine ⟨.tuple #[.bool false], w, _, by simp [Instr.next, eC, aL], hs.put dst (.ch _ _ _ rfl fun i c y hc hy => ?_), dO.refl _ _, rX⟩
        match i with
        | 0 => simp at hc hy; subst hc; subst hy; exact .sc _ _
        | i + 1 => simp at hc
    · rename_i hB
      obtain ⟨rfl, rX⟩ := h
      obtain ⟨g, hb, hh, hf⟩ := hs.mem b _ hB
      cases hi with
      | ptr _ _ _ g' e' c' dt =>
      rw [hb] at dt; cases dt
      have eC : (getObj g).run P w = .ok (.mapIter none 0 #[] 0) w := by simp [getObj, Sem.run, hh]
      refine ⟨.tuple #[.bool false], w, _, by simp [Instr.next, eC], hs.put dst (.ch _ _ _ rfl fun i c y hc hy => ?_), dO.refl _ _, rX⟩
      match i with
      | 0 => simp at hc hy; subst hc; subst hy; exact .sc _ _
      | i + 1 => simp at hc
    · exact h.elim
  · exact h.elim

def kg (P : Program) (mem : List aC) (T : TypeId) (x : V) : Option aC :=
  match x with
  | .mp b => match mem[b]? with
    | some (.map _ clock) => match dG P T with | some _ => some (.eA b clock [] clock) | none => none
    | _ => none
  | .sc (.map none) => match dG P T with | some _ => some .je | none => none
  | .sc (.string s) => match P.underlying T with | some .string => some (.iO s 0) | _ => none
  | _ => none
theorem CO {E : Env} {w : World} {a : Act} {st : St} (hs : bc E w a st) (o : Nat) : E.F ⟨w.heap.size, o, none⟩ = none := by
  cases hx : E.F ⟨w.heap.size, o, none⟩ with
  | none => rfl
  | some x => have := World.block_lt_of_cell? w _ (hs.F _ _ hx); simp at this
theorem bc.newObj {E : Env} {w : World} {a : Act} {st : St} (hs : bc E w a st) {key : Nat} (hk : ei st.mem key) {obj : Obj} {B : aC} (hv : B.bW = 0) (hB : iP (E.with key 0 (w.heap.size, 0, 0)) (w.alloc obj) key B) :
    ∃ E', bc E' (w.alloc obj) a { st with mem := bj st.mem key B } ∧ dO E w E' (w.alloc obj) ∧ E'.aM key 0 = some (w.heap.size, 0, 0) := by
  have := hs.new (obj := obj) (B := B) (e := 0) (c := 0) hk hv hB
  exact ⟨_, this.1, this.2, if_pos ⟨rfl, rfl⟩⟩
theorem rY {P : Program} {E : Env} {w : World} {a : Act} {st : St} (hs : bc E w a st) {key : Nat} (hk : ei st.mem key) {T : TypeId} {x : V} {y : Value} {B : aC} (hx : a8 E x y) (h : kg P st.mem T x = some B) :
    ∃ E' w', (Instr.range T y).run P w = .ok (.pointer (some ⟨w.heap.size, 0, none⟩)) w' ∧ bc E' w' a { st with mem := bj st.mem key B } ∧ dO E w E' w' ∧ a8 E' (.ptr key 0) (.pointer (some ⟨w.heap.size, 0, none⟩)) := by
  have cp : (E.with key 0 (w.heap.size, 0, 0)).aM key 0 = some (w.heap.size, 0, 0) := if_pos ⟨rfl, rfl⟩
  unfold kg at h
  split at h
  · rename_i b
    split at h
    · rename_i bK clock hB
      split at h
      · rename_i p hp
        cases h
        obtain ⟨kt, et⟩ := p
        have hd := fE hp
        obtain ⟨g, e, c, rfl, hb⟩ := nC hx
        obtain ⟨es, hh, hr, -⟩ := gN hs hB hb
        have bL : b ≠ key := fun e => by subst e; rw [hs.free hk 0] at hb; cases hb
        obtain ⟨E', h1, h2, h3⟩ := hs.newObj hk (obj := .mapIter (some g) clock #[] clock) (B := .eA b clock [] clock) rfl ⟨w.heap.size, g, e, c, cp, (if_neg fun h => bL h.1).trans hb, heap_alloc_new w _, fun o => CO (E := E) hs o⟩
        exact ⟨E', _, by simp [Instr.range, ao hd, ct hh, newObj, Sem.run], h1, h2, .ptr _ _ _ _ 0 0 h3⟩
      · cases h
    · cases h
  · obtain rfl := mE hx
    split at h
    · rename_i p hp
      cases h
      obtain ⟨kt, et⟩ := p
      have hd := fE hp
      obtain ⟨E', h1, h2, h3⟩ := hs.newObj hk (obj := .mapIter none 0 #[] 0) (B := .je) rfl ⟨w.heap.size, cp, heap_alloc_new w _, fun o => CO (E := E) hs o⟩
      exact ⟨E', _, by simp [Instr.range, ao hd, newObj, Sem.run], h1, h2, .ptr _ _ _ _ 0 0 h3⟩
    · cases h
  · rename_i s
    obtain rfl := mE hx
    split at h
    · rename_i hd
      cases h
      obtain ⟨E', h1, h2, h3⟩ := hs.newObj hk (obj := .stringIter s 0) (B := .iO s 0) rfl ⟨w.heap.size, cp, heap_alloc_new w _, fun o => CO (E := E) hs o⟩
      exact ⟨E', _, by simp [Instr.range, ao hd, newObj, Sem.run], h1, h2, .ptr _ _ _ _ 0 0 h3⟩
    · cases h
  · cases h
theorem ud {P : Program} {E : Env} {w : World} {a : Act} {st : St} (hs : bc E w a st) {key : Nat} (hk : ei st.mem key) (T : TypeId) :
    ∃ E' w', (Instr.makeMap T none).run P w = .ok (.map (some w.heap.size)) w' ∧ bc E' w' a { st with mem := bj st.mem key (.map [] 0) } ∧ dO E w E' w' ∧ a8 E' (.mp key) (.map (some w.heap.size)) := by
  have cp : (E.with key 0 (w.heap.size, 0, 0)).aM key 0 = some (w.heap.size, 0, 0) := if_pos ⟨rfl, rfl⟩
  obtain ⟨E', h1, h2, h3⟩ := hs.newObj hk (obj := .map #[] 0) (B := .map [] 0) rfl ⟨w.heap.size, #[], cp, heap_alloc_new w _, ⟨rfl, fun i k e h => by simp at h⟩, fun o => CO (E := E) hs o⟩
  exact ⟨E', _, by simp [Instr.makeMap, newObj, Sem.run], h1, h2, .mp _ _ _ 0 0 h3⟩
def rv (i : Ti) : V := if i.agg = true then .agg (i.zero.map fun z => kP (.sc z)) else match i.zero with | z :: _ => kP (.sc z) | [] => .undef
def nk (tt : Table) (T : TypeId) (l c : V) : Option (Nat × List V × Nat) :=
  match l, c with
  | .sc (.int _ l), .sc (.int _ c) => match dT tt T with
    | some e => match tt e with
      | some i => if 0 ≤ l ∧ l ≤ c ∧ i.bytes * c ≤ 281474976710656 ∧ c ≤ 1152921504606846976 ∧ 0 < i.size ∧ i.zero.length = i.size ∧ i.zero.all Value.oneCell' = true ∧ (i.agg = true ∨ i.size = 1) then some (i.size, List.replicate l.toNat (rv i), c.toNat) else none
      | none => none
    | none => none
  | _, _ => none
theorem ue {i : Ti} (h : i.agg = true ∨ i.size = 1) (hz : i.zero.length = i.size) : (rv i).cells = i.zero.map fun z => kP (.sc z) := by
  unfold rv
  split
  · rfl
  · rename_i hn
    have h1 : i.size = 1 := by rcases h with h | h
                               · exact absurd h hn
                               · exact h
    match L7 : i.zero with
    | [] => rw [L7] at hz; simp at hz; omega
    | [z] => simp only [List.map_cons,List.map_nil]; unfold kP; split <;> rfl
    | _ :: _ :: _ => rw [L7] at hz; simp at hz; omega
theorem xY {P : Program} {tt : Table} (ht : TT P tt) {E : Env} {w : World} {a : Act} {st : St} (hs : bc E w a st) {key : Nat} (hk : ei st.mem key) {T : TypeId} {l c : V} {x y : Value} {size cap : Nat} {rs : List V} (hl : a8 E l x) (hc : a8 E c y)
    (h : nk tt T l c = some (size, rs, cap)) :
    ∃ E' w', (Instr.makeSlice T x y).run P w = .ok (.slice (some ⟨w.heap.size, 0, none⟩) rs.length cap) w' ∧ bc E' w' a { st with mem := bj st.mem key (.rows 0 size rs) } ∧ dO E w E' w' ∧ a8 E' (.ms key 0 0 rs.length) (.slice (some ⟨w.heap.size, 0, none⟩) rs.length cap) := by
  unfold nk at h
  split at h
  · rename_i k1 l k2 c
    obtain rfl := mE hl
    obtain rfl := mE hc
    unfold dT at h
    cases hT : tt T with
    | none => rw [hT] at h; simp at h
    | some iT =>
      rw [hT] at h; simp only at h
      cases he : iT.elem with
      | none => rw [he] at h; simp at h
      | some e =>
        rw [he] at h; simp only at h
        cases hE : tt e with
        | none => rw [hE] at h; simp at h
        | some i =>
          rw [hE] at h; simp only at h
          split at h
          · rename_i ow
            obtain ⟨h0, h1, hb, wq, gC, xS, jX, JW⟩ := ow
            cases h
            obtain ⟨d, hd, -, qp, -⟩ := ht.desc T iT hT
            obtain rfl := qp e he
            obtain ⟨info, oe, JS, Qs, z, hz, L7⟩ := ht.size e i hE
            have D8 : z.cells.size = i.size := by rw [← xS, ← L7]; simp
            have hwl : IntKind.i64.wrap l = l := by rw [IntWalk.i64_in _ (by omega)]
            have JX : IntKind.i64.wrap c = c := by rw [IntWalk.i64_in _ (by omega)]
            obtain ⟨xs, kG⟩ : ∃ xs : Array Value, xs = (Array.range (c.toNat * i.size)).map (z.cells[· % z.cells.size]!) := ⟨_, rfl⟩
            have di : (Instr.makeSlice T (.int k1 l) (.int k2 c)).run P w = .ok (.slice (some ⟨w.heap.size, 0, none⟩) l.toNat c.toNat) (w.alloc (.cells xs e (0, 0))) := by
              have e0 : (decide (c < 0) || decide ((info.bytes : Int) * c > 2 ^ 48)) = false := by
                rw [Qs]
                simp only [Bool.or_eq_false_iff,decide_eq_false_iff_not]
                exact ⟨by omega, by omega⟩
              have e1 : (decide (l < 0)) = false := by simp; omega
              have e2 : (decide (l > c)) = false := by simp; omega
              have Nt : (zeroValue e).run P (w) = .ok z w := by simp [zeroValue, cy oe, hz]
              simp only [Instr.makeSlice,Sem.run_bind,ao hd,Result.andThen_ok,asInt,asIntOf,Sem.run_pure,cy oe,hwl,JX,e0,e1,e2,Bool.or_self,Bool.false_eq_true,if_false,run_askRoom,dE oe,JS]
              by_cases hn : c.toNat * i.size = 0
              · have j9 : xs = #[] := by rw [kG, hn]; simp
                have JV : ∀ f : Nat → Value, Array.map f (Array.range 0) = #[] := fun f => Array.eq_empty_of_size_eq_zero (by simp)
                simp only [hn,if_true,Sem.run_pure,Result.andThen_ok,JV,j9]
                rfl
              · simp only [hn,if_false,Sem.run_bind,Nt,Result.andThen_ok,Sem.run_pure]
                simp [newRow, kG]
            obtain ⟨E', g1, g2, g3⟩ := hs.ot hk (xs := xs) (rs := List.replicate l.toNat (rv i)) (e := i.size) (c := c.toNat) e (by rw [kG]; simp) (by simp; omega) (fun q row hq => by
              rw [List.getElem?_replicate] at hq
              split at hq
              · rename_i UB
                cases hq
                have lR := ue JW xS
                refine ⟨by rw [lR]; simpa using xS, fun j cc hj => ?_⟩
                rw [lR, List.getElem?_map, Option.map_eq_some_iff] at hj
                obtain ⟨v, hv, rfl⟩ := hj
                have rk : j < i.size := by rw [← xS]; exact (List.getElem?_eq_some_iff.1 hv).1
                have aL : q * i.size + j < c.toNat * i.size := by
                  have : (q + 1) * i.size ≤ c.toNat * i.size := Nat.mul_le_mul_right _ (by omega)
                  rw [Nat.succ_mul] at this; omega
                have VI : (q * i.size + j) % i.size = j := by rw [Nat.add_comm, Nat.add_mul_mod_self_right, Nat.mod_eq_of_lt rk]
                refine ⟨v, ?_, List.all_eq_true.1 jX v (List.mem_of_getElem? hv), ox (.sc _ _)⟩
                rw [kG]
                have YH : z.cells[j]? = some v := by rw [← Array.getElem?_toList, L7]; exact hv
                have YI : j < z.cells.size := by omega
                simp only [Array.getElem?_map,Array.getElem?_range,aL,if_true,Option.map_some,D8,VI]
                rw [getElem!_pos z.cells j YI]
                rw [Array.getElem?_eq_getElem YI] at YH
                exact YH
              · cases hq)
            refine ⟨E', _, ?_, g1, g2, ?_⟩
            · simpa using di
            · simpa using g3
          · cases h
  · cases h
end Go.Eng
end

section
namespace Go.Eng
variable [aK]
open Go.RowKit (Below)
def jM (tt : Table) (mem : List aC) (ts : List TypeId) (s x : V) : Option (Nat × Nat × Nat × Nat × List V × List V) :=
 match s with
 | .ms b v o l => match mem[b]? with
  | some (.rows v' eb rs) => match ts with
   | [t, u] => match dT tt t with
    | some e => match dT tt u with
     | some _ => match tt e with
      | some i =>
       if v' = v ∧ eb = i.size ∧ o + l = rs.length ∧ 0 < i.size ∧ i.bytes ≤ 4096 ∧ i.zero.length = i.size then
        match rowsOf mem i.size x with
        | some xs => if l + xs.length ≤ 34359738368 then some (i.size, b, v, l, rs.drop o, xs) else none
        | none => none
       else none
      | none => none
     | none => none
    | none => none
   | _ => none
  | _ => none
 | _ => none
theorem uf {P : Program} {tt : Table} (ht : TT P tt) {E : Env} {w : World} {a : Act} {st : St} (hs : bc E w a st) {ts : Array TypeId} {ty : TypeId} {s x : V} {y z : Value} {size b v l : Nat} {UD xs : List V}
  (D7 : a8 E s y) (Ge : a8 E x z) (h : jM tt st.mem ts.toList s x = some (size, b, v, l, UD, xs)) :
  ∃ u w' E' o' rs', (Builtin.append_ ts ty #[y, z]).run P w = .ok u w' ∧ rs'.drop o' = UD ++ xs ∧ o' + (l + xs.length) = rs'.length ∧ bc E' w' a { st with mem := st.mem.set b (.rows (v + 1) size rs') } ∧ dO E w E' w' ∧ a8 E' (.ms b (v + 1) o' (l + xs.length)) u := by
 unfold jM at h
 split at h
 ·rename_i b1 v1 o l1
  split at h
  ·rename_i v' eb rs hm
   split at h
   ·rename_i t u JT
    obtain rfl : ts = #[t, u] := by rw [← Array.toArray_toList (xs := ts), JT]
    split at h
    ·rename_i e he
     split at h
     ·rename_i e' Qr
      split at h
      ·rename_i i hE
       split at h
       ·rename_i hc
        obtain ⟨rfl, rfl, YJ, gC, rS, xS⟩ := hc
        split at h
        ·rename_i og kG
         split at h
         ·rename_i hlen
          simp only [Option.some.injEq,Prod.mk.injEq] at h
          obtain ⟨rfl, rfl, rfl, rfl, rfl, rfl⟩ := h
          have YK : ∀ {t e : TypeId}, dT tt t = some e → P.underlying t = some (.slice e) := fun {t e} he => by
           unfold dT at he
           split at he
           ·rename_i iu hU
            obtain ⟨d, hd, -, qp, -⟩ := ht.desc t iu hU
            rw [hd, qp e he]
           ·simp at he
          have hd := YK he
          have CI := YK Qr
          obtain ⟨info, oe, JS, Qs, z0, Nl, Qp⟩ := ht.size e i hE
          have D8 : z0.cells.size = info.size := by rw [JS, ← xS, ← Qp]; simp
          rw [← JS] at kG gC hm ⊢
          rw [← Qs] at rS
          have L3 : bc E w.drew a st := hs.drew
          obtain ⟨xa, xc, rfl, ZX, xA, ua, CJ⟩ := eo (P := P) hs Ge kG
          obtain ⟨ZY, ZZ, heq, -, xB, Rf, Nn⟩ := eo (P := P) L3 Ge kG
          simp only [Value.slice.injEq] at heq
          obtain ⟨rfl, -, rfl⟩ := heq
          have xT : ∀ eE, eE < l1 + og.length → Builtin.nextslicecap (l1 + og.length) eE * info.bytes ≤ 281474976710656 := fun eE aL =>
           growslice_fits aL (Nat.le_trans (Nat.mul_le_mul hlen rS) (by decide))
          have hZ : (rs.drop o).length = l1 := by rw [List.length_drop]; omega
          have CH : (rs.drop o ++ og).length = l1 + og.length := by rw [List.length_append, hZ]
          have cP : ∀ eE, l1 + og.length ≤ grownCap w (l1 + og.length) eE e := fun eE => grownCap_ge w (l1 + og.length) eE e
          have Nh : rowsOf st.mem info.size (.ms b1 v' o l1) = some (rs.drop o) := by
           have h1 : o + l1 ≤ rs.length := by omega
           simp [rowsOf, hm, h1]
           rw [List.take_of_length_le (by rw [List.length_drop]; omega)]
          obtain ⟨sa, sc, rfl, YF, A, JU, CM⟩ := eo (P := P) L3 D7 Nh
          rw [hZ] at JU D7 ⊢
          have lR : ∀ eE, (A ++ xB ++ Builtin.zeroCells z0.cells (grownCap w (l1 + og.length) eE e - (l1 + og.length))).size = grownCap w (l1 + og.length) eE e * info.size := fun eE => by
           simp only [Array.size_append,size_zeroCells,D8,CM.1,Nn.1,hZ,← Nat.add_mul]
           congr 1; have := cP eE; omega
          by_cases oy : l1 + og.length ≤ sc
          ·rcases wh D7 with ⟨D3, Gn⟩ | ⟨g, Z6, c, YE, Z7, Gn, hb, hl, Jt, CE⟩
           ·simp only [Value.slice.injEq] at Gn
            obtain ⟨rfl, Vz, rfl⟩ := Gn
            have j9 : og = [] := List.length_eq_zero_iff.1 (by omega)
            subst j9
            have Rn : l1 = 0 := by omega
            subst Rn
            have JV : rs.drop o = [] := List.length_eq_zero_iff.1 hZ
            rw [JV]
            exact ⟨_, w, E, 0, [], eT (ty := ty) hd CI oe xc xa xA ua, rfl, rfl, hs.xV hm, dO.refl E w, .dg _ _ _ _⟩
           ·simp only [Value.slice.injEq] at Gn
            obtain ⟨rfl, -, rfl⟩ := Gn
            obtain ⟨Jy, Ao, Qt⟩ := CE
            rcases hs.mem b1 _ hm with ⟨-, hn⟩ | ⟨g', T', cur, c', dt, hh, pC, gj, uE, hf⟩
            ·rw [hb] at hn; cases hn
            rw [hb] at dt; cases dt
            by_cases VJ : sc = 0
            ·-- nothing at all
             have j9 : og = [] := List.length_eq_zero_iff.1 (by omega)
             subst j9
             have Rn : l1 = 0 := by omega
             subst Rn
             subst VJ
             have JV : rs.drop o = [] := List.length_eq_zero_iff.1 hZ
             have di : (Builtin.append_ #[t, u] ty #[.slice sa 0 0, .slice xa 0 xc]).run P w = .ok (.slice sa 0 0) w := by
              cases sa with
              | none => exact eT (ty := ty) hd CI oe xc xa xA ua
              | some ad =>
               have VK : xA.toList = [] := by
                have := CJ.1
                simp at this
                simpa using this
               have hfc : (Builtin.firstCells info.size 0 (.slice xa 0 xc)).run P w = .ok xA w := ua
               simp [Builtin.append_, ao hd, ao CI, dE oe, Builtin.lenOf, hfc, VK, storeCells]
             have hle : E.le (E.with b1 (v' + 1) (g, info.size, c)) := Env.gO (hs.bW b1 _ hm _ (Nat.lt_succ_self v')) _
             have cp : (E.with b1 (v' + 1) (g, info.size, c)).aM b1 (v' + 1) = some (g, info.size, c) := if_pos ⟨rfl, rfl⟩
             refine ⟨_, w, E.with b1 (v' + 1) (g, info.size, c), o, rs, di, by simp [JV], by omega, hs.renew hm hs.F (Nat.le_refl _) (hs.lt _ _ _ _ _ hb) (fun k B' eQ fF L4 g' e' c' fh => ⟨rfl, fun e => by subst e; exact eQ (hs.apart _ _ _ _ _ _ _ _ _ fh hb)⟩) ?_ (fun k v2 e2 c2 h => hs.apart _ _ _ _ _ _ _ _ _ h hb),
              ⟨hle, fun k q g' e' c' eQ => ?_, fun ad y hy => .inl hy, rfl, rfl, rfl, Nat.le_refl _, fun _ _ _ => rfl⟩, ?_⟩
             ·exact .inr ⟨g, T', cur, c, cp, hh, pC, gj, fun q row hq => let ⟨h3, h4⟩ := uE q row hq; ⟨h3, fun j cc hj => let ⟨v, hv, xz, D9⟩ := h4 j cc hj; ⟨v, hv, xz, D9.mono (Env.ft hle)⟩⟩, hf⟩
             ·by_cases hq : k = b1 ∧ q = v' + 1
              ·obtain ⟨rfl, rfl⟩ := hq; rw [cp] at eQ; cases eQ; exact .inl ⟨_, _, _, _, hb⟩
              ·have : (E.with b1 (v' + 1) (g, info.size, c)).aM k q = E.aM k q := if_neg hq
               rw [this] at eQ; exact .inl ⟨_, _, _, _, eQ⟩
             ·exact .ms _ _ _ _ _ g info.size c _ _ cp (fun h => absurd h (by simp)) (fun h => Jt h) ⟨by simp, Ao, fun h => absurd h (Nat.lt_irrefl _)⟩
            ·obtain rfl := Qt (by omega)
             have rT : rs.length * info.size + xA.toList.length ≤ cur.size := by
              have := CJ.1
              simp only [Array.length_toList]
              rw [this, pC, ← Nat.add_mul]; exact Nat.mul_le_mul_right _ (by omega)
             obtain ⟨w', ob, Jx, wi⟩ := ek (P := P) (g := g) (T := T') (rs.length * info.size) xA.toList 0 w cur hh (by simpa using rT) (qv gC CJ)
             have di : (Builtin.append_ #[t, u] ty #[.slice (some ⟨g, o * info.size, none⟩) l1 sc, .slice xa og.length xc]).run P w = .ok (.slice (some ⟨g, o * info.size, none⟩) (l1 + og.length) sc) w' := by
              have Gu : (storeCells (Addr.add ⟨g, o * info.size, none⟩ (l1 * info.size)) xA.toList).run P w = .ok () w' := by
               rw [add_lit, ← Nat.add_mul, YJ]; exact ob
              simp [Builtin.append_, ao hd, ao CI, dE oe, Builtin.lenOf, oy, ua, Gu]
             have hle : E.le (E.with b1 (v' + 1) (g, info.size, c)) := Env.gO (hs.bW b1 _ hm _ (Nat.lt_succ_self v')) _
             have cp : (E.with b1 (v' + 1) (g, info.size, c)).aM b1 (v' + 1) = some (g, info.size, c) := if_pos ⟨rfl, rfl⟩
             refine ⟨_, w', E.with b1 (v' + 1) (g, info.size, c), o, rs ++ og, di, by rw [List.drop_append_of_le_length (by omega)], by rw [List.length_append]; omega, hs.renew hm (fun ad y hy => ?_) (by rw [wi.size]; exact Nat.le_refl _) (by rw [wi.size]; exact hs.lt _ _ _ _ _ hb) (fun k B' eQ fF L4 g' e' c' fh => ?_) ?_ (fun k v2 e2 c2 h => hs.apart _ _ _ _ _ _ _ _ _ h hb),
              ⟨hle, fun k q g' e' c' eQ => ?_, fun ad y hy => .inl hy, wi.os, wi.tape, wi.output, by rw [wi.size]; exact Nat.le_refl _, fun b' dt bL => wi.heap b' fun e => by subst e; exact bL _ _ _ _ hb⟩, ?_⟩
             ·have bL := hs.v7 hf hy
              rw [← hs.F ad y hy]; simp [World.cell?, wi.heap _ bL]
             ·have Rh : g' ≠ g := fun e => by
               subst e
               exact eQ (hs.apart _ _ _ _ _ _ _ _ _ fh hb)
              exact ⟨wi.heap _ Rh, Rh⟩
             ·refine .inr ⟨g, T', _, c, cp, Jx, by rw [e9]; exact pC, by rw [List.length_append]; omega, ?_, hf⟩
              intro q row hq
              simp only [Nat.add_zero]
              have xC : xA.toList.length = og.length * info.size := by simpa using CJ.1
              rw [List.getElem?_append] at hq
              split at hq
              ·rename_i aL
               obtain ⟨h3, h4⟩ := uE q row hq
               refine ⟨h3, fun j cc hj => ?_⟩
               obtain ⟨v, hv, xz, D9⟩ := h4 j cc hj
               have rk : j < info.size := by rw [← h3]; exact (List.getElem?_eq_some_iff.1 hj).1
               refine ⟨v, ?_, xz, D9⟩
               rw [ea _ _ _ _ rT, if_neg (by have := rP aL rk; omega)]
               exact hv
              ·rename_i VE
               obtain ⟨h3, h4⟩ := CJ.2 _ row hq
               refine ⟨h3, fun j cc hj => ?_⟩
               obtain ⟨v, hv, xz, D9⟩ := h4 j cc hj
               have rk : j < info.size := by rw [← h3]; exact (List.getElem?_eq_some_iff.1 hj).1
               have UB : q - rs.length < og.length := (List.getElem?_eq_some_iff.1 hq).1
               have hmul : q * info.size = rs.length * info.size + (q - rs.length) * info.size := by rw [← Nat.add_mul]; congr 1; omega
               refine ⟨v, ?_, xz, D9⟩
               rw [ea _ _ _ _ rT, if_pos (by have := rP UB rk; omega)]
               dsimp only at hv
               rw [← hv, Array.getElem?_toList]
               congr 1; omega
             ·by_cases hq : k = b1 ∧ q = v' + 1
              ·obtain ⟨rfl, rfl⟩ := hq; rw [cp] at eQ; cases eQ; exact .inl ⟨_, _, _, _, hb⟩
              ·have : (E.with b1 (v' + 1) (g, info.size, c)).aM k q = E.aM k q := if_neg hq
               rw [this] at eQ; exact .inl ⟨_, _, _, _, eQ⟩
             ·exact .ms _ _ _ _ _ g info.size c _ _ cp (fun _ => rfl) (fun h => Jt h) ⟨oy, Ao, fun _ => rfl⟩
          ·-- a new block
           have aL : sc < l1 + og.length := by omega
           have di := fX (ty := ty) hd CI oe Nl sa l1 sc og.length xc xa A xB JU Rf aL (by omega) (xT sc aL)
           have hle : E.le (E.with b1 (v' + 1) (w.heap.size, info.size, grownCap w (l1 + og.length) sc e)) := Env.gO (hs.bW b1 _ hm _ (Nat.lt_succ_self v')) _
           have cp : (E.with b1 (v' + 1) (w.heap.size, info.size, grownCap w (l1 + og.length) sc e)).aM b1 (v' + 1) = some (w.heap.size, info.size, grownCap w (l1 + og.length) sc e) := if_pos ⟨rfl, rfl⟩
           refine ⟨_, _, E.with b1 (v' + 1) (w.heap.size, info.size, grownCap w (l1 + og.length) sc e), 0, rs.drop o ++ og, di, rfl, by rw [CH]; omega, hs.renew hm (fun ad y hy => ?_) (by simp) (by simp) (fun k B' eQ fF L4 g' e' c' fh => ?_) ?_ (fun k v2 e2 c2 h => absurd (hs.lt _ _ _ _ _ h) (Nat.lt_irrefl _)),
            ⟨hle, fun k q g' e' c' eQ => ?_, fun ad y hy => .inl hy, rfl, rfl, rfl, by simp, fun b' dt bL => Go.RowKit.Below.heap_alloc w.drew _ b' dt⟩, ?_⟩
           ·rw [World.cell?_alloc_lt w.drew _ ad (World.block_lt_of_cell? w ad (hs.F ad y hy))]; exact hs.F ad y hy
           ·have := hs.lt _ _ _ _ _ fh
            exact ⟨Go.RowKit.Below.heap_alloc w.drew _ g' this, by omega⟩
           ·refine .inr ⟨w.heap.size, e, _, _, cp, heap_alloc_new w.drew _, lR sc, by rw [CH]; exact cP sc, ?_, fun o => ?_⟩
            ·intro q row hq
             obtain ⟨h3, h4⟩ := gP (C := Builtin.zeroCells z0.cells (grownCap w (l1 + og.length) sc e - (l1 + og.length))) CM Nn q row hq
             exact ⟨h3, fun j cc hj => let ⟨v, hv, xz, D9⟩ := h4 j cc hj; ⟨v, hv, xz, D9.mono (Env.ft hle)⟩⟩
            ·show E.F _ = none
             cases hx : E.F ⟨w.heap.size, o, none⟩ with
             | none => rfl
             | some x => have := World.block_lt_of_cell? w _ (hs.F _ _ hx); simp at this
           ·by_cases hq : k = b1 ∧ q = v' + 1
            ·obtain ⟨rfl, rfl⟩ := hq; rw [cp] at eQ; cases eQ; exact .inr (Nat.le_refl _)
            ·have : (E.with b1 (v' + 1) (w.heap.size, info.size, grownCap w (l1 + og.length) sc e)).aM k q = E.aM k q := if_neg hq
             rw [this] at eQ; exact .inl ⟨_, _, _, _, eQ⟩
           ·exact .ms _ _ _ _ _ w.heap.size info.size _ _ _ cp (fun _ => by simp) (fun _ => ⟨rfl, rfl⟩) ⟨cP sc, Nat.zero_add _, fun _ => by simp⟩
         ·simp at h
        ·simp at h
       ·simp at h
      ·simp at h
     ·simp at h
    ·simp at h
   ·simp at h
  ·simp at h
 ·simp at h
end Go.Eng
end

section
namespace Go.Eng
variable [aK]
open Go.RowKit (Below)

def br (mem : List aC) : V → Option V
  | .undef => some .undef
  | .sc v => some (kP (.sc v))
  | .slice rows => some (.slice rows)
  | .full rows => some (.slice rows)
  | .cn cs => some (.cn cs)
  | .gn => some .gn
  | .ms b v s l => match mem[b]? with
    | some (.rows v' _ rs) => if v' = v ∧ s + l ≤ rs.length then some (.slice ((rs.drop s).take l)) else none
    | some (.pB v' _ rs) => if v' = v ∧ s + l ≤ rs.length then some (.slice ((rs.drop s).take l)) else none
    | _ => none
  | .iw f [] [] => some (.sc (.func f #[] #[]))
  | _ => none
def dH (mem : List aC) : List V → Option (List V)
  | [] => some []
  | c :: r => match br mem c with
    | some c' => match dH mem r with | some r' => some (c' :: r') | none => none
    | none => none
def dR (mem : List aC) : V → Option V
  | .agg cs => match dH mem cs with | some l => some (.agg l) | none => none
  | v => br mem v
def dx (mem : List aC) : List V → Option (List V)
  | [] => some []
  | c :: r => match dR mem c with
    | some c' => match dx mem r with | some r' => some (c' :: r') | none => none
    | none => none
def Nu (mem : List aC) : V → Option V
  | .ch vs => match dx mem vs with | some l => some (.ch l) | none => none
  | v => dR mem v

def fa : V → List (Nat × Nat)
  | .ms b v _ _ => [(b, v)]
  | _ => []
def de : V → List (Nat × Nat)
  | .agg cs => cs.flatMap fa
  | v => fa v
def refs : V → List (Nat × Nat)
  | .ch vs => vs.flatMap de
  | v => de v

def Env.kH (E : Env) (w : World) (keys : List (Nat × Nat)) : Env :=
  { F := fun ad => match E.F ad with
      | some x => some x
      | none => if keys.any (fun k => match E.aM k.1 k.2 with | some (g, _, _) => g == ad.block | none => false) then w.cell? ad else none
    aM := E.aM
    gl := E.gl.mono fun ad x h => by simp only [h] }
theorem Env.pK (E : Env) (w : World) (keys : List (Nat × Nat)) : E.le (E.kH w keys) := ⟨fun ad x h => by simp [Env.kH, h], fun _ _ _ h => h⟩
theorem Env.CP {E : Env} {w : World} {keys : List (Nat × Nat)} (hF : ∀ ad x, E.F ad = some x → w.cell? ad = some x) {ad : Addr} {x : Value} (h : (E.kH w keys).F ad = some x) : w.cell? ad = some x := by
  unfold Env.kH at h
  dsimp only at h
  split at h
  · rename_i y hy; cases h; exact hF _ _ hy
  · split at h
    · exact h
    · cases h
theorem Env.wu {E : Env} {w : World} {keys : List (Nat × Nat)} {ad : Addr} {x : Value} (h : (E.kH w keys).F ad = some x) : E.F ad = some x ∨ ∃ k ∈ keys, ∃ e c, E.aM k.1 k.2 = some (ad.block, e, c) := by
  unfold Env.kH at h
  dsimp only at h
  split at h
  · rename_i y hy; cases h; exact .inl hy
  · split at h
    · rename_i Nv
      obtain ⟨k, hk, hm⟩ := List.any_eq_true.1 Nv
      split at hm
      · rename_i g e c hb
        simp only [beq_iff_eq] at hm; subst hm
        exact .inr ⟨k, hk, e, c, hb⟩
      · cases hm
    · cases h
theorem Env.Nw {E : Env} {w : World} {keys : List (Nat × Nat)} {k v g e c : Nat} (hk : (k, v) ∈ keys) (hb : E.aM k v = some (g, e, c)) {o : Nat} {x : Value} (hn : E.F ⟨g, o, none⟩ = none) (hx : w.cell? ⟨g, o, none⟩ = some x) : (E.kH w keys).F ⟨g, o, none⟩ = some x := by
  have : keys.any (fun k => match E.aM k.1 k.2 with | some (g', _, _) => g' == g | none => false) = true := List.any_eq_true.2 ⟨(k, v), hk, by simp [hb]⟩
  unfold Env.kH
  dsimp only
  rw [hn]
  dsimp only
  rw [if_pos this]; exact hx

theorem xZ {E : Env} {w : World} {a : Act} {st : St} (hs : bc E w a st) {keys : List (Nat × Nat)} {k v g e c : Nat} (hk : (k, v) ∈ keys) (hb : E.aM k v = some (g, e, c)) {B : aC} (hm : st.mem[k]? = some B) {rs : List V} {e' : Nat}
    (hB : B = .rows v e' rs ∨ B = .pB v e' rs) : e' = e ∧ rs.length ≤ c ∧ fS E.pure e rs (fun o => (E.kH w keys).F ⟨g, o, none⟩) := by
  rcases hB with rfl | rfl
  · rcases hs.mem k _ hm with ⟨-, hn⟩ | ⟨g', T, xs, c', dt, hh, jW, hl, hr, hf⟩
    · rw [hb] at hn; cases hn
    · rw [hb] at dt; cases dt
      refine ⟨rfl, hl, fun i row hi => ?_⟩
      obtain ⟨h1, h2⟩ := hr i row hi
      exact ⟨h1, fun j cc hj => let ⟨x, hx, h⟩ := h2 j cc hj; ⟨x, Env.Nw hk hb (hf _) (by rw [gM hh]; exact hx), h⟩⟩
  · rcases hs.mem k _ hm with ⟨-, hn⟩ | ⟨g', c', dt, hl, hr⟩
    · rw [hb] at hn; cases hn
    rw [hb] at dt; cases dt
    refine ⟨rfl, hl, fun i row hi => ?_⟩
    obtain ⟨h1, h2⟩ := hr i row hi
    exact ⟨h1, fun j cc hj => let ⟨x, hx, h⟩ := h2 j cc hj; ⟨x, (Env.pK E w keys).F _ _ hx, h⟩⟩

theorem jZ {E : Env} {w : World} {a : Act} {st : St} (hs : bc E w a st) {keys : List (Nat × Nat)} {v v' : V} {x : Value} (hr : a8 E v x) (h : br st.mem v = some v') (hk : ∀ k ∈ fa v, k ∈ keys) : a8 (E.kH w keys).pure v' x := by
  have hle := Env.ft (Env.pK E w keys)
  have D4 : ∀ {b v s l : Nat} {B : aC} {rs : List V} {e' : Nat}, a8 E (.ms b v s l) x → (b, v) ∈ keys → st.mem[b]? = some B → (B = .rows v e' rs ∨ B = .pB v e' rs) → s + l ≤ rs.length → a8 (E.kH w keys).pure (.slice ((rs.drop s).take l)) x := by
    intro b v s l B rs e' hr fh hm hB hl
    have hlen : ((rs.drop s).take l).length = l := by simp; omega
    rcases wh hr with ⟨rfl, rfl⟩ | ⟨g, e, c, aa, cap, rfl, hb, Rn, -, Gv⟩
    · rw [show (rs.drop s).take 0 = [] from by simp]
      exact .slice _ [] none 0 0 default (fun _ _ => default) (by simp) (by simp) (by simp) (by simp) (by simp) (by simp)
    · obtain ⟨rfl, CH, Rb⟩ := xZ hs fh hb hm hB
      have eC : ∀ (i : Nat) (row : V) (j : Nat) (cc : V), ((rs.drop s).take l)[i]? = some row → row.cells[j]? = some cc → ∃ y, (E.kH w keys).F ⟨g, (s + i) * e' + j, none⟩ = some y ∧ y.oneCell' = true ∧ a8 E.pure cc y := fun i row j cc hi hj =>
        (Rb _ _ (ru hi)).2 j cc hj
      let xf : Nat → Nat → Value := fun i j => ((E.kH w keys).F ⟨g, (s + i) * e' + j, none⟩).getD default
      have xH : a8 (E.kH w keys).pure (.slice ((rs.drop s).take l)) (.slice aa ((rs.drop s).take l).length cap) := by
        refine .slice _ _ _ _ e' ⟨g, s * e', none⟩ xf (fun bL => Rn ?_) (by rw [hlen]; exact Gv.1) (fun i row hi => (Rb _ _ (ru hi)).1) (fun i row j cc hi hj => ?_) (fun i row j cc hi hj => ?_) fun i row j cc hi hj => ?_
        · have : ((rs.drop s).take l).length ≠ 0 := fun h0 => bL (List.length_eq_zero_iff.1 h0)
          omega
        · obtain ⟨y, hy, -⟩ := eC i row j cc hi hj
          have Nq : s * e' + (i * e' + j) = (s + i) * e' + j := by rw [Nat.add_mul]; omega
          rw [add_lit, Nq]
          show (E.kH w keys).F _ = some (xf i j)
          simp [xf, hy]
        · obtain ⟨y, hy, h1, -⟩ := eC i row j cc hi hj
          simp [xf, hy, h1]
        · obtain ⟨y, hy, -, h2⟩ := eC i row j cc hi hj
          have : xf i j = y := by simp [xf, hy]
          rw [this]; exact h2.mono hle
      rw [hlen] at xH; exact xH
  unfold br at h
  split at h
  · simp only [Option.some.injEq] at h; subst h; exact .undef _ _
  · simp only [Option.some.injEq] at h; subst h; exact ox (by rw [bS hr]; exact .sc _ _)
  · simp only [Option.some.injEq] at h; subst h
    cases hr with
    | slice _ _ a cap nB ad xf ha iS hz hF h1 hR => exact (a8.slice E.pure _ a cap nB ad xf ha iS hz hF h1 hR).mono hle
  · simp only [Option.some.injEq] at h; subst h
    cases hr with
    | full _ _ a h =>
    cases h with
    | slice _ _ a cap nB ad xf ha iS hz hF h1 hR => exact (a8.slice E.pure _ a _ nB ad xf ha (Nat.le_refl _) hz hF h1 hR).mono hle
  · simp only [Option.some.injEq] at h; subst h
    cases hr with
    | cn _ _ ad xf hF hR => exact (a8.cn E.pure _ ad xf hF hR).mono hle
  · simp only [Option.some.injEq] at h; subst h
    cases hr with
    | gn => exact .gn _
  · rename_i b v s l
    have fh : (b, v) ∈ keys := hk (b, v) (by simp [fa])
    split at h
    · rename_i v' e rs hm
      split at h
      · rename_i hl; obtain ⟨rfl, hl⟩ := hl; simp only [Option.some.injEq] at h; subst h; exact D4 hr fh hm (.inl rfl) hl
      · cases h
    · rename_i v' e rs hm
      split at h
      · rename_i hl; obtain ⟨rfl, hl⟩ := hl; simp only [Option.some.injEq] at h; subst h; exact D4 hr fh hm (.inr rfl) hl
      · cases h
    · cases h
  · simp only [Option.some.injEq] at h; subst h
    cases hr with
    | iw _ f _ _ xs ys hx hy h1 h2 =>
      have e1 : xs = #[] := by simpa using hx.symm
      have e2 : ys = #[] := by simpa using hy.symm
      subst e1; subst e2; exact .sc _ _
  · cases h

theorem lT {E : Env} {w : World} {a : Act} {st : St} (hs : bc E w a st) {keys : List (Nat × Nat)} : ∀ {vs vs' : List V} {xs : List Value}, aV E vs xs → dH st.mem vs = some vs' → (∀ k ∈ vs.flatMap fa, k ∈ keys) →
    aV (E.kH w keys).pure vs' xs
  | [], vs', xs, hr, h, _ => by simp [dH] at h; subst h; rw [hr.of_nil]; exact .nil _
  | v :: vs, vs', xs, hr, h, hk => by
    obtain ⟨x, ys, rfl, h1, h2⟩ := hr.of_cons
    simp only [dH] at h
    split at h
    · rename_i c' hc
      split at h
      · rename_i r' uI
        simp only [Option.some.injEq] at h; subst h
        exact .cons (jZ hs h1 hc fun k fF => hk k (by simp [fF])) (lT hs h2 uI fun k fF => hk k (by simp at fF ⊢; exact .inr fF))
      · cases h
    · cases h

theorem rZ {E : Env} {w : World} {a : Act} {st : St} (hs : bc E w a st) {keys : List (Nat × Nat)} {v v' : V} {x : Value} (hr : a8 E v x) (h : dR st.mem v = some v') (hk : ∀ k ∈ de v, k ∈ keys) : a8 (E.kH w keys).pure v' x := by
  unfold dR at h
  split at h
  · split at h
    · rename_i cs l hl
      simp only [Option.some.injEq] at h; subst h
      cases hr with
      | agg _ _ xs hlen hh =>
        have := lT hs (xs := xs.toList) ⟨by simpa using hlen, fun i c x hc hx => hh i c x hc (by simpa using hx)⟩ hl (by simpa [de] using hk)
        exact .agg _ _ _ (by simpa using this.1) fun i c x hc hx => this.2 i c x hc (by simpa using hx)
    · cases h
  · rename_i bL
    refine jZ hs hr h fun k fF => hk k ?_
    cases v <;> first | exact fF | exact absurd rfl (bL _)
theorem gD {E : Env} {w : World} {a : Act} {st : St} (hs : bc E w a st) {keys : List (Nat × Nat)} : ∀ {vs vs' : List V} {xs : List Value}, aV E vs xs → dx st.mem vs = some vs' → (∀ k ∈ vs.flatMap de, k ∈ keys) →
    aV (E.kH w keys).pure vs' xs
  | [], vs', xs, hr, h, _ => by simp [dx] at h; subst h; rw [hr.of_nil]; exact .nil _
  | v :: vs, vs', xs, hr, h, hk => by
    obtain ⟨x, ys, rfl, h1, h2⟩ := hr.of_cons
    simp only [dx] at h
    split at h
    · rename_i c' hc
      split at h
      · rename_i r' uI
        simp only [Option.some.injEq] at h; subst h
        exact .cons (rZ hs h1 hc fun k fF => hk k (by simp [fF])) (gD hs h2 uI fun k fF => hk k (by simp at fF ⊢; exact .inr fF))
      · cases h
    · cases h
theorem uJ {E : Env} {w : World} {a : Act} {st : St} (hs : bc E w a st) {keys : List (Nat × Nat)} {v v' : V} {x : Value} (hr : a8 E v x) (h : Nu st.mem v = some v') (hk : ∀ k ∈ refs v, k ∈ keys) : a8 (E.kH w keys).pure v' x := by
  unfold Nu at h
  split at h
  · split at h
    · rename_i vs l hl
      simp only [Option.some.injEq] at h; subst h
      cases hr with
      | ch _ _ xs hlen hh =>
        have := gD hs (xs := xs.toList) ⟨by simpa using hlen, fun i c x hc hx => hh i c x hc (by simpa using hx)⟩ hl (by simpa [refs] using hk)
        exact .ch _ _ _ (by simpa using this.1) fun i c x hc hx => this.2 i c x hc (by simpa using hx)
    · cases h
  · rename_i bL
    refine rZ hs hr h fun k fF => hk k ?_
    cases v <;> first | exact fF | exact absurd rfl (bL _)

def aR (P : Program) (f : FuncId) (args : List V) (r : V) : Prop :=
  (∀ (xs : Array Value) (w : World), (callFunc f xs).run P w = .ok (.enter f xs) w) ∧
  ∀ (F : Addr → Option Value) (hg : Gl F) (w : World) (xs : Array Value), (∀ ad x, F ad = some x → w.cell? ad = some x) → aV ⟨F, fun _ _ => none, hg⟩ args xs.toList →
    Calls P f xs w fun e w' => ∃ F' x, e = .returned x ∧ (∀ ad y, F ad = some y → F' ad = some y) ∧ (∀ ad y, F' ad = some y → w'.cell? ad = some y) ∧ (∀ ad y, F' ad = some y → F ad = some y ∨ w.heap.size ≤ ad.block) ∧
      (∃ JY, a8 ⟨F', fun _ _ => none, JY⟩ r x) ∧ Below w.heap.size w w'

def x5 : V → Bool
  | .undef => true
  | .sc _ => true
  | .agg cs => cs.all (fun c => match c with | .sc _ => true | _ => false)
  | _ => false
def Gw : V → Bool
  | .ch vs => vs.all x5
  | v => x5 v

theorem uK {E E' : Env} {v : V} {x : Value} (h : a8 E v x) (hf : x5 v = true) : a8 E' v x := by
  cases h with
  | undef => exact .undef _ _
  | sc => exact .sc _ _
  | agg _ cs xs hl hh =>
    refine .agg _ _ _ hl fun i c x hc hx => ?_
    have h1 := hh i c x hc hx
    simp only [x5,List.all_eq_true] at hf
    have := hf c (List.mem_of_getElem? hc)
    cases c <;> simp at this
    rw [bS h1]; exact .sc _ _
  | _ => simp [x5] at hf
theorem Ec {E E' : Env} {v : V} {x : Value} (h : a8 E v x) (hf : Gw v = true) : a8 E' v x := by
  unfold Gw at hf
  split at hf
  · cases h with
    | ch _ vs xs hl hh =>
      refine .ch _ _ _ hl fun i c x hc hx => uK (hh i c x hc hx) ?_
      simp only [List.all_eq_true] at hf
      exact hf c (List.mem_of_getElem? hc)
  · exact uK h hf

def x6 (mem : List aC) (k : Nat × Nat) : List aC := match mem[k.1]? with | some (.rows v e rs) => if v = k.2 then mem.set k.1 (.pB v e rs) else mem | _ => mem
def cL (mem : List aC) (keys : List (Nat × Nat)) : List aC := keys.foldl x6 mem

def jN (keys : List (Nat × Nat)) (q : Nat) : Option aC → Option aC
  | some (.rows v e rs) => if (q, v) ∈ keys then some (.pB v e rs) else some (.rows v e rs)
  | B => B
theorem Gx (mem : List aC) (k : Nat × Nat) (q : Nat) : (x6 mem k)[q]? = jN [k] q mem[q]? := by
  obtain ⟨k, kv⟩ := k
  unfold x6
  dsimp only
  split
  · rename_i v e rs hk
    split
    · rename_i hv
      subst hv
      rw [List.getElem?_set]
      by_cases hq : k = q
      · subst hq
        rw [hk]
        simp [jN, (List.getElem?_eq_some_iff.1 hk).1]
      · rw [if_neg hq]
        have D6 : ¬ q = k := fun e => hq e.symm
        cases hB : mem[q]? with
        | none => rfl
        | some B => cases B <;> simp [jN, D6]
    · rename_i hv
      cases hB : mem[q]? with
      | none => rfl
      | some B =>
        cases B <;> first | rfl | skip
        rename_i v' e' rs'
        simp only [jN,List.mem_singleton,Prod.mk.injEq]
        rw [if_neg]
        rintro ⟨rfl, rfl⟩
        rw [hk] at hB; cases hB; exact hv rfl
  · rename_i hk
    cases hB : mem[q]? with
    | none => rfl
    | some B =>
      cases B <;> first | rfl | skip
      rename_i v e rs
      simp only [jN,List.mem_singleton,Prod.mk.injEq]
      rw [if_neg]
      rintro ⟨rfl, rfl⟩
      exact hk _ _ _ hB
theorem kR (keys : List (Nat × Nat)) : ∀ (mem : List aC) (q : Nat), (cL mem keys)[q]? = jN keys q mem[q]? := by
  induction keys with
  | nil => intro mem q; simp only [cL,List.foldl_nil]; cases hB : mem[q]? with | none => rfl | some B => cases B <;> simp [jN]
  | cons k r ih =>
    intro mem q
    show (cL (x6 mem k) r)[q]? = _
    rw [ih, Gx]
    cases hB : mem[q]? with
    | none => rfl
    | some B =>
      cases B <;> first | rfl | skip
      rename_i v e rs
      simp only [jN,List.mem_cons,List.not_mem_nil,or_false]
      by_cases hq : (q, v) = k
      · rw [if_pos hq, if_pos (.inl hq)]
      · rw [if_neg hq]
        by_cases hr : (q, v) ∈ r
        · rw [if_pos (.inr hr)]; simp [hr]
        · rw [if_neg (fun h => h.elim hq hr)]; simp [hr]
theorem nn (keys : List (Nat × Nat)) : ∀ (mem : List aC), (cL mem keys).length = mem.length := by
  induction keys with
  | nil => intro mem; rfl
  | cons k r ih =>
    intro mem
    show (cL (x6 mem k) r).length = _
    rw [ih]; unfold x6
    split
    · split <;> simp
    · rfl

def eH (mem : List aC) (keys : List (Nat × Nat)) (r : V) : List aC := if Gw r = true then mem else cL mem keys

theorem Ed {mem : List aC} {k : Nat × Nat} : ∀ {us L8 : List V}, dx mem us = some L8 → k ∈ us.flatMap de → ∃ B, mem[k.1]? = some B ∧ B.bW = k.2 ∧ ∃ e rs, B = .rows k.2 e rs ∨ B = .pB k.2 e rs := by
  have L9 : ∀ (cs nh : List V), dH mem cs = some nh → k ∈ cs.flatMap fa → ∃ B, mem[k.1]? = some B ∧ B.bW = k.2 ∧ ∃ e rs, B = .rows k.2 e rs ∨ B = .pB k.2 e rs := by
    intro cs
    induction cs with
    | nil => intro nh _ hm; simp at hm
    | cons c r ih =>
      intro nh hp hm
      simp only [dH] at hp
      split at hp
      · rename_i c' hc
        split at hp
        · rename_i r' hr
          simp only [List.flatMap_cons,List.mem_append] at hm
          rcases hm with hm | hm
          · cases c <;> simp only [fa,List.mem_singleton,List.not_mem_nil] at hm
            subst hm
            simp only [br] at hc
            split at hc
            · rename_i h
              split at hc
              · rename_i hv; obtain ⟨rfl, -⟩ := hv; exact ⟨_, h, rfl, _, _, .inl rfl⟩
              · cases hc
            · rename_i h
              split at hc
              · rename_i hv; obtain ⟨rfl, -⟩ := hv; exact ⟨_, h, rfl, _, _, .inr rfl⟩
              · cases hc
            · cases hc
          · exact ih _ hr hm
        · cases hp
      · cases hp
  intro us
  induction us with
  | nil => intro L8 _ hm; simp at hm
  | cons c r ih =>
    intro L8 hp hm
    simp only [dx] at hp
    split at hp
    · rename_i c' hc
      split at hp
      · rename_i r' hr
        simp only [List.flatMap_cons,List.mem_append] at hm
        rcases hm with hm | hm
        · unfold dR at hc
          split at hc
          · split at hc
            · rename_i l hl; exact L9 _ _ hl hm
            · cases hc
          · rename_i bL
            refine L9 [c] [c'] (by simp [dH, hc]) ?_
            simp only [List.flatMap_cons,List.flatMap_nil,List.append_nil]
            cases c <;> first | exact hm | exact absurd rfl (bL _)
        · exact ih hr hm
      · cases hp
    · cases hp

theorem r5 {E : Env} {w w' : World} {a : Act} {st : St} (hs : bc E w a st) {vs vs' : List V} (hp : dx st.mem vs = some vs') {F' : Addr → Option Value} (AK : ∀ ad y, (E.kH w (vs.flatMap de)).F ad = some y → F' ad = some y)
    (ec : ∀ ad y, F' ad = some y → w'.cell? ad = some y) (UE : ∀ ad y, F' ad = some y → (E.kH w (vs.flatMap de)).F ad = some y ∨ w.heap.size ≤ ad.block) (hb : Below w.heap.size w w') :
    ∃ hg, dO E w ⟨F', E.aM, hg⟩ w' ∧ bc ⟨F', E.aM, hg⟩ w' a { st with mem := cL st.mem (vs.flatMap de) } := by
  have hg : Gl F' := E.gl.mono fun ad x h => AK _ _ ((Env.pK E w _).F _ _ h)
  refine ⟨hg, ?_⟩
  have hle : E.le ⟨F', E.aM, hg⟩ := ⟨fun ad y hy => AK _ _ ((Env.pK E w _).F _ _ hy), fun _ _ _ h => h⟩
  have VL : (E.kH w (vs.flatMap de)).le ⟨F', E.aM, hg⟩ := ⟨AK, fun _ _ _ h => h⟩
  -- no cell of F' bz in a held block fk was not handed over
  have clean : ∀ k B, st.mem[k]? = some B → B.held = true → (∀ v e rs, B ≠ .pB v e rs) → (∀ v e rs, B = .rows v e rs → (k, v) ∉ vs.flatMap de) → ∀ g e c o, E.aM k B.bW = some (g, e, c) → E.F ⟨g, o, none⟩ = none → F' ⟨g, o, none⟩ = none := by
    intro k B hB hh hnf r6 g e c o fh hn
    cases hy : F' ⟨g, o, none⟩ with
    | none => rfl
    | some y =>
      exfalso
      rcases UE _ y hy with h | h
      · rcases Env.wu h with h | ⟨k', fF, e', c', h⟩
        · rw [hn] at h; cases h
        · obtain ⟨B', oc, rI, e1, rs1, An⟩ := Ed hp fF
          have Jx : B'.held = true := by rcases An with rfl | rfl <;> rfl
          rw [← rI] at h
          have ck := hs.apart _ _ _ _ _ _ _ _ _ fh h
          subst ck
          rw [hB] at oc; cases oc
          rcases An with rfl | rfl
          · exact r6 _ _ _ rfl (by rw [show (k'.1, k'.2) = k' from rfl]; exact fF)
          · exact hnf _ _ _ rfl
      · have := hs.lt _ _ _ _ _ fh; simp at h; omega
  refine ⟨⟨hle, fun k v g e c h => .inl ⟨k, v, e, c, h⟩, fun ad y hy => ?_, hb.os, hb.tape, hb.output, hb.size, fun b aL _ => hb.block b aL⟩, ?_⟩
  · rcases UE ad y hy with h | h
    · rcases Env.wu h with h | ⟨k, -, e, c, h⟩
      · exact .inl h
      · exact .inr (.inr ⟨k.1, k.2, e, c, h⟩)
    · exact .inr (.inl h)
  · have ka : ∀ (q : Nat) (B : aC), (cL st.mem (vs.flatMap de))[q]? = some B → ∃ B', st.mem[q]? = some B' ∧ B.bW = B'.bW ∧ B.held = B'.held ∧ (B = B' ∧ (∀ v e rs, B = .rows v e rs → (q, v) ∉ vs.flatMap de) ∨ ∃ v e rs, B' = .rows v e rs ∧ B = .pB v e rs ∧ (q, v) ∈ vs.flatMap de) := fun q B hq => by
      rw [kR] at hq
      cases qx : st.mem[q]? with
      | none => rw [qx] at hq; simp [jN] at hq
      | some B0 =>
        rw [qx] at hq
        refine ⟨B0, rfl, ?_⟩
        cases B0 with
        | rows v e rs =>
          simp only [jN] at hq
          split at hq
          · rename_i jg; cases hq; exact ⟨rfl, rfl, .inr ⟨v, e, rs, rfl, rfl, jg⟩⟩
          · rename_i jg; cases hq; exact ⟨rfl, rfl, .inl ⟨rfl, fun v' e' rs' h => by cases h; exact jg⟩⟩
        | _ => cases hq; exact ⟨rfl, rfl, .inl ⟨rfl, fun v' e' rs' h => by cases h⟩⟩
    refine ⟨ec, fun k v g e c h => Nat.lt_of_lt_of_le (hs.lt _ _ _ _ _ h) hb.size, fun k B hk => ?_, fun k hk v => hs.top k (by simpa [nn] using hk) v, fun k B hk v hv => ?_, hs.apart, hs.fr.mono hle⟩
    · obtain ⟨B', oc, -, -, rX⟩ := ka k B hk
      rcases rX with ⟨rfl, r6⟩ | ⟨v, e, rs, rfl, rfl, jg⟩
      · have r7 := (hs.mem k B oc).mono (E' := ⟨F', E.aM, hg⟩) (w' := w') hle (fun _ h => h) (fun g e c h => hb.block _ (hs.lt _ _ _ _ _ h))
        cases Ee : B with
        | pB v e rs =>
          subst Ee
          rcases hs.mem k _ oc with h9 | ⟨g, c, oA, hl, hr⟩
          · exact .inl h9
          refine .inr ⟨g, c, oA, hl, fun i row hi => ?_⟩
          obtain ⟨h5, h6⟩ := hr i row hi
          exact ⟨h5, fun j cc hj => let ⟨x, hx, h7, h8⟩ := h6 j cc hj; ⟨x, hle.F _ _ hx, h7, h8.mono (Env.ft hle)⟩⟩
        | hole => subst Ee; exact hs.mem k _ oc
        | dead => trivial
        | loop s iU fr params assign body => subst Ee; exact r7 (clean k _ oc rfl (fun _ _ _ h => by cases h) (fun _ _ _ h => by cases h))
        | box cs => subst Ee; exact r7 (clean k _ oc rfl (fun _ _ _ h => by cases h) (fun _ _ _ h => by cases h))
        | map bK clock => subst Ee; exact r7 (clean k _ oc rfl (fun _ _ _ h => by cases h) (fun _ _ _ h => by cases h))
        | eA m since seen last => subst Ee; exact r7 (clean k _ oc rfl (fun _ _ _ h => by cases h) (fun _ _ _ h => by cases h))
        | iO s pos => subst Ee; exact r7 (clean k _ oc rfl (fun _ _ _ h => by cases h) (fun _ _ _ h => by cases h))
        | je => subst Ee; exact r7 (clean k _ oc rfl (fun _ _ _ h => by cases h) (fun _ _ _ h => by cases h))
        | rows v e rs => subst Ee; exact r7 (clean k _ oc rfl (fun _ _ _ h => by cases h) r6)
      · rcases hs.mem k _ oc with h9 | ⟨g, T, cur, c, oA, -⟩
        · exact .inl h9
        · obtain ⟨-, hl, hr⟩ := xZ hs jg oA oc (.inl rfl)
          refine .inr ⟨g, c, oA, hl, fun i row hi => ?_⟩
          obtain ⟨h5, h6⟩ := hr i row hi
          exact ⟨h5, fun j cc hj => let ⟨x, hx, h7, h8⟩ := h6 j cc hj; ⟨x, VL.F _ _ hx, h7, h8.mono (Env.ft hle)⟩⟩
    · obtain ⟨B', oc, xz, -, -⟩ := ka k B hk
      exact hs.bW k B' oc v (by omega)

theorem bc.freeze {E : Env} {w : World} {a : Act} {st : St} (hs : bc E w a st) {vs vs' : List V} (hp : dx st.mem vs = some vs') :
    ∃ E', bc E' w a { st with mem := cL st.mem (vs.flatMap de) } ∧ dO E w E' w ∧ ∀ xs, aV E vs xs → aV E' vs' xs := by
  obtain ⟨hg, h1, h2⟩ := r5 hs hp (F' := (E.kH w (vs.flatMap de)).F) (fun _ _ h => h) (fun ad y h => Env.CP hs.F h) (fun _ _ h => .inl h) (Below.refl _ w)
  exact ⟨_, h2, h1, fun xs hx => (gD hs (keys := vs.flatMap de) hx hp fun k hk => hk).mono ⟨fun _ _ h => h, fun _ _ _ h => by cases h⟩⟩

theorem Ef {P : Program} {f : FuncId} {E : Env} {w : World} {a : Act} {st : St} (hs : bc E w a st) {vs vs' : List V} {r : V} {xs : Array Value} (hx : aV E vs xs.toList) (hp : dx st.mem vs = some vs') (hf : aR P f vs' r) :
    Calls P f xs w fun e w' => ∃ E' x, e = .returned x ∧ dO E w E' w' ∧ bc E' w' a { st with mem := eH st.mem (vs.flatMap de) r } ∧ a8 E' r x := by
  have h1 := gD hs (keys := vs.flatMap de) hx hp fun k hk => hk
  refine (hf.2 (E.kH w (vs.flatMap de)).F (E.kH w (vs.flatMap de)).gl w xs (fun ad x h => Env.CP hs.F h) h1).mono ?_
  rintro e w' ⟨F', x, rfl, AK, ec, UE, ⟨JY, mY⟩, hb⟩
  unfold eH
  split
  · rename_i Ro
    refine ⟨E, x, rfl, ⟨E.le_refl, fun k v g e c h => .inl ⟨k, v, e, c, h⟩, fun _ _ h => .inl h, hb.os, hb.tape, hb.output, hb.size, fun b aL _ => hb.block b aL⟩, ?_, Ec mY Ro⟩
    refine ⟨fun ad y hy => ?_, fun k v g e c h => Nat.lt_of_lt_of_le (hs.lt _ _ _ _ _ h) hb.size, fun k B hk => ?_, hs.top, hs.bW, hs.apart, hs.fr⟩
    · rw [hb.cell (World.block_lt_of_cell? w ad (hs.F ad y hy))]; exact hs.F ad y hy
    · exact (hs.mem k B hk).mono E.le_refl (fun _ h => h) (fun g e c h => hb.block _ (hs.lt _ _ _ _ _ h)) fun _ _ _ _ _ h => h
  · obtain ⟨hg, e1, s1⟩ := r5 hs hp AK ec UE hb
    exact ⟨_, x, rfl, e1, s1, mY.mono ⟨fun _ _ h => h, fun _ _ _ h => by simp at h⟩⟩
end Go.Eng
end
