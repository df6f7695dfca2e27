/-
  THE ENGINE, A: abstract values, and what it means that one stands for a value of the model in a world.
  THE ENGINE, B: the table of types, the store, the state of a call, and what one operation makes of it.
  THE ENGINE, C: the operations that write nothing, and that each does in the model what it says.
  THE ENGINE, D: one word for all operations that write nothing.
  THE ENGINE, DM: maps: reading them.
  THE ENGINE, E: the word for every operation that writes nothing, and its soundness.
  THE ENGINE, F: new blocks, stores, what is read for good.
  THE ENGINE, G: stores.
  THE ENGINE, H: slices that are made: literals, append.
  THE ENGINE, I: append.
  THE ENGINE, IM: maps: writing them; ranging over them, and over strings.
  THE ENGINE, SF: append to a slice that begins behind its block's beginning: it may stay where it is, or go to a new block.
  THE ENGINE, J: what a call hands over; contracts.
-/
import Derived.Orders
import Derived.Below
import Derived.Laws.AppendOwn
import Derived.Laws.Cells
import Derived.Laws.Entries
import Derived.Laws.ResultCell
import Derived.Laws.BytesArg
import Derived.Laws.Append
import Derived.IntWalk
set_option linter.all false
section
namespace Go.Eng

class aG where
 n : Int
 κ : Int → Option Bool
 ok : ∀ k b, κ k = some b → decide (k ≤ n) = b
 g : Option Nat
 Nh : Nat → Option (List Value)
variable [aG]
structure Gl (F : Addr → Option Value) : Prop where
 n : ∀ g, aG.g = some g → F ⟨g, 0, none⟩ = some (.int .i64 aG.n)
 t : ∀ g cs (j : Nat) x, aG.Nh g = some cs → cs[j]? = some x → F ⟨g, j, none⟩ = some x
theorem Gl.mono {F F' : Addr → Option Value} (h : Gl F) (hF : ∀ ad x, F ad = some x → F' ad = some x) : Gl F' := ⟨fun g hg => hF _ _ (h.n g hg), fun g cs j x h1 h2 => hF _ _ (h.t g cs j x h1 h2)⟩

inductive V where
 | undef
 | sc (v : Value)
 | agg (cs : List V)
 | slice (rows : List V)
 | ms (b v s l : Nat)
 | ptr (b o : Nat)
 | de (b v i o : Nat)
 | cn (cs : List V)
 | fS (f : Fn) (first cap : List V)
 | bT (vs : List V)
 | ia (b : Nat)
 | mp (b : Nat)
 | gn
 | full (rows : List V)
 deriving Inhabited

def V.cells : V → List V
 | .agg cs => cs
 | v => [v]

structure Env where
 F : Addr → Option Value
 aK : Nat → Nat → Option (Nat × Nat × Nat)
 gl : Gl F

def Env.pure (E : Env) : Env := { F := E.F, aK := fun _ _ => none, gl := E.gl }

inductive aX : Env → V → Value → Prop
 | undef (E : Env) (x : Value) : aX E .undef x
 | sc (E : Env) (v : Value) : aX E (.sc v) v
 | agg (E : Env) (cs : List V) (xs : Array Value) (hl : cs.length = xs.size) (h : ∀ (i : Nat) (c : V) (x : Value), cs[i]? = some c → xs[i]? = some x → aX E c x) : aX E (.agg cs) (.agg xs)
 | slice (E : Env) (rows : List V) (a : Option Addr) (cap nn : Nat) (ad : Addr) (xf : Nat → Nat → Value) (ha : rows ≠ [] → a = some ad) (hD : rows.length ≤ cap)
   (hs : ∀ (i : Nat) (row : V), rows[i]? = some row → row.cells.length = nn)
   (hF : ∀ (i : Nat) (row : V) (j : Nat) (c : V), rows[i]? = some row → row.cells[j]? = some c → E.F (ad.add (i * nn + j)) = some (xf i j))
   (h1 : ∀ (i : Nat) (row : V) (j : Nat) (c : V), rows[i]? = some row → row.cells[j]? = some c → (xf i j).oneCell' = true)
   (h : ∀ (i : Nat) (row : V) (j : Nat) (c : V), rows[i]? = some row → row.cells[j]? = some c → aX E.pure c (xf i j)) : aX E (.slice rows) (.slice a rows.length cap)
 | ms (E : Env) (b v s l g e c : Nat) (a : Option Addr) (cap : Nat) (hb : E.aK b v = some (g, e, c)) (hl : 0 < l → a = some ⟨g, s * e, none⟩) (h0 : s = 0 → a = some ⟨g, 0, none⟩ ∧ cap = c) (hc : l ≤ cap ∧ s + cap = c ∧ (0 < cap → a = some ⟨g, s * e, none⟩)) :
   aX E (.ms b v s l) (.slice a l cap)
 | df (E : Env) (b v s : Nat) : aX E (.ms b v s 0) (.slice none 0 0)
 | ptr (E : Env) (b o g e c : Nat) (hb : E.aK b 0 = some (g, e, c)) : aX E (.ptr b o) (.pointer (some ⟨g, o, none⟩))
 | de (E : Env) (b v i o g e c : Nat) (hb : E.aK b v = some (g, e, c)) : aX E (.de b v i o) (.pointer (some ⟨g, i * e + o, none⟩))
 | cn (E : Env) (cs : List V) (ad : Addr) (xf : Nat → Value) (hF : ∀ (j : Nat) (c : V), cs[j]? = some c → E.F (ad.add j) = some (xf j)) (h : ∀ (j : Nat) (c : V), cs[j]? = some c → aX E.pure c (xf j)) :
   aX E (.cn cs) (.pointer (some ad))
 | fS (E : Env) (f : Fn) (first cap : List V) (xs ys : Array Value) (hx : first.length = xs.size) (hy : cap.length = ys.size)
   (h1 : ∀ (i : Nat) (c : V) (x : Value), first[i]? = some c → xs[i]? = some x → aX E c x) (h2 : ∀ (i : Nat) (c : V) (x : Value), cap[i]? = some c → ys[i]? = some x → aX E c x) : aX E (.fS f first cap) (.func f xs ys)
 | ia (E : Env) (b l e c : Nat) (hb : E.aK b 0 = some (l, e, c)) : aX E (.ia b) (.func (.yield l) #[] #[])
 | mp (E : Env) (b l e c : Nat) (hb : E.aK b 0 = some (l, e, c)) : aX E (.mp b) (.map (some l))
 | gn (E : Env) : aX E .gn (.int .i64 aG.n)
 | full (E : Env) (rows : List V) (a : Option Addr) (h : aX E (.slice rows) (.slice a rows.length rows.length)) : aX E (.full rows) (.slice a rows.length rows.length)
 | bT (E : Env) (vs : List V) (xs : Array Value) (hl : vs.length = xs.size) (h : ∀ (i : Nat) (c : V) (x : Value), vs[i]? = some c → xs[i]? = some x → aX E c x) : aX E (.bT vs) (.tuple xs)

def aQ (E : Env) (vs : List V) (xs : List Value) : Prop := vs.length = xs.length ∧ ∀ (i : Nat) (v : V) (x : Value), vs[i]? = some v → xs[i]? = some x → aX E v x

theorem Env.DO {a b : Env} (h1 : a.F = b.F) (h2 : a.aK = b.aK) : a = b := by
 cases a; cases b; dsimp only at h1 h2; subst h1; subst h2; rfl

structure Env.le (E E' : Env) : Prop where
 F : ∀ ad x, E.F ad = some x → E'.F ad = some x
 aK : ∀ b v t, E.aK b v = some t → E'.aK b v = some t

theorem Env.le_refl (E : Env) : E.le E := ⟨fun _ _ h => h, fun _ _ _ h => h⟩
theorem Env.le_trans {a b c : Env} (h : a.le b) (k : b.le c) : a.le c := ⟨fun ad x hx => k.F _ _ (h.F _ _ hx), fun b v t hx => k.aK _ _ _ (h.aK _ _ _ hx)⟩
theorem Env.fA {a b : Env} (h : a.le b) : a.pure.le b.pure := ⟨h.F, fun _ _ _ h => h⟩
theorem Env.ma (a : Env) : a.pure.le a := ⟨fun _ _ h => h, fun _ _ _ h => by simp [Env.pure] at h⟩

theorem aX.mono {E E' : Env} {v : V} {x : Value} (h : aX E v x) (hle : E.le E') : aX E' v x := by
 induction h generalizing E' with
 | undef => exact .undef _ _
 | sc => exact .sc _ _
 | agg E cs xs hl h ih => exact .agg _ _ _ hl fun i c x hc hx => ih i c x hc hx hle
 | slice E rows a cap nn ad xf ha hD hs hF h1 h ih => exact .slice _ _ _ _ nn ad xf ha hD hs (fun i row j c hi hj => hle.F _ _ (hF i row j c hi hj)) h1 fun i row j c hi hj => ih i row j c hi hj (Env.fA hle)
 | ms E b v s l g e c a cap hb hl h0 hc => exact .ms _ _ _ _ _ g e c _ _ (hle.aK _ _ _ hb) hl h0 hc
 | df E b v s => exact .df _ _ _ _
 | ptr E b o g e c hb => exact .ptr _ _ _ g e c (hle.aK _ _ _ hb)
 | de E b v i o g e c hb => exact .de _ _ _ _ _ g e c (hle.aK _ _ _ hb)
 | cn E cs ad xf hF h ih => exact .cn _ _ _ xf (fun j c hj => hle.F _ _ (hF j c hj)) fun j c hj => ih j c hj (Env.fA hle)
 | fS E f first cap xs ys hx hy h1 h2 Ni Nj => exact .fS _ _ _ _ _ _ hx hy (fun i c x hc hx => Ni i c x hc hx hle) fun i c x hc hx => Nj i c x hc hx hle
 | ia E b l e c hb => exact .ia _ _ l e c (hle.aK _ _ _ hb)
 | mp E b l e c hb => exact .mp _ _ l e c (hle.aK _ _ _ hb)
 | gn E => exact .gn _
 | full E rows a h ih => exact .full _ _ _ (ih hle)
 | bT E vs xs hl h ih => exact .bT _ _ _ hl fun i c x hc hx => ih i c x hc hx hle

theorem aQ.mono {E E' : Env} {vs : List V} {xs : List Value} (h : aQ E vs xs) (hle : E.le E') : aQ E' vs xs :=
 ⟨h.1, fun i v x hv hx => (h.2 i v x hv hx).mono hle⟩
theorem aQ.nil (E : Env) : aQ E [] [] := ⟨rfl, fun i v x h => by simp at h⟩
theorem aQ.cons {E : Env} {v : V} {x : Value} {vs : List V} {xs : List Value} (h : aX E v x) (hs : aQ E vs xs) : aQ E (v :: vs) (x :: xs) := by
 refine ⟨by simp [hs.1], fun i => ?_⟩
 cases i with
 | zero => intro v' x' hv hx; simp at hv hx; subst hv; subst hx; exact h
 | succ i => intro v' x' hv hx; simp at hv hx; exact hs.2 i v' x' hv hx
theorem aQ.of_cons {E : Env} {v : V} {vs : List V} {xs : List Value} (h : aQ E (v :: vs) xs) : ∃ x ys, xs = x :: ys ∧ aX E v x ∧ aQ E vs ys := by
 cases xs with
 | nil => have := h.1; simp at this
 | cons x ys => exact ⟨x, ys, rfl, h.2 0 v x rfl rfl, by have := h.1; simpa using this, fun i v' x' hv hx => h.2 (i + 1) v' x' (by simpa using hv) (by simpa using hx)⟩
theorem aQ.of_nil {E : Env} {xs : List Value} (h : aQ E [] xs) : xs = [] := by
 have := h.1; simp at this; exact List.length_eq_zero_iff.1 this.symm
theorem aQ.append {E : Env} {vs us : List V} {xs ys : List Value} (h : aQ E vs xs) (k : aQ E us ys) : aQ E (vs ++ us) (xs ++ ys) := by
 refine ⟨by simp [h.1, k.1], fun i v x hv hx => ?_⟩
 by_cases hi : i < vs.length
 ·rw [List.getElem?_append_left hi] at hv; rw [List.getElem?_append_left (h.1 ▸ hi)] at hx; exact h.2 i v x hv hx
 ·rw [List.getElem?_append_right (by omega)] at hv; rw [List.getElem?_append_right (by have := h.1; omega), ← h.1] at hx; exact k.2 _ v x hv hx
theorem aQ.get {E : Env} {vs : List V} {xs : List Value} (h : aQ E vs xs) {i : Nat} {v : V} (hv : vs[i]? = some v) : ∃ x, xs[i]? = some x ∧ aX E v x := by
 have hi : i < xs.length := by rw [← h.1]; exact (List.getElem?_eq_some_iff.1 hv).1
 exact ⟨xs[i], List.getElem?_eq_getElem hi, h.2 i v _ hv (List.getElem?_eq_getElem hi)⟩
theorem aQ.drop {E : Env} {vs : List V} {xs : List Value} (h : aQ E vs xs) (n : Nat) : aQ E (vs.drop n) (xs.drop n) :=
 ⟨by simp [h.1], fun i v x hv hx => h.2 (n + i) v x (by simpa using hv) (by simpa using hx)⟩
theorem aQ.take {E : Env} {vs : List V} {xs : List Value} (h : aQ E vs xs) (n : Nat) : aQ E (vs.take n) (xs.take n) := by
 refine ⟨by simp [h.1], fun i v x hv hx => ?_⟩
 have hi : i < n := by
  by_cases hi : i < n
  ·exact hi
  ·rw [List.getElem?_take] at hv; simp [hi] at hv
 rw [List.getElem?_take_of_lt hi] at hv hx
 exact h.2 i v x hv hx
theorem aQ.set {E : Env} {vs : List V} {xs : List Value} (h : aQ E vs xs) (n : Nat) {v : V} {x : Value} (hv : aX E v x) : aQ E (vs.set n v) (xs.set n x) := by
 refine ⟨by simp [h.1], fun i v' x' qY Fv => ?_⟩
 by_cases hi : n = i
 ·subst hi
  rw [List.getElem?_set] at qY Fv
  simp only [if_true] at qY Fv
  split at qY
  ·split at Fv
   ·simp at qY Fv; subst qY; subst Fv; exact hv
   ·simp at Fv
  ·simp at qY
 ·rw [List.getElem?_set_ne hi] at qY Fv; exact h.2 i v' x' qY Fv

theorem aX.cells {E : Env} {v : V} {x : Value} (h : aX E v x) (hu : v ≠ .undef) (hs : ∀ y, v = .sc y → ∀ cs, y ≠ .agg cs) : aQ E v.cells x.cells.toList := by
 cases h with
 | undef => exact absurd rfl hu
 | sc =>
  have : x.cells = #[x] := by
   have := hs x rfl
   cases x <;> simp [Value.cells] at this ⊢
  simp only [V.cells,this]; exact .cons (.sc _ _) (.nil _)
 | agg _ cs xs hl h => exact ⟨by simpa [V.cells, Value.cells] using hl, fun i c x hc hx => h i c x hc (by simpa [Value.cells] using hx)⟩
 | slice _ rows a cap nn ad xf ha hD hz hF h1 h => exact .cons (.slice _ _ _ _ nn ad xf ha hD hz hF h1 h) (.nil _)
 | ms _ b v s l g e c a cap hb hl h0 hc => exact .cons (.ms _ _ _ _ _ g e c _ _ hb hl h0 hc) (.nil _)
 | df _ b v s => exact .cons (.df _ _ _ _) (.nil _)
 | ptr _ b o g e c hb => exact .cons (.ptr _ _ _ g e c hb) (.nil _)
 | de _ b v i o g e c hb => exact .cons (.de _ _ _ _ _ g e c hb) (.nil _)
 | cn _ cs ad xf hF h => exact .cons (.cn _ _ _ xf hF h) (.nil _)
 | fS _ f first cap xs ys hx hy h1 h2 => exact .cons (.fS _ _ _ _ _ _ hx hy h1 h2) (.nil _)
 | ia _ b l e c hb => exact .cons (.ia _ _ l e c hb) (.nil _)
 | mp _ b l e c hb => exact .cons (.mp _ _ l e c hb) (.nil _)
 | gn => exact .cons (.gn _) (.nil _)
 | full _ rows a h => exact .cons (.full _ _ _ h) (.nil _)
 | bT _ vs xs hl h => exact .cons (.bT _ _ _ hl h) (.nil _)
end Go.Eng
end

section
namespace Go.Eng
variable [aG]

structure Ti where
 size : Nat
 agg : Bool
 zero : List Value
 bz : List (Nat × Nat) := []
 elem : Option TypeId := none
 bytes : Nat := 0
 deriving Inhabited

abbrev Table := TypeId → Option Ti

structure TT (P : Program) (tt : Table) : Prop where
 size : ∀ t i, tt t = some i → ∃ info, P.info? t = some info ∧ info.size = i.size ∧ info.bytes = i.bytes ∧ ∃ z, info.zero = some z ∧ z.cells.toList = i.zero
 desc : ∀ t i, tt t = some i → ∃ d, P.underlying t = some d ∧ (i.agg = true ↔ ((∃ fs, d = .struct fs) ∨ ∃ n e, d = .array n e)) ∧
  (∀ e, i.elem = some e → d = .slice e) ∧
  (∀ (f off sz : Nat), i.bz[f]? = some (off, sz) → ∃ fs fd inf, d = .struct fs ∧ fs.size = i.bz.length ∧ fs[f]? = some fd ∧ fd.offset = off ∧ P.info? fd.type = some inf ∧ inf.size = sz ∧ sz ≠ 0)

def aH {α : Type} (P : Program) : Sem α → Option α
 | .pure a => some a
 | .program k => aH P (k P)
 | .mark _ k => aH P k
 | _ => none

theorem cI {α : Type} {P : Program} (s : Sem α) {v : α} (h : aH P s = some v) (w : World) : s.run P w = .ok v w := by
 induction s with
 | pure a => simp [aH] at h; subst h; rfl
 | program k ih => exact ih P h
 | mark m k ih => exact ih h
 | _ => simp [aH] at h

def dH : Value → V
 | .agg cs => .agg (cs.toList.map V.sc)
 | .tuple vs => .bT (vs.toList.map V.sc)
 | v => .sc v

theorem ir (E : Env) (cs : Array Value) (i : Nat) (c : V) (x : Value) (hc : (cs.toList.map V.sc)[i]? = some c) (hx : cs[i]? = some x) : aX E c x := by
 simp only [List.getElem?_map,Array.getElem?_toList,hx,Option.map_some,Option.some.injEq] at hc
 subst hc; exact .sc _ _
theorem fC (E : Env) (v : Value) : aX E (dH v) v := by
 cases v with
 | agg cs => exact .agg _ _ _ (by simp) (ir E cs)
 | tuple cs => exact .bT _ _ _ (by simp) (ir E cs)
 | _ => exact .sc _ _

inductive ay where
 | hole
 | dead
 | box (cs : List V)
 | rows (v e : Nat) (rs : List V)
 | mJ (v e : Nat) (rs : List V)
 | loop (s : LoopState) (jm : Option Code) (fr : List V) (params : Array Tmp) (assign body : Code)
 | map (br : List (Value × Nat × V)) (clock : Nat)
 | eo (m since : Nat) (seen : List Nat) (last : Nat)
 | gX (s : ByteArray) (pos : Nat)
 | iv
 deriving Inhabited

structure St where
 fr : List V
 mem : List ay

def St.eval (st : St) : Operand → V
 | .tmp t => st.fr.getD t .undef
 | .const v => dH v
 | .global g => if aG.g = some g then .cn [.gn] else match aG.Nh g with | some cs => .cn (cs.map V.sc) | none => .undef
 | .func f => .sc (.func (.func f) #[] #[])

def St.put (st : St) (dst : Option Tmp) (v : V) : St :=
 match dst with
 | some d => { st with fr := st.fr.set d v }
 | none => st

def fE (E : Env) (e : Nat) (rs : List V) (at_ : Nat → Option Value) : Prop :=
 ∀ (i : Nat) (row : V), rs[i]? = some row → row.cells.length = e ∧ ∀ (j : Nat) (c : V), row.cells[j]? = some c → ∃ x, at_ (i * e + j) = some x ∧ x.oneCell' = true ∧ aX E c x

def cC (E : Env) (br : List (Value × Nat × V)) (es : List MapEntry) : Prop :=
 br.length = es.length ∧ ∀ (i : Nat) (k : Value × Nat × V) (e : MapEntry), br[i]? = some k → es[i]? = some e → e.key = k.1 ∧ e.born = k.2.1 ∧ aX E k.2.2 e.val
theorem cC.mono {E E' : Env} {br : List (Value × Nat × V)} {es : List MapEntry} (h : cC E br es) (hle : E.le E') : cC E' br es :=
 ⟨h.1, fun i k e hk he => let ⟨h1, h2, h3⟩ := h.2 i k e hk he; ⟨h1, h2, h3.mono hle⟩⟩

def iw (E : Env) (w : World) (k : Nat) : ay → Prop
 | .hole => ∀ v, E.aK k v = none
 | .dead => True
 | .box cs => ∃ g T xs, E.aK k 0 = some (g, 0, 0) ∧ w.heap[g]? = some (.cells xs T (0, 0)) ∧ aQ E cs xs.toList ∧ ∀ o, E.F ⟨g, o, none⟩ = none
 | .rows v e rs => (rs = [] ∧ E.aK k v = none) ∨ ∃ g T xs c, E.aK k v = some (g, e, c) ∧ w.heap[g]? = some (.cells xs T (0, 0)) ∧ xs.size = c * e ∧ rs.length ≤ c ∧ fE E.pure e rs (fun o => xs[o]?) ∧ ∀ o, E.F ⟨g, o, none⟩ = none
 | .mJ v e rs => (rs = [] ∧ E.aK k v = none) ∨ ∃ g c, E.aK k v = some (g, e, c) ∧ rs.length ≤ c ∧ fE E.pure e rs (fun o => E.F ⟨g, o, none⟩)
 | .loop s jm fr params assign body => ∃ l fn tmps db, E.aK k 0 = some (l, 0, 0) ∧ w.heap[l]? = some (.loop { state := s, pending := jm, fn := fn, tmps := tmps, params := params, assign := assign, body := body, defers := db }) ∧ aQ E fr tmps.toList ∧ ∀ o, E.F ⟨l, o, none⟩ = none

 | .map br clock => ∃ g es, E.aK k 0 = some (g, 0, 0) ∧ w.heap[g]? = some (.map es clock) ∧ cC E br es.toList ∧ ∀ o, E.F ⟨g, o, none⟩ = none
 | .eo m since seen last => ∃ g gm e c, E.aK k 0 = some (g, 0, 0) ∧ E.aK m 0 = some (gm, e, c) ∧ w.heap[g]? = some (.mapIter (some gm) since seen.toArray last) ∧ ∀ o, E.F ⟨g, o, none⟩ = none
 | .gX s pos => ∃ g, E.aK k 0 = some (g, 0, 0) ∧ w.heap[g]? = some (.stringIter s pos) ∧ ∀ o, E.F ⟨g, o, none⟩ = none
 | .iv => ∃ g, E.aK k 0 = some (g, 0, 0) ∧ w.heap[g]? = some (.mapIter none 0 #[] 0) ∧ ∀ o, E.F ⟨g, o, none⟩ = none

def ay.aC : ay → Nat
 | .rows v _ _ => v
 | .mJ v _ _ => v
 | _ => 0
def ay.held : ay → Bool
 | .hole | .dead => false
 | _ => true

structure bd (E : Env) (w : World) (a : Act) (st : St) : Prop where
 F : ∀ ad x, E.F ad = some x → w.cell? ad = some x
 lt : ∀ k v g e c, E.aK k v = some (g, e, c) → g < w.heap.size
 mem : ∀ k B, st.mem[k]? = some B → iw E w k B
 top : ∀ k, st.mem.length ≤ k → ∀ v, E.aK k v = none
 aC : ∀ k B, st.mem[k]? = some B → ∀ v, B.aC < v → E.aK k v = none
 apart : ∀ k k' v v' g e c e' c', E.aK k v = some (g, e, c) → E.aK k' v' = some (g, e', c') → k = k'
 fr : aQ E st.fr a.tmps.toList

theorem bd.eval {E : Env} {w : World} {a : Act} {st : St} (h : bd E w a st) (x : Operand) : aX E (st.eval x) (a.eval x) := by
 cases x with
 | tmp t =>
  simp only [St.eval,Act.eval]
  cases hv : st.fr[t]? with
  | none => rw [List.getD_eq_getElem?_getD, hv]; exact .undef _ _
  | some v =>
   obtain ⟨x, hx, hr⟩ := h.fr.get hv
   rw [List.getD_eq_getElem?_getD, hv, Array.getD_eq_getD_getElem?]
   simp only [Array.getElem?_toList] at hx
   rw [hx]; exact hr
 | const v => exact fC E v
 | global g =>
  simp only [St.eval,Act.eval]
  split
  ·rename_i hg
   refine .cn _ _ _ (fun _ => .int .i64 aG.n) (fun j c hc => ?_) fun j c hc => ?_
   ·match j with
    | 0 => exact E.gl.n g hg
    | j + 1 => simp at hc
   ·match j with
    | 0 => simp at hc; subst hc; exact .gn _
    | j + 1 => simp at hc
  ·split
   ·rename_i cs tV
    refine .cn _ _ _ (fun j => (cs[j]?).getD undef) (fun j c hc => ?_) fun j c hc => ?_
    ·simp only [List.getElem?_map,Option.map_eq_some_iff] at hc
     obtain ⟨x, hx, rfl⟩ := hc
     have h1 : (Addr.mk g 0 none).add j = ⟨g, j, none⟩ := by unfold Addr.add; by_cases hj : j = 0 <;> simp [hj]
     rw [h1, hx]
     exact E.gl.t g cs j x tV hx
    ·simp only [List.getElem?_map,Option.map_eq_some_iff] at hc
     obtain ⟨x, hx, rfl⟩ := hc
     rw [hx]; exact .sc _ _
   ·exact .undef _ _
 | func f => exact .sc _ _

structure dt (E : Env) (w : World) (E' : Env) (w' : World) : Prop where
 le : E.le E'
 aK : ∀ k v g e c, E'.aK k v = some (g, e, c) → (∃ k0 v0 e0 c0, E.aK k0 v0 = some (g, e0, c0)) ∨ w.heap.size ≤ g
 F : ∀ ad x, E'.F ad = some x → E.F ad = some x ∨ w.heap.size ≤ ad.block ∨ ∃ k0 v0 e0 c0, E.aK k0 v0 = some (ad.block, e0, c0)
 os : w'.os = w.os
 tape : w'.tape = w.tape
 output : w'.output = w.output
 size : w.heap.size ≤ w'.heap.size
 heap : ∀ b, b < w.heap.size → (∀ k v e c, E.aK k v ≠ some (b, e, c)) → w'.heap[b]? = w.heap[b]?

theorem dt.refl (E : Env) (w : World) : dt E w E w :=
 ⟨E.le_refl, fun k v g e c h => .inl ⟨k, v, e, c, h⟩, fun _ _ h => .inl h, rfl, rfl, rfl, Nat.le_refl _, fun _ _ _ => rfl⟩
theorem dt.trans {E E1 E2 : Env} {w w1 w2 : World} (h : dt E w E1 w1) (k : dt E1 w1 E2 w2) : dt E w E2 w2 := by
 refine ⟨Env.le_trans h.le k.le, ?_, ?_, k.os.trans h.os, k.tape.trans h.tape, k.output.trans h.output, Nat.le_trans h.size k.size, ?_⟩
 ·intro q v g e c hq
  rcases k.aK q v g e c hq with ⟨k0, v0, e0, c0, h0⟩ | h0
  ·exact h.aK _ _ _ _ _ h0
  ·exact .inr (Nat.le_trans h.size h0)
 ·intro ad x hx
  rcases k.F ad x hx with h0 | h0 | ⟨k0, v0, e0, c0, h0⟩
  ·exact h.F _ _ h0
  ·exact .inr (.inl (Nat.le_trans h.size h0))
  ·rcases h.aK _ _ _ _ _ h0 with h1 | h1
   ·exact .inr (.inr h1)
   ·exact .inr (.inl h1)
 ·intro b hb bO
  rw [k.heap b (Nat.lt_of_lt_of_le hb h.size) ?_, h.heap b hb bO]
  intro q v e c hq
  rcases h.aK _ _ _ _ _ hq with ⟨k0, v0, e0, c0, h0⟩ | h0
  ·exact bO _ _ _ _ h0
  ·omega
theorem dt.drew (E : Env) (w : World) : dt E w E w.drew :=
 ⟨E.le_refl, fun k v g e c h => .inl ⟨k, v, e, c, h⟩, fun _ _ h => .inl h, rfl, rfl, rfl, Nat.le_refl _, fun _ _ _ => rfl⟩
theorem bd.drew {E : Env} {w : World} {a : Act} {st : St} (h : bd E w a st) : bd E w.drew a st :=
 ⟨h.F, h.lt, fun k B hB => by have := h.mem k B hB; cases B <;> exact this, h.top, h.aC, h.apart, h.fr⟩

theorem bd.put {E : Env} {w : World} {a : Act} {st : St} (h : bd E w a st) (dst : Option Tmp) {v : V} {x : Value} (hr : aX E v x) : bd E w (a.put dst x) (st.put dst v) := by
 cases dst with
 | none => exact h
 | some d => exact ⟨h.F, h.lt, h.mem, h.top, h.aC, h.apart, by simpa [St.put, Act.put] using h.fr.set d hr⟩
end Go.Eng
end

section
namespace Go.Eng
variable [aG]

def dy (tt : Table) (T : TypeId) (cs : List V) : Option V :=
 match tt T with
 | some i => if i.agg then (if i.size ≤ cs.length then some (.agg (cs.take i.size)) else none) else cs.head?
 | none => none

def rowOf (mem : List ay) (b v i : Nat) : Option V :=
 match mem[b]? with
 | some (.rows v' _ rs) => if v' = v then rs[i]? else none
 | some (.mJ v' _ rs) => if v' = v then rs[i]? else none
 | _ => none

def kP (tt : Table) (mem : List ay) (T : TypeId) : V → Option V
 | .ptr b o => match mem[b]? with | some (.box cs) => dy tt T (cs.drop o) | _ => none
 | .de b v i o => match rowOf mem b v i with | some row => dy tt T (row.cells.drop o) | none => none
 | .cn cs => dy tt T cs
 | _ => none

def Ju (tt : Table) (S : TypeId) (f : Nat) : Option Nat := match tt S with | some i => (match i.bz[f]? with | some p => some p.1 | none => none) | none => none
def dz (tt : Table) (T : TypeId) : Option TypeId := match tt T with | some i => i.elem | none => none
def iU (tt : Table) (T : TypeId) : Option Nat := match tt T with | some i => some i.size | none => none

def fieldAt (off : Nat) : V → Option V
 | .ptr b o => some (.ptr b (o + off))
 | .de b v i o => some (.de b v i (o + off))
 | .cn cs => some (.cn (cs.drop off))
 | _ => none
def vE (tt : Table) (S : TypeId) (f : Nat) (x : V) : Option V := match Ju tt S f with | some off => fieldAt off x | none => none

def eL (mem : List ay) (b v : Nat) : Option Nat :=
 match mem[b]? with
 | some (.rows v' e _) => if v' = v then some e else none
 | some (.mJ v' e _) => if v' = v then some e else none
 | _ => none

def indexAt (mem : List ay) (size : Nat) (n : Int) : V → Option V
 | .slice rows => if 0 ≤ n then (match rows[n.toNat]? with | some row => if row.cells.length = size then some (.cn row.cells) else none | none => none) else none
 | .ms b v s l => if 0 ≤ n ∧ n < l ∧ eL mem b v = some size then some (.de b v (s + n.toNat) 0) else none
 | _ => none
def ix (tt : Table) (mem : List ay) (T : TypeId) (x i : V) : Option V :=
 match i with
 | .sc (.int _ n) => match dz tt T with
  | some e => match iU tt e with
   | some size => indexAt mem size n x
   | none => none
  | none => none
 | _ => none

theorem add_add (a : Addr) (m n : Nat) : (a.add m).add n = a.add (m + n) := by
 unfold Addr.add
 by_cases hm : m = 0 <;> by_cases hn : n = 0 <;> simp [hm, hn, Nat.add_assoc]
theorem add_lit (b o n : Nat) : (Addr.mk b o none).add n = ⟨b, o + n, none⟩ := by
 unfold Addr.add; by_cases hn : n = 0 <;> simp [hn]

theorem au {P : Program} {t : TypeId} {d : TypeDesc} (h : P.underlying t = some d) (w : World) : (underlying t).run P w = .ok d w := by
 simp [underlying, h]
theorem cL {P : Program} {t : TypeId} {i : TypeInfo} (h : P.info? t = some i) (w : World) : (typeInfo t).run P w = .ok i w := by
 simp [typeInfo, h]
theorem dg {P : Program} {t : TypeId} {i : TypeInfo} (h : P.info? t = some i) (w : World) : (sizeOf t).run P w = .ok i.size w := by
 simp [sizeOf, cL h]
theorem TT.isAgg {P : Program} {tt : Table} (h : TT P tt) {t : TypeId} {i : Ti} (ht : tt t = some i) (w : World) : (isAgg t).run P w = .ok i.agg w := by
 obtain ⟨d, hd, ha, -⟩ := h.desc t i ht
 simp only [Go.isAgg,Sem.run_bind,au hd,Result.andThen_ok]
 cases hi : i.agg with
 | true =>
  rcases ha.1 hi with ⟨fs, rfl⟩ | ⟨n, e, rfl⟩ <;> rfl
 | false =>
  have : ¬ ((∃ fs, d = .struct fs) ∨ ∃ n e, d = .array n e) := fun hh => by rw [ha.2 hh] at hi; cases hi
  cases d <;> first | rfl | (exfalso; apply this; first | exact .inl ⟨_, rfl⟩ | exact .inr ⟨_, _, rfl⟩)
theorem TT.sizeOf {P : Program} {tt : Table} (h : TT P tt) {t : TypeId} {i : Ti} (ht : tt t = some i) (w : World) : (Go.sizeOf t).run P w = .ok i.size w := by
 obtain ⟨info, h1, h2, -⟩ := h.size t i ht
 rw [dg h1, h2]

def iV (E : Env) (w : World) (ad : Addr) (cs : List V) : Prop := ∀ (j : Nat) (c : V), cs[j]? = some c → ∃ x, w.cell? (ad.add j) = some x ∧ aX E c x
theorem iV.drop {E : Env} {w : World} {ad : Addr} {cs : List V} (h : iV E w ad cs) (n : Nat) : iV E w (ad.add n) (cs.drop n) := fun j c hc => by
 rw [add_add]; exact h _ _ (by simpa using hc)

theorem qZ {P : Program} {tt : Table} (ht : TT P tt) {E : Env} {w : World} {ad : Addr} {cs : List V} {T : TypeId} {v : V} (h : iV E w ad cs) (hp : dy tt T cs = some v) :
  ∃ x, (loadVar T ad).run P w = .ok x w ∧ aX E v x := by
 unfold dy at hp
 cases hi : tt T with
 | none => rw [hi] at hp; simp at hp
 | some i =>
  rw [hi] at hp; simp only at hp
  cases ha : i.agg with
  | false =>
   simp only [ha,Bool.false_eq_true,if_false] at hp
   obtain ⟨x, hx, hr⟩ := h 0 v (by simpa [List.head?_eq_getElem?] using hp)
   have h0 : ad.add 0 = ad := by simp [Addr.add]
   rw [h0] at hx
   refine ⟨x, ?_, hr⟩
   simp [loadVar, ht.isAgg hi, ha, hx]
  | true =>
   simp only [ha,if_true] at hp
   split at hp
   ·rename_i hle
    simp only [Option.some.injEq] at hp; subst hp
    have hx : ∀ j, j < i.size → ∃ x, w.cell? (ad.add j) = some x ∧ ∀ c, cs[j]? = some c → aX E c x := fun j hj => by
     have qq : j < cs.length := by omega
     obtain ⟨x, hx, hr⟩ := h j _ (List.getElem?_eq_getElem qq)
     exact ⟨x, hx, fun c hc => by rw [List.getElem?_eq_getElem qq] at hc; cases hc; exact hr⟩
    let f : Nat → Value := fun j => (w.cell? (ad.add j)).getD default
    have hf : ∀ j, j < i.size → w.cell? (ad.add j) = some (f j) := fun j hj => by
     obtain ⟨x, hx, -⟩ := hx j hj
     simp [f, hx]
    refine ⟨.agg ((List.range i.size).map f).toArray, ?_, ?_⟩
    ·simp only [loadVar,Sem.run_bind,ht.isAgg hi,Result.andThen_ok,ha,if_true,ht.sizeOf hi]
     rw [run_loadCells w ad i.size f hf]
     simp
    ·refine .agg _ _ _ (by simp; omega) fun j c x hc Xu => ?_
     have hj : j < i.size := by
      by_cases hj : j < i.size
      ·exact hj
      ·rw [List.getElem?_take] at hc; simp [hj] at hc
     rw [List.getElem?_take_of_lt hj] at hc
     obtain ⟨y, hy, hr⟩ := hx j hj
     simp [hj] at Xu
     rw [← Xu]
     have : f j = y := by simp [f, hy]
     rw [this]; exact hr c hc
   ·simp at hp

theorem Af {E : Env} {w : World} (hF : ∀ ad x, E.F ad = some x → w.cell? ad = some x) {cs : List V} {x : Value} (h : aX E (.cn cs) x) : ∃ ad, x = .pointer (some ad) ∧ iV E w ad cs := by
 cases h with
 | cn _ _ ad xf hf hr => exact ⟨ad, rfl, fun j c hc => ⟨xf j, hF _ _ (hf j c hc), (hr j c hc).mono E.ma⟩⟩

theorem iW {w : World} {g : Nat} {xs : Array Value} {T : TypeId} {fz : Nat × Nat} (h : w.heap[g]? = some (.cells xs T fz)) (o : Nat) : w.cell? ⟨g, o, none⟩ = xs[o]? := by
 simp [World.cell?, h]

theorem DP {E : Env} {w : World} {a : Act} {st : St} (hs : bd E w a st) {b o : Nat} {cs : List V} (hm : st.mem[b]? = some (.box cs)) {x : Value} (h : aX E (.ptr b o) x) :
  ∃ ad, x = .pointer (some ad) ∧ iV E w ad (cs.drop o) := by
 cases h with
 | ptr _ _ _ g e c hb =>
  obtain ⟨g', T, xs, eP, hh, hr, -⟩ := hs.mem b _ hm
  rw [hb] at eP; cases eP
  refine ⟨_, rfl, fun j c hc => ?_⟩
  rw [add_lit, iW hh]
  obtain ⟨y, hy, DQ⟩ := hr.get (i := o + j) (by simpa using hc)
  exact ⟨y, by simpa using hy, DQ⟩

theorem Ag {E : Env} {w : World} {a : Act} {st : St} (hs : bd E w a st) {b v i o : Nat} {row : V} (hm : rowOf st.mem b v i = some row) {x : Value} (h : aX E (.de b v i o) x) :
  ∃ ad, x = .pointer (some ad) ∧ iV E w ad (row.cells.drop o) := by
 cases h with
 | de _ _ _ _ _ g e c hb =>
  refine ⟨_, rfl, fun j cc hc => ?_⟩
  rw [add_lit]
  have L9 : row.cells[o + j]? = some cc := by simpa using hc
  unfold rowOf at hm
  split at hm
  ·rename_i v' e' rs hk
   split at hm
   ·rename_i hv
    subst hv
    rcases hs.mem b _ hk with ⟨rfl, -⟩ | ⟨g', T, xs, c', eP, hh, -, -, hr, -⟩
    ·simp at hm
    rw [hb] at eP; cases eP
    obtain ⟨-, h2⟩ := hr i row hm
    obtain ⟨y, hy, -, DQ⟩ := h2 _ _ L9
    exact ⟨y, by rw [iW hh, Nat.add_assoc]; exact hy, DQ.mono E.ma⟩
   ·cases hm
  ·rename_i v' e' rs hk
   split at hm
   ·rename_i hv
    subst hv
    rcases hs.mem b _ hk with ⟨rfl, -⟩ | ⟨g', c', eP, -, hr⟩
    ·simp at hm
    rw [hb] at eP; cases eP
    obtain ⟨-, h2⟩ := hr i row hm
    obtain ⟨y, hy, -, DQ⟩ := h2 _ _ L9
    exact ⟨y, hs.F _ _ (by rw [Nat.add_assoc]; exact hy), DQ.mono E.ma⟩
   ·cases hm
  ·simp at hm

theorem qs {P : Program} {tt : Table} (ht : TT P tt) {E : Env} {w : World} {a : Act} {st : St} (hs : bd E w a st) {T : TypeId} {p v : V} {x : Value} (hr : aX E p x) (h : kP tt st.mem T p = some v) :
  ∃ y, (Instr.loadAt T x).run P w = .ok y w ∧ aX E v y := by
 have key : ∃ ad cs, x = .pointer (some ad) ∧ iV E w ad cs ∧ dy tt T cs = some v := by
  unfold kP at h
  split at h
  ·split at h
   ·rename_i hm
    obtain ⟨ad, h1, h2⟩ := DP hs hm hr
    exact ⟨ad, _, h1, h2, h⟩
   ·simp at h
  ·split at h
   ·rename_i hm
    obtain ⟨ad, h1, h2⟩ := Ag hs hm hr
    exact ⟨ad, _, h1, h2, h⟩
   ·simp at h
  ·obtain ⟨ad, h1, h2⟩ := Af hs.F hr
   exact ⟨ad, _, h1, h2, h⟩
  ·simp at h
 obtain ⟨ad, cs, rfl, hc, hp⟩ := key
 obtain ⟨y, hy, DQ⟩ := qZ ht hc hp
 exact ⟨y, by simp [Instr.loadAt, Instr.sureAddr, hy], DQ⟩

theorem vF {P : Program} {tt : Table} (ht : TT P tt) {E : Env} {S : TypeId} {f : Nat} {p v : V} {x : Value} (hr : aX E p x) (h : vE tt S f p = some v) (w : World) :
  ∃ y, (Instr.fieldAt S x f).run P w = .ok y w ∧ aX E v y := by
 unfold vE Ju at h
 cases hi : tt S with
 | none => rw [hi] at h; simp at h
 | some i =>
  rw [hi] at h; simp only at h
  cases ho : i.bz[f]? with
  | none => rw [ho] at h; simp at h
  | some off =>
   rw [ho] at h; simp only at h
   obtain ⟨d, hd, -, -, UT⟩ := ht.desc S i hi
   obtain ⟨fs, fd, inf, rfl, -, hf, Qv, fF, jC, gQ⟩ := UT f off.1 off.2 ho
   have ka : inf.size ≠ 0 := by omega
   obtain ⟨off, sz⟩ := off
   dsimp only at Qv
   subst Qv
   have run : ∀ ad, (Instr.fieldAt S (.pointer (some ad)) f).run P w = .ok (.pointer (some (ad.add fd.offset))) w := fun ad => by
    simp [Instr.fieldAt, au hd, hf, Instr.sureAddr, fieldPlace, dg fF, ka]
   unfold Eng.fieldAt at h
   split at h
   ·simp only [Option.some.injEq] at h; subst h
    cases hr with
    | ptr _ _ _ g e c hb => exact ⟨_, run _, by rw [add_lit]; exact .ptr _ _ _ g e c hb⟩
   ·simp only [Option.some.injEq] at h; subst h
    cases hr with
    | de _ _ _ _ _ g e c hb => exact ⟨_, run _, by rw [add_lit, Nat.add_assoc]; exact .de _ _ _ _ _ g e c hb⟩
   ·simp only [Option.some.injEq] at h; subst h
    cases hr with
    | cn _ _ ad xf hf hr => exact ⟨_, run _, .cn _ _ _ (fun j => xf (fd.offset + j)) (fun j c hc => by rw [add_add]; exact hf _ _ (by simpa using hc)) fun j c hc => hr _ _ (by simpa using hc)⟩
   ·simp at h

theorem xz {E : Env} {w : World} {a : Act} {st : St} (hs : bd E w a st) {b v size g e c : Nat} (h : eL st.mem b v = some size) (hb : E.aK b v = some (g, e, c)) : e = size := by
 unfold eL at h
 split at h
 ·rename_i hk
  split at h
  ·rename_i hv
   subst hv
   rcases hs.mem b _ hk with ⟨-, hn⟩ | ⟨g', T', xs, c', eP, -⟩
   ·rw [hb] at hn; cases hn
   rw [hb] at eP; cases eP; simpa using h
  ·cases h
 ·rename_i hk
  split at h
  ·rename_i hv
   subst hv
   rcases hs.mem b _ hk with ⟨-, hn⟩ | ⟨g', c', eP, -⟩
   ·rw [hb] at hn; cases hn
   rw [hb] at eP; cases eP; simpa using h
  ·cases h
 ·simp at h

theorem vG {P : Program} {tt : Table} (ht : TT P tt) {E : Env} {w : World} {a : Act} {st : St} (hs : bd E w a st) {T : TypeId} {p i v : V} {x y : Value} (hp : aX E p x) (hi : aX E i y) (h : ix tt st.mem T p i = some v) :
  ∃ z, (Instr.indexAt T x y).run P w = .ok z w ∧ aX E v z := by
 unfold ix at h
 split at h
 ·rename_i k n
  cases hi with
  | sc =>
  unfold dz iU at h
  cases hT : tt T with
  | none => rw [hT] at h; simp at h
  | some iT =>
   rw [hT] at h; simp only at h
   cases he : iT.elem with
   | none => rw [he] at h; simp at h
   | some e =>
    rw [he] at h; simp only at h
    cases hE : tt e with
    | none => rw [hE] at h; simp at h
    | some ie =>
     rw [hE] at h; simp only at h
     obtain ⟨d, hd, -, lb, -⟩ := ht.desc T iT hT
     obtain rfl := lb e he
     have run : ∀ (ad : Addr) (len cap : Nat), 0 ≤ n → n < len → (Instr.indexAt T (.slice (some ad) len cap) (.int k n)).run P w = .ok (.pointer (some (ad.add (n.toNat * ie.size)))) w := fun ad len cap h0 h1 => by
      simp [Instr.indexAt, asIntOf, au hd, ht.sizeOf hE, h0, h1]
     unfold Eng.indexAt at h
     split at h
     ·rename_i rows
      split at h
      ·rename_i h0
       split at h
       ·rename_i row cd
        split at h
        ·rename_i hlen
         simp only [Option.some.injEq] at h; subst h
         cases hp with
         | slice _ _ aa cap nn ad xf ha hD hz hF h1 hR =>
          have aB : n.toNat < rows.length := (List.getElem?_eq_some_iff.1 cd).1
          have bO : rows ≠ [] := by rintro rfl; simp at aB
          obtain rfl := ha bO
          have UU : nn = ie.size := by rw [← hz _ _ cd, hlen]
          subst UU
          exact ⟨_, run ad _ cap h0 (by omega), .cn _ _ _ (fun j => xf n.toNat j) (fun j c hc => by rw [add_add]; exact hF _ _ _ _ cd hc) fun j c hc => hR _ _ _ _ cd hc⟩
        ·simp at h
       ·simp at h
      ·simp at h
     ·rename_i b v s l
      split at h
      ·rename_i h0
       obtain ⟨h0, h1, h2⟩ := h0
       simp only [Option.some.injEq] at h; subst h
       cases hp with
       | df => simp at h1; omega
       | ms _ _ _ _ _ g e' c aa cap hb hl FL hc =>
        obtain rfl := hl (by omega)
        have Ys : e' = ie.size := xz hs h2 hb
        subst Ys
        refine ⟨_, run _ _ cap h0 h1, ?_⟩
        have := aX.de E b v (s + n.toNat) 0 g ie.size c hb
        rw [add_lit, ← Nat.add_mul]
        simpa using this
      ·simp at h
     ·simp at h
 ·simp at h
end Go.Eng
end

section
namespace Go.Eng
variable [aG]

def mV : List V → Option (List Value)
 | [] => some []
 | .sc v :: r => match mV r with | some l => some (v :: l) | none => none
 | _ :: _ => none

def bC : V → Option Value
 | .sc v => some v
 | .agg cs => match mV cs with | some l => some (.agg l.toArray) | none => none
 | _ => none

theorem uC {E : Env} : ∀ {vs : List V} {xs : List Value} {l : List Value}, aQ E vs xs → mV vs = some l → xs = l
 | [], xs, l, h, hl => by simp [mV] at hl; subst hl; exact h.of_nil
 | v :: vs, xs, l, h, hl => by
  obtain ⟨x, ys, rfl, h1, h2⟩ := h.of_cons
  cases v with
  | sc v =>
   simp only [mV] at hl
   split at hl
   ·rename_i l' Nk
    simp only [Option.some.injEq] at hl; subst hl
    cases h1
    rw [uC h2 Nk]
   ·simp at hl
  | _ => simp [mV] at hl

theorem eM {E : Env} {v : V} {x y : Value} (h : aX E v x) (hv : bC v = some y) : x = y := by
 cases v with
 | sc v => cases h; simpa [bC] using hv
 | agg cs =>
  simp only [bC] at hv
  split at hv
  ·rename_i l hl
   simp only [Option.some.injEq] at hv; subst hv
   cases h with
   | agg _ _ xs hlen hr =>
    have := uC (E := E) (xs := xs.toList) ⟨by simpa using hlen, fun i c x hc hx => hr i c x hc (by simpa using hx)⟩ hl
    rw [← this]
  ·simp at hv
 | _ => simp [bC] at hv

def mW (P : Program) (f : Value → Sem Value) (x : V) : Option V :=
 match bC x with
 | some a => match aH P (f a) with | some v => some (dH v) | none => none
 | none => none
def aT (P : Program) (f : Value → Value → Sem Value) (x y : V) : Option V :=
 match bC x with
 | some a => match bC y with
  | some b => match aH P (f a b) with | some v => some (dH v) | none => none
  | none => none
 | none => none

theorem lf {P : Program} {f : Value → Sem Value} {E : Env} {w : World} {x v : V} {a : Value} (hx : aX E x a) (h : mW P f x = some v) : ∃ y, (f a).run P w = .ok y w ∧ aX E v y := by
 unfold mW at h
 split at h
 ·rename_i a' ha
  cases eM hx ha
  split at h
  ·rename_i y hy
   simp only [Option.some.injEq] at h; subst h
   exact ⟨y, cI _ hy w, fC E y⟩
  ·simp at h
 ·simp at h
theorem gF {P : Program} {f : Value → Value → Sem Value} {E : Env} {w : World} {x y v : V} {a b : Value} (hx : aX E x a) (hy : aX E y b) (h : aT P f x y = some v) :
  ∃ z, (f a b).run P w = .ok z w ∧ aX E v z := by
 unfold aT at h
 split at h
 ·rename_i a' ha
  cases eM hx ha
  split at h
  ·rename_i b' hb
   cases eM hy hb
   split at h
   ·rename_i z hz
    simp only [Option.some.injEq] at h; subst h
    exact ⟨z, cI _ hz w, fC E z⟩
   ·simp at h
  ·simp at h
 ·simp at h

def Nl : V → Option V
 | .ptr b o => some (.ptr b o)
 | .de b v i o => some (.de b v i o)
 | .cn cs => some (.cn cs)
 | .fS (.func f) a b => some (.fS (.func f) a b)
 | .sc (.func (.func f) a b) => some (.sc (.func (.func f) a b))
 | _ => none

def ca (rows : List V) (l size : Nat) : Bool := match rows[l]? with | some row => row.cells.length == size | none => true

def cutAt (mem : List ay) (size : Nat) (l : Int) (h : Option Int) : V → Option V
 | .slice rows =>
  if 0 ≤ l ∧ l ≤ h.getD rows.length ∧ h.getD rows.length ≤ rows.length ∧ ca rows l.toNat size = true then some (.slice ((rows.drop l.toNat).take (h.getD rows.length - l).toNat)) else none
 | .ms b v s n =>
  if 0 ≤ l ∧ l ≤ h.getD n ∧ h.getD n ≤ n ∧ eL mem b v = some size then some (.ms b v (s + l.toNat) (h.getD n - l).toNat) else none
 | _ => none

def xC : V → Option Int
 | .sc (.int _ n) => some n
 | _ => none

def rT (P : Program) (tt : Table) (mem : List ay) (T : TypeId) (x : V) (lo hi : Option V) : Option V :=
 match x with
 | .sc a => match lo with
  | none => match hi with
   | none => mW P (fun a => Instr.sliceAt T a none none none) (.sc a)
   | some h => aT P (fun a h => Instr.sliceAt T a none (some h) none) (.sc a) h
  | some l => match hi with
   | none => aT P (fun a l => Instr.sliceAt T a (some l) none none) (.sc a) l
   | some h => match bC h with
    | some h => aT P (fun a l => Instr.sliceAt T a (some l) (some h) none) (.sc a) l
    | none => none
 | x => match dz tt T with
  | none => none
  | some e => match iU tt e with
   | none => none
   | some size => match lo with
    | none => match hi with
     | none => cutAt mem size 0 none x
     | some h => match xC h with | some h => cutAt mem size 0 (some h) x | none => none
    | some l => match xC l with
     | none => none
     | some l => match hi with
      | none => cutAt mem size l none x
      | some h => match xC h with | some h => cutAt mem size l (some h) x | none => none

theorem lg {E : Env} {v : V} {x : Value} {n : Int} (h : aX E v x) (hv : xC v = some n) : ∃ k, x = .int k n := by
 unfold xC at hv
 split at hv
 ·cases h; simp at hv; subst hv; exact ⟨_, rfl⟩
 ·simp at hv

theorem iX {E : Env} {w : World} {a : Act} {st : St} (hs : bd E w a st) {size : Nat} {l : Int} {h : Option Int} {x v : V} {y : Value} (hx : aX E x y) (hc : cutAt st.mem size l h x = some v) :
  ∃ aa len cap, y = .slice aa len cap ∧ 0 ≤ l ∧ l ≤ h.getD len ∧ h.getD len ≤ len ∧ len ≤ cap ∧
   aX E v (.slice (if cap = l.toNat then aa else aa.map (·.add (l.toNat * size))) (h.getD len - l).toNat (cap - l.toNat)) := by
 unfold cutAt at hc
 split at hc
 ·rename_i rows
  split at hc
  ·rename_i hh
   obtain ⟨h0, h1, h2, h3⟩ := hh
   simp only [Option.some.injEq] at hc; subst hc
   cases hx with
   | slice _ _ aa cap nn ad xf ha hD hz hF kf hR =>
    refine ⟨aa, rows.length, cap, rfl, h0, h1, h2, hD, ?_⟩
    have hlen : ((rows.drop l.toNat).take (h.getD rows.length - l).toNat).length = (h.getD rows.length - l).toNat := by simp; omega
    have hg : ∀ (i : Nat) (row : V), ((rows.drop l.toNat).take (h.getD rows.length - l).toNat)[i]? = some row → rows[l.toNat + i]? = some row := fun i row hi => by
     rw [List.getElem?_take] at hi
     split at hi
     ·simpa using hi
     ·simp at hi
    suffices xD : aX E (.slice ((rows.drop l.toNat).take (h.getD rows.length - l).toNat)) (.slice (if cap = l.toNat then aa else aa.map (·.add (l.toNat * size))) ((rows.drop l.toNat).take (h.getD rows.length - l).toNat).length (cap - l.toNat)) by
     rw [hlen] at xD; exact xD
    refine .slice _ _ _ (cap - l.toNat) nn (ad.add (l.toNat * nn)) (fun i j => xf (l.toNat + i) j) (fun bO => ?_) (by rw [hlen]; omega) (fun i row hi => hz _ _ (hg i row hi))
     (fun i row j c hi hj => by rw [add_add, ← Nat.add_assoc, ← Nat.add_mul]; exact hF _ _ _ _ (hg i row hi) hj) (fun i row j c hi hj => kf _ _ _ _ (hg i row hi) hj) fun i row j c hi hj => hR _ _ _ _ (hg i row hi) hj
    have aB : l.toNat < rows.length := by
     rcases Nat.lt_or_ge l.toNat rows.length with aB | cB
     ·exact aB
     ·exact absurd (by rw [List.drop_eq_nil_of_le cB]; simp) bO
    have FM : rows ≠ [] := by rintro rfl; simp at aB
    rw [if_neg (by omega), ha FM]
    unfold ca at h3
    rw [List.getElem?_eq_getElem aB] at h3
    simp only [beq_iff_eq] at h3
    rw [← h3, hz _ _ (List.getElem?_eq_getElem aB)]
    rfl
  ·simp at hc
 ·rename_i b v s n
  split at hc
  ·rename_i hh
   obtain ⟨h0, h1, h2, h3⟩ := hh
   simp only [Option.some.injEq] at hc; subst hc
   cases hx with
   | df =>
    refine ⟨none, 0, 0, rfl, h0, h1, h2, Nat.le_refl _, ?_⟩
    have e1 : l.toNat = 0 := by have : ((0 : Nat) : Int) = 0 := rfl; omega
    have e2 : (h.getD (0 : Nat) - l).toNat = 0 := by have : ((0 : Nat) : Int) = 0 := rfl; omega
    rw [e1, e2]
    exact .df _ _ _ _
   | ms _ _ _ _ _ g e c aa cap hb hl FL uD =>
    obtain rfl := xz hs h3 hb
    refine ⟨aa, n, cap, rfl, h0, h1, h2, uD.1, ?_⟩
    refine .ms _ _ _ _ _ g e c _ _ hb (fun hp => ?_) (fun hz => ?_) ⟨by omega, by omega, fun hp => by
     rw [if_neg (by omega), uD.2.2 (by omega)]
     simp only [Option.map_some,add_lit,← Nat.add_mul]⟩
    ·rw [if_neg (by omega), hl (by omega)]
     simp only [Option.map_some,add_lit,← Nat.add_mul]
    ·obtain ⟨h5, h6⟩ := FL (by omega)
     have : l.toNat = 0 := by omega
     rw [this, h5]
     refine ⟨?_, by omega⟩
     split
     ·rfl
     ·simp [Addr.add]
  ·simp at hc
 ·simp at hc

theorem iY {P : Program} {tt : Table} (ht : TT P tt) {T e : TypeId} {size : Nat} (he : dz tt T = some e) (hz : iU tt e = some size) (w : World) (aa : Option Addr) (len cap : Nat) (lo hi : Option Value)
  (l : Int) (h : Option Int) (kQ : (lo = none ∧ l = 0) ∨ ∃ k, lo = some (.int k l)) (og : (hi = none ∧ h = none) ∨ ∃ k n, hi = some (.int k n) ∧ h = some n)
  (h0 : 0 ≤ l) (h1 : l ≤ h.getD len) (h2 : h.getD len ≤ len) (h3 : len ≤ cap) :
  (Instr.sliceAt T (.slice aa len cap) lo hi none).run P w = .ok (.slice (if cap = l.toNat then aa else aa.map (·.add (l.toNat * size))) (h.getD len - l).toNat (cap - l.toNat)) w := by
 unfold dz at he
 unfold iU at hz
 cases hT : tt T with
 | none => rw [hT] at he; simp at he
 | some iT =>
  rw [hT] at he; simp only at he
  cases hE : tt e with
  | none => rw [hE] at hz; simp at hz
  | some ie =>
   rw [hE] at hz; simp only [Option.some.injEq] at hz; subst hz
   obtain ⟨d, hd, -, lb, -⟩ := ht.desc T iT hT
   obtain rfl := lb e he
   have dV : ∀ m : Int, (m - l).toNat = m.toNat - l.toNat := fun m => by omega
   rcases kQ with ⟨rfl, rfl⟩ | ⟨k, rfl⟩ <;> rcases og with ⟨rfl, rfl⟩ | ⟨k', n, rfl, rfl⟩ <;>
    simp only [Option.getD_some,Option.getD_none] at h1 h2 ⊢ <;>
    simp only [Instr.sliceAt,Instr.slice,Sem.run_bind,au hd,Result.andThen_ok,Instr.sliceBounds,Instr.sliceBound,asIntOf,Sem.run_pure,ht.sizeOf hE,Option.isSome_none]
   ·simp
   ·rw [if_pos ⟨by omega, by omega⟩]; simp
   ·rw [if_pos ⟨by omega, by omega⟩]; simp; omega
   ·rw [if_pos ⟨by omega, by omega⟩]
    simp only [Sem.run_pure,Result.andThen_ok]
    rw [if_pos ⟨by omega, by omega⟩]
    simp; omega
end Go.Eng
end

section
namespace Go.Eng
variable [aG]

def dW (kind : TypeDesc) (k : Value) : List (Value × Nat × V) → Nat → Option (Option (Nat × V))
 | [], _ => some none
 | e :: r, i => match Instr.sameNow kind k e.1 with
  | some true => some (some (i, e.2.2))
  | some false => dW kind k r (i + 1)
  | none => none
def iy (P : Program) (T : TypeId) (k : Value) : List (Value × Nat × V) → Nat → Option (Option (Nat × V))
 | [], _ => some none
 | e :: r, i => match aH P (Op.equal T k e.1) with
  | some true => some (some (i, e.2.2))
  | some false => iy P T k r (i + 1)
  | none => none
def kR (P : Program) (T : TypeId) (k : Value) (br : List (Value × Nat × V)) : Option (Option (Nat × V)) :=
 match P.underlying T with
 | some d => match dW d k br 0 with
  | some r => some r
  | none => iy P T k br 0
 | none => none

def Found (E : Env) (br : List (Value × Nat × V)) (es : List MapEntry) : Option (Nat × V) → Option (Nat × Value) → Prop
 | none, none => True
 | some (i, v), some (j, x) => i = j ∧ aX E v x ∧ ∃ kb e, br[i]? = some kb ∧ es[i]? = some e ∧ kb.2.2 = v ∧ e.val = x
 | _, _ => False

theorem cC.get {E : Env} {br : List (Value × Nat × V)} {es : List MapEntry} (h : cC E br es) {i : Nat} {kb : Value × Nat × V} (hk : br[i]? = some kb) : ∃ e, es[i]? = some e ∧ e.key = kb.1 ∧ e.born = kb.2.1 ∧ aX E kb.2.2 e.val := by
 have hi : i < es.length := by rw [← h.1]; exact (List.getElem?_eq_some_iff.1 hk).1
 exact ⟨es[i], List.getElem?_eq_getElem hi, h.2 i kb _ hk (List.getElem?_eq_getElem hi)⟩
theorem cC.drop {E : Env} {br : List (Value × Nat × V)} {es : List MapEntry} (h : cC E br es) (n : Nat) : cC E (br.drop n) (es.drop n) :=
 ⟨by simp [h.1], fun i k e hk he => h.2 (n + i) k e (by simpa using hk) (by simpa using he)⟩
theorem cC.of_nil {E : Env} {es : List MapEntry} (h : cC E [] es) : es = [] := by have := h.1; simp at this; exact List.length_eq_zero_iff.1 this.symm
theorem cC.of_cons {E : Env} {k : Value × Nat × V} {r : List (Value × Nat × V)} {es : List MapEntry} (h : cC E (k :: r) es) : ∃ e es', es = e :: es' ∧ e.key = k.1 ∧ e.born = k.2.1 ∧ aX E k.2.2 e.val ∧ cC E r es' := by
 cases es with
 | nil => have := h.1; simp at this
 | cons e es' =>
  obtain ⟨h1, h2, h3⟩ := h.2 0 k e rfl rfl
  exact ⟨e, es', rfl, h1, h2, h3, by have := h.1; simpa using this, fun i k' e' hk he => h.2 (i + 1) k' e' (by simpa using hk) (by simpa using he)⟩

theorem rU {E : Env} {kind : TypeDesc} {k : Value} {br : List (Value × Nat × V)} {es : List MapEntry} (h : cC E br es) : ∀ (n : Nat) {r : Option (Nat × V)}, dW kind k (br.drop n) n = some r →
  ∃ r', Instr.findNow kind k (es.drop n) n = some r' ∧ Found E br es r r' := by
 intro n
 generalize hl : br.length - n = m
 induction m generalizing n with
 | zero =>
  intro r hr
  have h1 : br.drop n = [] := List.drop_eq_nil_of_le (by omega)
  have h2 : es.drop n = [] := List.drop_eq_nil_of_le (by have := h.1; omega)
  rw [h1] at hr; rw [h2]
  simp only [dW,Option.some.injEq] at hr; subst hr
  exact ⟨none, rfl, trivial⟩
 | succ m ih =>
  intro r hr
  have hn : n < br.length := by omega
  have Ma : n < es.length := by have := h.1; omega
  rw [List.drop_eq_getElem_cons hn] at hr
  rw [List.drop_eq_getElem_cons Ma]
  have hk := List.getElem?_eq_getElem hn
  have he := List.getElem?_eq_getElem Ma
  obtain ⟨h1, h2, h3⟩ := h.2 n _ _ hk he
  simp only [dW] at hr
  simp only [Instr.findNow,h1]
  split at hr
  ·rename_i hs; rw [hs]; simp only [Option.some.injEq] at hr; subst hr
   exact ⟨_, rfl, rfl, h3, _, _, hk, he, rfl, rfl⟩
  ·rename_i hs; rw [hs]; exact ih (n + 1) (by omega) hr
  ·cases hr
theorem uc {E : Env} {kind : TypeDesc} {k : Value} {br : List (Value × Nat × V)} {es : List MapEntry} (h : cC E br es) : ∀ (n : Nat), dW kind k (br.drop n) n = none → Instr.findNow kind k (es.drop n) n = none := by
 intro n
 generalize hl : br.length - n = m
 induction m generalizing n with
 | zero =>
  intro hr
  have h1 : br.drop n = [] := List.drop_eq_nil_of_le (by omega)
  rw [h1] at hr
  simp [dW] at hr
 | succ m ih =>
  intro hr
  have hn : n < br.length := by omega
  have Ma : n < es.length := by have := h.1; omega
  rw [List.drop_eq_getElem_cons hn] at hr
  rw [List.drop_eq_getElem_cons Ma]
  obtain ⟨h1, h2, h3⟩ := h.2 n _ _ (List.getElem?_eq_getElem hn) (List.getElem?_eq_getElem Ma)
  simp only [dW] at hr
  simp only [Instr.findNow,h1]
  split at hr
  ·cases hr
  ·rename_i hs; rw [hs]; exact ih (n + 1) (by omega) hr
  ·rename_i hs; rw [hs]
theorem rV {P : Program} {E : Env} {T : TypeId} {k : Value} {br : List (Value × Nat × V)} {es : List MapEntry} (h : cC E br es) (w : World) : ∀ (n : Nat) {r : Option (Nat × V)}, iy P T k (br.drop n) n = some r →
  ∃ r', (Instr.findAsking T k (es.drop n) n).run P w = .ok r' w ∧ Found E br es r r' := by
 intro n
 generalize hl : br.length - n = m
 induction m generalizing n with
 | zero =>
  intro r hr
  have h1 : br.drop n = [] := List.drop_eq_nil_of_le (by omega)
  have h2 : es.drop n = [] := List.drop_eq_nil_of_le (by have := h.1; omega)
  rw [h1] at hr; rw [h2]
  simp only [iy,Option.some.injEq] at hr; subst hr
  exact ⟨none, rfl, trivial⟩
 | succ m ih =>
  intro r hr
  have hn : n < br.length := by omega
  have Ma : n < es.length := by have := h.1; omega
  rw [List.drop_eq_getElem_cons hn] at hr
  rw [List.drop_eq_getElem_cons Ma]
  have hk := List.getElem?_eq_getElem hn
  have he := List.getElem?_eq_getElem Ma
  obtain ⟨h1, h2, h3⟩ := h.2 n _ _ hk he
  simp only [iy] at hr
  simp only [Instr.findAsking,h1,Sem.run_bind]
  split at hr
  ·rename_i hs; rw [cI _ hs w]; simp only [Option.some.injEq] at hr; subst hr
   exact ⟨_, rfl, rfl, h3, _, _, hk, he, rfl, rfl⟩
  ·rename_i hs; rw [cI _ hs w]
   simpa using ih (n + 1) (by omega) hr
  ·cases hr
theorem dh {P : Program} {E : Env} {T : TypeId} {k : Value} {br : List (Value × Nat × V)} {es : Array MapEntry} (h : cC E br es.toList) (w : World) {r : Option (Nat × V)} (hr : kR P T k br = some r) :
  ∃ r', (Instr.findKey T k es.toList).run P w = .ok r' w ∧ Found E br es.toList r r' := by
 unfold kR at hr
 split at hr
 ·rename_i d hd
  simp only [Instr.findKey,Sem.run_bind,au hd,Result.andThen_ok]
  split at hr
  ·rename_i r1 h1
   simp only [Option.some.injEq] at hr; subst hr
   obtain ⟨r', h2, h3⟩ := rU h 0 (r := r1) (by simpa using h1)
   simp only [List.drop_zero] at h2
   rw [h2]
   exact ⟨r', rfl, h3⟩
  ·rename_i h1
   have h2 := uc h 0 (by simpa using h1)
   simp only [List.drop_zero] at h2
   rw [h2]
   simpa using rV h w 0 (r := r) (by simpa using hr)
 ·cases hr

def mX (P : Program) (T : TypeId) (k : Value) : Bool :=
 match P.underlying T with
 | some (.int _) => true
 | some .string => true
 | some .bool => true
 | _ => match aH P (Instr.checkKey false 10000 T k), aH P (Instr.checkKey true 10000 T k) with
  | some _, some _ => true
  | _, _ => false
theorem iZ {P : Program} {T : TypeId} {k : Value} (h : mX P T k = true) (b : Bool) (w : World) : (Instr.checkKey b 10000 T k).run P w = .ok () w := by
 unfold mX at h
 have Nn : ∀ d, P.underlying T = some d → (∀ m, d ≠ .interface m) → (∀ n e, d ≠ .array n e) → (∀ fs, d ≠ .struct fs) → (Instr.checkKey b 10000 T k).run P w = .ok () w := by
  intro d hd h1 h2 h3
  show (Instr.checkKey b (9999 + 1) T k).run P w = _
  rw [Instr.checkKey]
  simp only [Sem.run_bind,au hd,Result.andThen_ok]
  cases d <;> first | (cases k <;> rfl) | exact absurd rfl (h1 _) | exact absurd rfl (h2 _ _) | exact absurd rfl (h3 _)
 split at h
 ·rename_i hd; exact Nn _ hd (by simp) (by simp) (by simp)
 ·rename_i hd; exact Nn _ hd (by simp) (by simp) (by simp)
 ·rename_i hd; exact Nn _ hd (by simp) (by simp) (by simp)
 ·split at h
  ·rename_i h1 h2
   cases b
   ·exact cI _ h1 w
   ·exact cI _ h2 w
  ·cases h

def zeroV (P : Program) (T : TypeId) : Option V :=
 match P.info? T with
 | some i => match i.zero with | some z => some (dH z) | none => none
 | none => none
theorem lh {P : Program} {T : TypeId} {v : V} (h : zeroV P T = some v) (E : Env) (w : World) : ∃ z, (zeroValue T).run P w = .ok z w ∧ aX E v z := by
 unfold zeroV at h
 split at h
 ·rename_i i hi
  split at h
  ·rename_i z hz
   cases h
   exact ⟨z, by simp [zeroValue, cL hi, hz], fC E z⟩
  ·cases h
 ·cases h
def cY (P : Program) (T : TypeId) : Option (TypeId × TypeId) := match P.underlying T with | some (.map k e) => some (k, e) | _ => none
theorem fe {P : Program} {T kt et : TypeId} (h : cY P T = some (kt, et)) : P.underlying T = some (.map kt et) := by
 unfold cY at h
 split at h
 ·rename_i hd; cases h; exact hd
 ·cases h

def Qw (ok b : Bool) (v : V) : V := if ok = true then .bT [v, .sc (.bool b)] else v
theorem vH {E : Env} {v : V} {x : Value} (h : aX E v x) (ok b : Bool) : aX E (Qw ok b v) (if ok = true then .tuple #[x, .bool b] else x) := by
 unfold Qw
 split
 ·refine .bT _ _ _ rfl fun i c y hc hy => ?_
  match i with
  | 0 => simp at hc hy; subst hc; subst hy; exact h
  | 1 => simp at hc hy; subst hc; subst hy; exact .sc _ _
  | i + 2 => simp at hc
 ·exact h
def oh (P : Program) (mem : List ay) (kt et : TypeId) (m : V) (key : Value) (ok : Bool) : Option V :=
 match m with
 | .mp b => match mem[b]? with
  | some (.map br _) => match kR P kt key br with
   | some (some (_, v)) => some (Qw ok true v)
   | some none => match zeroV P et with | some z => some (Qw ok false z) | none => none
   | none => none
  | _ => none
 | .sc (.map none) => match kR P kt key [] with
  | some none => match zeroV P et with | some z => some (Qw ok false z) | none => none
  | _ => none
 | _ => none
def di (P : Program) (mem : List ay) (T : TypeId) (m i : V) (ok : Bool) : Option V :=
 match cY P T with
 | some (kt, et) => match bC i with
  | some key => if mX P kt key = true then oh P mem kt et m key ok else none
  | none => none
 | none => none

theorem np {E : Env} {b : Nat} {x : Value} (h : aX E (.mp b) x) : ∃ g e c, x = .map (some g) ∧ E.aK b 0 = some (g, e, c) := by
 cases h with | mp _ _ l e c hb => exact ⟨l, e, c, rfl, hb⟩
theorem gy {E : Env} {w : World} {a : Act} {st : St} (hs : bd E w a st) {b : Nat} {br : List (Value × Nat × V)} {clock : Nat} (hm : st.mem[b]? = some (.map br clock)) {g e c : Nat} (hb : E.aK b 0 = some (g, e, c)) :
  ∃ es, w.heap[g]? = some (.map es clock) ∧ cC E br es.toList ∧ (∀ o, E.F ⟨g, o, none⟩ = none) ∧ (e, c) = (0, 0) := by
 obtain ⟨g', es, h1, h2, h3, h4⟩ := hs.mem b _ hm
 rw [hb] at h1; cases h1
 exact ⟨es, h2, h3, h4, rfl⟩
theorem ch {P : Program} {w : World} {g : Nat} {es : Array MapEntry} {clock : Nat} (h : w.heap[g]? = some (.map es clock)) : (getObj g).run P w = .ok (.map es clock) w := by simp [getObj, Sem.run, h]
theorem dO {P : Program} {w : World} {g : Nat} {o o' : Obj} (h : w.heap[g]? = some o) (hc : ∀ a b c, o ≠ .cells a b c) : (setObj g o').run P w = .ok () { w with heap := w.heap.setIfInBounds g o' } := by
 unfold setObj
 rw [Sem.run, h]
 cases o <;> first | rfl | exact absurd rfl (hc _ _ _)

theorem mb {E : Env} {v y : Value} (h : aX E (.sc v) y) : y = v := by cases h; rfl
theorem ud {P : Program} {E : Env} {w : World} {a : Act} {st : St} (hs : bd E w a st) {T : TypeId} {m i v : V} {ok : Bool} {x y : Value} (hm : aX E m x) (hi : aX E i y) (h : di P st.mem T m i ok = some v) :
  ∃ z, (Instr.lookup T x y ok).run P w = .ok z w ∧ aX E v z := by
 unfold di at h
 split at h
 ·rename_i kt et hd
  have hd := fe hd
  split at h
  ·rename_i key cf
   cases eM hi cf
   split at h
   ·rename_i bM
    have Fw := fun b => iZ bM b w
    unfold oh at h
    split at h
    ·rename_i b
     obtain ⟨g, e, c, rfl, hb⟩ := np hm
     split at h
     ·rename_i br clock hB
      obtain ⟨es, hh, hr, -⟩ := gy hs hB hb
      split at h
      ·rename_i j u hf
       obtain ⟨r', h1, h2⟩ := dh hr w hf
       match r', h2 with
       | some (j', z), h2 =>
        cases h
        exact ⟨_, by simp [Instr.lookup, au hd, ch hh, Fw, h1], vH h2.2.1 ok true⟩
      ·rename_i hf
       obtain ⟨r', h1, h2⟩ := dh hr w hf
       match r', h2 with
       | none, h2 =>
        split at h
        ·rename_i z hz
         cases h
         obtain ⟨z', h3, h4⟩ := lh hz E w
         exact ⟨_, by simp [Instr.lookup, au hd, ch hh, Fw, h1, h3], vH h4 ok false⟩
        ·cases h
      ·cases h
     ·cases h
    ·obtain rfl := mb hm
     split at h
     ·rename_i hf
      obtain ⟨r', h1, h2⟩ := dh (E := E) (es := #[]) ⟨rfl, fun i k e h => by simp at h⟩ w hf
      match r', h2 with
      | none, h2 =>
       split at h
       ·rename_i z hz
        cases h
        obtain ⟨z', h3, h4⟩ := lh hz E w
        exact ⟨_, by simp at h1; simp [Instr.lookup, au hd, Fw, h1, h3], vH h4 ok false⟩
       ·cases h
     ·cases h
    ·cases h
   ·cases h
  ·cases h
 ·cases h
def oi (mem : List ay) (ts : Array TypeId) (P : Program) : List V → Option V
 | [.mp b] => match mem[b]? with
  | some (.map br _) => match ts[0]? with
   | some T => match cY P T with | some _ => some (.sc (.int .i64 br.length)) | none => none
   | none => none
  | _ => none
 | _ => none
theorem Ah {P : Program} {E : Env} {w : World} {a : Act} {st : St} (hs : bd E w a st) {ts : Array TypeId} {ty : TypeId} {xs : List V} {v : V} {ys : Array Value} (hx : aQ E xs ys.toList) (h : oi st.mem ts P xs = some v) :
  ∃ z, (Builtin.len_ ts ty ys).run P w = .ok z w ∧ aX E v z := by
 unfold oi at h
 split at h
 ·rename_i b
  split at h
  ·rename_i br clock hB
   split at h
   ·rename_i T h0
    split at h
    ·rename_i p hp
     cases h
     obtain ⟨kt, et⟩ := p
     have hd := fe hp
     obtain ⟨x, r, hy, h1, h2⟩ := hx.of_cons
     have := h2.of_nil; subst this
     obtain rfl : ys = #[x] := by rw [← Array.toArray_toList (xs := ys), hy]
     obtain ⟨g, e, c, rfl, hb⟩ := np h1
     obtain ⟨es, hh, hr, -⟩ := gy hs hB hb
     refine ⟨.int .i64 es.size, by simp [Builtin.len_, h0, au hd, ch hh, goInt], ?_⟩
     have : br.length = es.size := by simpa using hr.1
     rw [this]; exact .sc _ _
    ·cases h
   ·cases h
  ·cases h
 ·cases h
def DR (mem : List ay) (it : V) : Option V :=
 match it with
 | .ptr b 0 => match mem[b]? with
  | some (.eo m _ seen last) => match mem[m]? with
   | some (.map br clock) => if clock = last then (match seen.getLast? with
    | some xE => match br.find? (fun e => e.2.1 == xE) with
     | some e => some (.bT [dH e.1, e.2.2])
     | none => none
    | none => none) else none
   | _ => none
  | _ => none
 | _ => none
theorem cC.find {E : Env} (p : Nat → Bool) : ∀ {br : List (Value × Nat × V)} {es : List MapEntry} {k : Value × Nat × V}, cC E br es → br.find? (fun e => p e.2.1) = some k → ∃ e, es.find? (fun e => p e.born) = some e ∧ e.key = k.1 ∧ aX E k.2.2 e.val
 | [], es, k, h, hf => by simp at hf
 | c :: r, es, k, h, hf => by
  obtain ⟨e, es', rfl, h1, h2, h3, h4⟩ := h.of_cons
  rw [List.find?_cons] at hf ⊢
  rw [h2]
  split at hf
  ·rename_i hp; cases hf; exact ⟨e, rfl, h1, h3⟩
  ·exact cC.find p h4 hf
theorem Ai {P : Program} {E : Env} {w : World} {a : Act} {st : St} (hs : bd E w a st) {it v : V} {x : Value} (hi : aX E it x) (h : DR st.mem it = some v) : ∃ z, (Instr.entry x).run P w = .ok z w ∧ aX E v z := by
 unfold DR at h
 split at h
 ·rename_i b
  split at h
  ·rename_i m since seen last hB
   split at h
   ·rename_i br clock hM
    split at h
    ·rename_i jD
     split at h
     ·rename_i xE gG
      split at h
      ·rename_i e he
       cases h
       obtain ⟨g, gm, em, cm, hb, Jb, hh, hf⟩ := hs.mem b _ hB
       obtain ⟨es, UW, hr, Yt, h0⟩ := gy hs hM Jb
       cases hi with
       | ptr _ _ _ g' e' c' eP =>
       rw [hb] at eP; cases eP
       have eS : (getObj g).run P w = .ok (.mapIter (some gm) since seen.toArray last) w := by simp [getObj, Sem.run, hh]
       obtain ⟨en, h1, h2, h3⟩ := cC.find (fun n => n == xE) hr he
       have Re : seen.toArray.back? = some xE := by simpa using gG
       have FN : es.find? (fun e => e.born == xE) = some en := by
        rw [← List.find?_toArray, Array.toArray_toList] at h1; exact h1
       refine ⟨.tuple #[en.key, en.val], ?_, ?_⟩
       ·subst jD
        simp only [Instr.entry,Sem.run_bind,eS,Result.andThen_ok,Re,ch UW,bne_self_eq_false,Bool.false_eq_true,if_false,FN]
        rfl
       ·refine .bT _ _ _ rfl fun i c y hc hy => ?_
        match i with
        | 0 => simp at hc hy; subst hc; subst hy; rw [h2]; exact fC E _
        | 1 => simp at hc hy; subst hc; subst hy; exact h3
        | i + 2 => simp at hc
      ·cases h
     ·cases h
    ·cases h
   ·cases h
  ·cases h
 ·cases h
end Go.Eng
end

section
namespace Go.Eng
variable [aG]

theorem b9 {E : Env} {v y : Value} (h : aX E (.sc v) y) : y = v := by cases h; rfl

theorem Aj {P : Program} {tt : Table} (ht : TT P tt) {E : Env} {w : World} {a : Act} {st : St} (hs : bd E w a st) {T : TypeId} {x v : V} {lo hi : Option Operand} {y : Value} (hx : aX E x y)
  (h : rT P tt st.mem T x (lo.map st.eval) (hi.map st.eval) = some v) : ∃ z, (Instr.sliceAt T y (lo.map a.eval) (hi.map a.eval) none).run P w = .ok z w ∧ aX E v z := by
 unfold rT at h
 split at h
 ·cases lo with
  | none =>
   cases hi with
   | none => exact lf hx h
   | some hi => exact gF (f := fun a h => Instr.sliceAt T a none (some h) none) hx (hs.eval hi) h
  | some lo =>
   cases hi with
   | none => exact gF (f := fun a l => Instr.sliceAt T a (some l) none none) hx (hs.eval lo) h
   | some hi =>
    simp only [Option.map_some] at h ⊢
    split at h
    ·rename_i hv T7
     rw [eM (hs.eval hi) T7]
     exact gF (f := fun a l => Instr.sliceAt T a (some l) (some hv) none) hx (hs.eval lo) h
    ·simp at h
 ·split at h
  ·simp at h
  ·rename_i e he
   split at h
   ·simp at h
   ·rename_i size hz
    cases lo with
    | none =>
     cases hi with
     | none =>
      obtain ⟨aa, len, cap, rfl, h0, h1, h2, h3, hr⟩ := iX hs hx h
      exact ⟨_, iY ht he hz w aa len cap none none 0 none (.inl ⟨rfl, rfl⟩) (.inl ⟨rfl, rfl⟩) h0 h1 h2 h3, hr⟩
     | some hi =>
      simp only [Option.map_some,Option.map_none] at h ⊢
      split at h
      ·rename_i n hn
       obtain ⟨k, hk⟩ := lg (hs.eval hi) hn
       obtain ⟨aa, len, cap, rfl, h0, h1, h2, h3, hr⟩ := iX hs hx h
       exact ⟨_, iY ht he hz w aa len cap none _ 0 (some n) (.inl ⟨rfl, rfl⟩) (.inr ⟨k, n, by rw [hk], rfl⟩) h0 h1 h2 h3, hr⟩
      ·simp at h
    | some lo =>
     simp only [Option.map_some] at h ⊢
     split at h
     ·simp at h
     ·rename_i l hl
      obtain ⟨k, hk⟩ := lg (hs.eval lo) hl
      cases hi with
      | none =>
       simp only [Option.map_none] at h ⊢
       obtain ⟨aa, len, cap, rfl, h0, h1, h2, h3, hr⟩ := iX hs hx h
       exact ⟨_, iY ht he hz w aa len cap _ none l none (.inr ⟨k, by rw [hk]⟩) (.inl ⟨rfl, rfl⟩) h0 h1 h2 h3, hr⟩
      | some hi =>
       simp only [Option.map_some] at h ⊢
       split at h
       ·rename_i n hn
        obtain ⟨k', eQ⟩ := lg (hs.eval hi) hn
        obtain ⟨aa, len, cap, rfl, h0, h1, h2, h3, hr⟩ := iX hs hx h
        exact ⟨_, iY ht he hz w aa len cap _ _ l (some n) (.inr ⟨k, by rw [hk]⟩) (.inr ⟨k', n, by rw [eQ], rfl⟩) h0 h1 h2 h3, hr⟩
       ·simp at h

def jn : List V → Option (List Value)
 | [] => some []
 | v :: r => match bC v with
  | some x => match jn r with | some l => some (x :: l) | none => none
  | none => none
theorem nr {E : Env} : ∀ {vs : List V} {xs l : List Value}, aQ E vs xs → jn vs = some l → xs = l
 | [], xs, l, h, hl => by simp [jn] at hl; subst hl; exact h.of_nil
 | v :: vs, xs, l, h, hl => by
  obtain ⟨x, ys, rfl, h1, h2⟩ := h.of_cons
  simp only [jn] at hl
  split at hl
  ·rename_i x' Fv
   split at hl
   ·rename_i l' Nk
    simp only [Option.some.injEq] at hl; subst hl
    rw [eM h1 Fv, nr h2 Nk]
   ·simp at hl
  ·simp at hl

def cN (P : Program) (f : Array Value → Sem Value) (xs : List V) : Option V :=
 match jn xs with
 | some l => match aH P (f l.toArray) with | some v => some (dH v) | none => none
 | none => none

theorem bd.jE {E : Env} {w : World} {a : Act} {st : St} (hs : bd E w a st) (xs : Array Operand) : aQ E (xs.toList.map st.eval) (xs.map a.eval).toList := by
 refine ⟨by simp, fun i v x hv hx => ?_⟩
 simp only [List.getElem?_map,Array.toList_map,Option.map_eq_some_iff] at hv hx
 obtain ⟨o, ho, rfl⟩ := hv
 obtain ⟨o', Mb, rfl⟩ := hx
 rw [ho] at Mb; cases Mb
 exact hs.eval o

def ra (P : Program) (tt : Table) (ts : Array TypeId) (ty : TypeId) : List V → Option V
 | [.slice rows] => match ts[0]? with
  | some t => match dz tt t with | some _ => some (.sc (.int .i64 rows.length)) | none => none
  | none => none
 | [.ms _ _ _ l] => match ts[0]? with
  | some t => match dz tt t with | some _ => some (.sc (.int .i64 l)) | none => none
  | none => none
 | xs => cN P (Builtin.len_ ts ty) xs

def Xv (tt : Table) (S : TypeId) (f : Nat) (T : TypeId) (x : V) : Option V :=
 match x with
 | .agg cs => match Ju tt S f with
  | some off => dy tt T (cs.drop off)
  | none => none
 | _ => none

def DS (k : Int) : Bool := match aG.κ k with | some b => b | none => decide (k ≤ aG.n)
theorem vI (k : Int) : DS k = decide (k ≤ aG.n) := by
 unfold DS
 split
 ·rename_i b h; exact (aG.ok k b h).symm
 ·rfl
def Cj (op : BinOp) (x y : V) : Option V :=
 match y with
 | .gn => match op, x with
  | .leq, .sc (.int .i64 k) => some (.sc (.bool (DS k)))
  | .gtr, .sc (.int .i64 k) => some (.sc (.bool (!DS k)))
  | _, _ => none
 | _ => none
theorem xF {P : Program} {E : Env} {w : World} {op : BinOp} {T : TypeId} {x y v : V} {a b : Value} (xo yo : Operand) (hx : aX E x a) (hy : aX E y b) (h : Cj op x y = some v) :
  ∃ z, (do eqGuard op T xo yo a b; binOp op T a b : Sem Value).run P w = .ok z w ∧ aX E v z := by
 unfold Cj at h
 split at h
 ·cases hy
  split at h
  ·rename_i k
   cases h
   cases hx
   refine ⟨.bool (decide (k ≤ aG.n)), by simp [binOp, Op.intCmp, eqGuard], by rw [vI]; exact .sc _ _⟩
  ·rename_i k
   cases h
   cases hx
   refine ⟨.bool (decide (k > aG.n)), by simp [binOp, Op.intCmp, eqGuard], ?_⟩
   have : (!DS k) = decide (k > aG.n) := by
    rw [vI]
    by_cases h : k ≤ aG.n
    ·rw [decide_eq_true h, decide_eq_false (by omega)]; rfl
    ·rw [decide_eq_false h, decide_eq_true (by omega)]; rfl
   rw [this]; exact .sc _ _
  ·cases h
 ·cases h
def pj (P : Program) (op : BinOp) (T : TypeId) (y : V) : Option V :=
 match y with
 | .sc (.pointer none) => match P.underlying T with
  | some (.pointer _) => match op with
   | .eql => some (.sc (.bool false))
   | .neq => some (.sc (.bool true))
   | _ => none
  | _ => none
 | _ => none
def vJ (P : Program) (op : BinOp) (T : TypeId) (x y : V) : Option V :=
 match x with
 | .cn _ => pj P op T y
 | .ptr _ _ => pj P op T y
 | .de _ _ _ _ => pj P op T y
 | _ => none
theorem vK {P : Program} {E : Env} {w : World} {op : BinOp} {T : TypeId} {x y v : V} {a b : Value} (xo yo : Operand) (hx : aX E x a) (hy : aX E y b) (h : vJ P op T x y = some v) :
  ∃ z, (do eqGuard op T xo yo a b; binOp op T a b : Sem Value).run P w = .ok z w ∧ aX E v z := by
 have key : ∀ ad : Addr, a = .pointer (some ad) → pj P op T y = some v → ∃ z, (do eqGuard op T xo yo a b; binOp op T a b : Sem Value).run P w = .ok z w ∧ aX E v z := by
  rintro ad rfl h
  unfold pj at h
  split at h
  ·split at h
   ·rename_i e hT
    cases hy
    have he : (Op.equal T (.pointer (some ad)) (.pointer none)).run P w = .ok false w := by
     show (Op.equalIn (9999 + 1) T _ _).run P w = _
     unfold Op.equalIn
     simp [au hT]
    split at h
    ·cases h
     exact ⟨.bool false, by simp [binOp, eqGuard, he], .sc _ _⟩
    ·cases h
     exact ⟨.bool true, by simp [binOp, eqGuard, he], .sc _ _⟩
    ·cases h
   ·cases h
  ·cases h
 unfold vJ at h
 split at h
 ·cases hx with
  | cn _ _ ad xf hF hR => exact key ad rfl h
 ·cases hx with
  | ptr _ _ _ g e c hb => exact key _ rfl h
 ·cases hx with
  | de _ _ _ _ _ g e c hb => exact key _ rfl h
 ·cases h
def eB : List V → Option (List Int)
 | [] => some []
 | .sc (.int .u8 n) :: r => match eB r with | some l => some (n :: l) | none => none
 | _ => none
def jo (P : Program) (s d : TypeId) (rows : List V) : Option V :=
 match P.underlying s with
 | some (.slice e) => match P.underlying e with
  | some (.int .u8) => match P.underlying d with
   | some .string => match eB rows with | some ns => some (.sc (.string (strOfNums ns))) | none => none
   | _ => none
  | _ => none
 | _ => none
def kS (P : Program) (mem : List ay) (s d : TypeId) : V → Option V
 | .slice rows => jo P s d rows
 | .ms b v o l => match mem[b]? with
  | some (.rows v' e rs) => if v' = v ∧ e = 1 ∧ o + l ≤ rs.length then jo P s d ((rs.drop o).take l) else none
  | some (.mJ v' e rs) => if v' = v ∧ e = 1 ∧ o + l ≤ rs.length then jo P s d ((rs.drop o).take l) else none
  | _ => none
 | x => mW P (convert s d) x
theorem FO (P : Program) (mem : List ay) (s d : TypeId) (x : Value) : kS P mem s d (.sc x) = mW P (convert s d) (.sc x) := rfl
theorem xG {P : Program} {mem : List ay} {s d e : TypeId} {rows : List V} {ns : List Int} (hs : P.underlying s = some (.slice e)) (he : P.underlying e = some (.int .u8)) (hd : P.underlying d = some .string) (hb : eB rows = some ns) :
  kS P mem s d (.slice rows) = some (.sc (.string (strOfNums ns))) := by simp only [kS,jo,hs,he,hd,hb]
theorem kT : ∀ {rows : List V} {ns : List Int}, eB rows = some ns → ns.length = rows.length
 | [], ns, h => by simp [eB] at h; subst h; rfl
 | r :: rs, ns, h => by
  unfold eB at h
  split at h
  ·rename_i heq; exact absurd heq (by simp)
  ·rename_i n l heq
   cases heq
   split at h
   ·rename_i l' hl
    cases h
    simp [kT hl]
   ·cases h
  ·cases h
theorem hX : ∀ {rows : List V} {ns : List Int}, eB rows = some ns → ∀ (i : Nat) (r : V), rows[i]? = some r → r = .sc (.int .u8 (ns.getD i 0))
 | [], ns, h, i, r, hr => by simp at hr
 | r0 :: rs, ns, h, i, r, hr => by
  unfold eB at h
  split at h
  ·rename_i heq; exact absurd heq (by simp)
  ·rename_i n l heq
   cases heq
   split at h
   ·rename_i l' hl
    cases h
    cases i with
    | zero => simp at hr; subst hr; rfl
    | succ i => exact hX hl i r (by simpa using hr)
   ·cases h
  ·cases h
theorem kg {P : Program} {w : World} {E : Env} {s d : TypeId} {rows : List V} {v : V} {aa : Option Addr} {cap : Nat} (h : jo P s d rows = some v) (hn : rows ≠ [] → ∃ g o, aa = some ⟨g, o, none⟩ ∧ ∀ (i : Nat) (r : V), rows[i]? = some r → ∃ x, w.cell? ⟨g, o + i, none⟩ = some x ∧ aX E r x) :
  ∃ y, (convert s d (.slice aa rows.length cap)).run P w = .ok y w ∧ aX E v y := by
 unfold jo at h
 split at h
 ·rename_i e hs
  split at h
  ·rename_i he
   split at h
   ·rename_i hd
    split at h
    ·rename_i ns hb
     cases h
     refine ⟨_, ?_, .sc _ _⟩
     have hl := kT hb
     cases rows with
     | nil =>
      have : ns = [] := List.length_eq_zero_iff.1 hl
      subst this
      rw [run_convert_bytes_string w s d e aa _ cap hs he hd]
      cases aa with
      | none => simp [Conv.bytesToString]; rfl
      | some a0 =>
       have := run_bytesToString (P := P) w a0 0 cap [] (by simp [loadCells, loadCellsFrom])
       have e0 : strOfNums [] = ByteArray.empty := rfl
       rw [e0]
       simpa using this
     | cons r0 rr =>
      obtain ⟨g, o, rfl, hc⟩ := hn (by simp)
      refine run_convert_bytes_arg w s e hs he g o _ cap ns hl (fun i hi => ?_) d hd
      obtain ⟨x, hx, hr⟩ := hc i _ (List.getElem?_eq_getElem hi)
      rw [hx, hX hb i _ (List.getElem?_eq_getElem hi)] at *
      rw [b9 hr]
    ·cases h
   ·cases h
  ·cases h
 ·cases h
theorem qt {P : Program} {s d : TypeId} {rows : List V} {v : V} (h : jo P s d rows = some v) : ∃ ns, eB rows = some ns := by
 unfold jo at h
 split at h
 ·split at h
  ·split at h
   ·split at h
    ·rename_i ns hb; exact ⟨ns, hb⟩
    ·cases h
   ·cases h
  ·cases h
 ·cases h
theorem DT {w : World} {ad : Addr} {x : Value} (h : w.cell? ad = some x) : ad.spot = none := by
 unfold World.cell? at h
 split at h
 ·split at h
  ·simp at h
  ·rename_i h1; cases hs : ad.spot with | none => rfl | some s => simp [hs] at h1
 ·simp at h
theorem xH {P : Program} {E : Env} {w : World} {a : Act} {st : St} (hs : bd E w a st) {s d : TypeId} {x v : V} {y : Value} (hx : aX E x y) (h : kS P st.mem s d x = some v) : ∃ z, (convert s d y).run P w = .ok z w ∧ aX E v z := by
 have ms : ∀ (b v' o l e : Nat) (rs : List V), aX E (.ms b v' o l) y → e = 1 → o + l ≤ rs.length → (∀ g e' c, E.aK b v' = some (g, e', c) → e' = e ∧ fE E.pure e rs (fun k => w.cell? ⟨g, k, none⟩)) →
   jo P s d ((rs.drop o).take l) = some v → ∃ z, (convert s d y).run P w = .ok z w ∧ aX E v z := by
  intro b v' o l e rs hr he hl fm hb
  obtain ⟨ns, UX⟩ := qt hb
  have hlen : ((rs.drop o).take l).length = l := by simp; omega
  cases hr with
  | df =>
   have h0 : (rs.drop o).take 0 = [] := List.take_zero
   rw [h0] at hb
   exact kg (aa := none) (cap := 0) (w := w) (E := E) hb (fun bO => absurd rfl bO)
  | ms _ _ _ _ _ g e' c aa cap dX Mc FL uD =>
   have eP := hb
   rw [← hlen]
   refine kg hb fun bO => ?_
   have Rf : 0 < l := by
    rcases Nat.eq_zero_or_pos l with h0 | h0
    ·subst h0; exact absurd List.take_zero bO
    ·exact h0
   obtain ⟨Yu, Np⟩ := fm g e' c dX
   subst he
   subst Yu
   refine ⟨g, o * 1, Mc Rf, fun i r hi => ?_⟩
   have T8 : rs[o + i]? = some r := by
    rw [List.getElem?_take] at hi
    split at hi
    ·simpa using hi
    ·simp at hi
   obtain ⟨-, h2⟩ := Np _ r T8
   have Ak := hX UX i r hi
   obtain ⟨x, hx, -, Fx⟩ := h2 0 r (by rw [Ak]; rfl)
   refine ⟨x, ?_, Fx.mono (Env.ma E)⟩
   have : (o + i) * 1 + 0 = o * 1 + i := by omega
   rw [← this]; exact hx
 unfold kS at h
 split at h
 ·rename_i rows
  obtain ⟨ns, UX⟩ := qt h
  cases hx with
  | slice _ _ aa cap nn ad xf ha hD hz hF kf hR =>
   refine kg h fun bO => ?_
   have key : ∀ (i : Nat) (r : V), rows[i]? = some r → ∃ x, w.cell? (ad.add i) = some x ∧ aX E r x := fun i r hi => by
    have Ak := hX UX i r hi
    have hc : r.cells = [r] := by rw [Ak]; rfl
    have he : nn = 1 := by rw [← hz i r hi, hc]; rfl
    have h1 := hF i r 0 r hi (by rw [hc]; rfl)
    have h2 := hR i r 0 r hi (by rw [hc]; rfl)
    rw [he, Nat.mul_one, Nat.add_zero] at h1
    exact ⟨_, hs.F _ _ h1, h2.mono (Env.ma E)⟩
   obtain ⟨r0, h0⟩ : ∃ r0, rows[0]? = some r0 := by
    cases rows with
    | nil => exact absurd rfl bO
    | cons r0 rr => exact ⟨r0, rfl⟩
   obtain ⟨x0, jF, -⟩ := key 0 r0 h0
   have Rg : ad.add 0 = ad := by simp [Addr.add]
   have tW := DT jF
   rw [Rg] at tW
   obtain ⟨g, o, sp⟩ := ad
   obtain rfl : sp = none := tW
   refine ⟨g, o, ha bO, fun i r hi => ?_⟩
   obtain ⟨x, hx, hr⟩ := key i r hi
   exact ⟨x, by rw [← hx]; congr 1; unfold Addr.add; by_cases h0 : i = 0 <;> simp [h0], hr⟩
 ·rename_i b v' o l
  split at h
  ·rename_i v1 e rs hm
   split at h
   ·rename_i hc
    obtain ⟨rfl, rfl, hl⟩ := hc
    refine ms b v1 o l 1 rs hx rfl hl (fun g e' c dX => ?_) h
    rcases hs.mem b _ hm with ⟨Jv, hn⟩ | ⟨g', T, xs, c', eP, hh, -, -, fm, -⟩
    ·rw [hn] at dX; cases dX
    ·rw [eP] at dX; cases dX
     refine ⟨rfl, fun i row hi => ?_⟩
     obtain ⟨h1, h2⟩ := fm i row hi
     refine ⟨h1, fun j cc hj => ?_⟩
     obtain ⟨x, hx, h3⟩ := h2 j cc hj
     exact ⟨x, (iW hh _).trans hx, h3⟩
   ·cases h
  ·rename_i v1 e rs hm
   split at h
   ·rename_i hc
    obtain ⟨rfl, rfl, hl⟩ := hc
    refine ms b v1 o l 1 rs hx rfl hl (fun g e' c dX => ?_) h
    rcases hs.mem b _ hm with ⟨Jv, hn⟩ | ⟨g', c', eP, -, fm⟩
    ·rw [hn] at dX; cases dX
    ·rw [eP] at dX; cases dX
     refine ⟨rfl, fun i row hi => ?_⟩
     obtain ⟨h1, h2⟩ := fm i row hi
     refine ⟨h1, fun j cc hj => ?_⟩
     obtain ⟨x, hx, h3⟩ := h2 j cc hj
     exact ⟨x, hs.F _ _ hx, h3⟩
   ·cases h
  ·cases h
 ·exact lf hx h
def fO (op : BinOp) (T : TypeId) (x y : Operand) : Value → Value → Sem Value := fun u v => do eqGuard op T x y u v; binOp op T u v
def rW (P : Program) (tt : Table) (T : TypeId) (x i : V) : Option V :=
 match x with
 | .ptr b o => match i with
  | .sc (.int _ n) => match P.underlying T with
   | some (.array len e) => match iU tt e with
    | some size => if 0 ≤ n ∧ n < len then some (.ptr b (o + n.toNat * size)) else none
    | none => none
   | _ => none
  | _ => none
 | _ => none
theorem xI {P : Program} {tt : Table} (ht : TT P tt) {E : Env} {T : TypeId} {p i v : V} {x y : Value} (hp : aX E p x) (hi : aX E i y) (h : rW P tt T p i = some v) (w : World) :
  ∃ z, (Instr.indexAt T x y).run P w = .ok z w ∧ aX E v z := by
 unfold rW iU at h
 split at h
 ·rename_i b o
  split at h
  ·rename_i k n
   split at h
   ·rename_i len e hd
    cases hE : tt e with
    | none => rw [hE] at h; simp at h
    | some ie =>
     rw [hE] at h; simp only at h
     split at h
     ·rename_i h0
      cases h
      cases hi with
      | sc =>
      cases hp with
      | ptr _ _ _ g e' c hb =>
      refine ⟨.pointer (some ⟨g, o + n.toNat * ie.size, none⟩), ?_, .ptr _ _ _ g e' c hb⟩
      simp [Instr.indexAt, asIntOf, au hd, Instr.sureAddr, ht.sizeOf hE, h0, add_lit]
     ·cases h
   ·cases h
  ·cases h
 ·cases h
def Md (rows : List V) : Bool → V
 | true => .full rows
 | false => .slice rows
def Ck (tt : Table) (T : TypeId) (x h m : V) : Option V :=
 match x with
 | .slice rows => match xC h with
  | some a => match xC m with
   | some b => match dz tt T with
    | some e => match iU tt e with
     | some _ => if 0 ≤ a ∧ a ≤ b ∧ b ≤ rows.length then some (Md (rows.take a.toNat) (decide (a = b))) else none
     | none => none
    | none => none
   | none => none
  | none => none
 | _ => none
theorem xJ {P : Program} {tt : Table} (ht : TT P tt) {E : Env} {T : TypeId} {x h m v : V} {y z u : Value} (hx : aX E x y) (hh : aX E h z) (hm : aX E m u) (hc : Ck tt T x h m = some v) (w : World) :
  ∃ q, (Instr.sliceAt T y none (some z) (some u)).run P w = .ok q w ∧ aX E v q := by
 unfold Ck at hc
 split at hc
 ·rename_i rows
  split at hc
  ·rename_i a ha
   split at hc
   ·rename_i b hb
    obtain ⟨k1, rfl⟩ := lg hh ha
    obtain ⟨k2, rfl⟩ := lg hm hb
    unfold dz iU at hc
    cases hT : tt T with
    | none => rw [hT] at hc; simp at hc
    | some iT =>
     rw [hT] at hc; simp only at hc
     cases he : iT.elem with
     | none => rw [he] at hc; simp at hc
     | some e =>
      rw [he] at hc; simp only at hc
      cases hE : tt e with
      | none => rw [hE] at hc; simp at hc
      | some ie =>
       rw [hE] at hc; simp only at hc
       obtain ⟨d, hd, -, lb, -⟩ := ht.desc T iT hT
       obtain rfl := lb e he
       split at hc
       ·rename_i pg
        obtain ⟨h0, h1, h2⟩ := pg
        cases hc
        cases hx with
        | slice _ _ aa cap nn ad xf Yv hD hz hF kf hR =>
        have hlen : (rows.take a.toNat).length = a.toNat := by rw [List.length_take]; omega
        have cO : (Instr.sliceAt T (.slice aa rows.length cap) none (some (.int k1 a)) (some (.int k2 b))).run P w = .ok (.slice aa a.toNat b.toNat) w := by
         simp only [Instr.sliceAt,Instr.slice,Sem.run_bind,au hd,Result.andThen_ok,Instr.sliceBounds,Instr.sliceBound,asIntOf,Sem.run_pure,ht.sizeOf hE,Option.isSome_some]
         rw [if_pos ⟨by omega, by omega⟩]
         simp only [Sem.run_pure,Result.andThen_ok]
         rw [if_pos ⟨by omega, by omega⟩]
         simp [Addr.add]
        refine ⟨_, cO, ?_⟩
        have hg : ∀ (i : Nat) (row : V), (rows.take a.toNat)[i]? = some row → rows[i]? = some row := fun i row hi => by
         rw [List.getElem?_take] at hi
         split at hi
         ·exact hi
         ·cases hi
        have := aX.slice E (rows.take a.toNat) aa b.toNat nn ad xf (fun bO => Yv fun h => bO (by rw [h, List.take_nil])) (by omega) (fun i row hi => hz _ _ (hg i row hi)) (fun i row j c hi hj => hF _ _ _ _ (hg i row hi) hj) (fun i row j c hi hj => kf _ _ _ _ (hg i row hi) hj) fun i row j c hi hj => hR _ _ _ _ (hg i row hi) hj
        rw [hlen] at this
        by_cases Jw : a = b
        ·rw [decide_eq_true Jw]
         have Yw : b.toNat = (rows.take a.toNat).length := by rw [hlen, Jw]
         have h4 : (Value.slice aa a.toNat b.toNat) = .slice aa (rows.take a.toNat).length (rows.take a.toNat).length := by rw [← Yw, ← Jw]
         rw [h4]
         exact .full _ _ _ (by rw [← h4]; exact this)
        ·rw [decide_eq_false Jw]
         exact this
       ·cases hc
   ·cases hc
  ·cases hc
 ·cases hc
def oj (P : Program) (tt : Table) (S : TypeId) (f : Nat) (x : V) : Option V :=
 match x with
 | .agg cs => match P.underlying S with
  | some (.struct fs) => match fs[f]? with
   | some fd => dy tt fd.type (cs.drop fd.offset)
   | none => none
  | _ => none
 | _ => none
theorem ue {P : Program} {tt : Table} (ht : TT P tt) {E : Env} {S : TypeId} {f : Nat} {x v : V} {y : Value} (hx : aX E x y) (h : oj P tt S f x = some v) (w : World) : ∃ z, (Instr.field S y f).run P w = .ok z w ∧ aX E v z := by
 unfold oj at h
 split at h
 ·rename_i cs
  split at h
  ·rename_i fs hu
   split at h
   ·rename_i fd hf
    cases hx with
    | agg _ _ xs hl hr =>
     simp only [Instr.field,Sem.run_bind,au hu,Result.andThen_ok,hf]
     unfold dy at h
     cases hi : tt fd.type with
     | none => rw [hi] at h; simp at h
     | some i =>
      rw [hi] at h; simp only at h
      cases ha : i.agg with
      | false =>
       simp only [ha,Bool.false_eq_true,if_false] at h
       have h0 : cs[fd.offset]? = some v := by simpa [List.head?_eq_getElem?] using h
       have aB : fd.offset < xs.size := by rw [← hl]; exact (List.getElem?_eq_some_iff.1 h0).1
       refine ⟨xs[fd.offset], ?_, hr _ _ _ h0 (Array.getElem?_eq_getElem aB)⟩
       simp [part, asAgg, ht.isAgg hi, ha, Array.getElem?_eq_getElem aB]
      | true =>
       simp only [ha,if_true] at h
       split at h
       ·rename_i hle
        simp only [Option.some.injEq] at h; subst h
        rw [List.length_drop] at hle
        refine ⟨.agg (xs.extract fd.offset (fd.offset + i.size)), ?_, .agg _ _ _ (by simp; omega) fun j c z hc hz => ?_⟩
        ·simp [part, asAgg, ht.isAgg hi, ha, ht.sizeOf hi]
        ·have hj : j < i.size := by
          by_cases hj : j < i.size
          ·exact hj
          ·rw [List.getElem?_take] at hc; simp [hj] at hc
         rw [List.getElem?_take_of_lt hj, List.getElem?_drop] at hc
         refine hr (fd.offset + j) c z hc ?_
         rw [Array.getElem?_extract] at hz
         split at hz
         ·exact hz
         ·cases hz
       ·cases h
   ·cases h
  ·cases h
 ·cases h
def fP (P : Program) (tt : Table) (st : St) (o : Oper) : Option V :=
 match o.op with
 | .move x => some (st.eval x)
 | .assign x => some (st.eval x)
 | .pick c a b => match st.eval c with | .sc (.bool t) => some (if t = true then st.eval a else st.eval b) | _ => none
 | .load T x => kP tt st.mem T (st.eval x)
 | .nilCheck x => Nl (st.eval x)
 | .binOp op T x y _ => match Cj op (st.eval x) (st.eval y) with
  | some v => some v
  | none => match vJ P op T (st.eval x) (st.eval y) with
   | some v => some v
   | none => aT P (fO op T x y) (st.eval x) (st.eval y)
 | .unOp op _ x => mW P (Op.unary op) (st.eval x)
 | .convert s d x => kS P st.mem s d (st.eval x)
 | .makeFunc fn first cap => some (.fS fn (first.toList.map st.eval) (cap.toList.map st.eval))
 | .slice T x lo hi none => rT P tt st.mem T (st.eval x) (lo.map st.eval) (hi.map st.eval)
 | .fieldAddr S x f => vE tt S f (st.eval x)
 | .field S x f => oj P tt S f (st.eval x)
 | .slice T x none (some h) (some m) => Ck tt T (st.eval x) (st.eval h) (st.eval m)
 | .indexAddr T x i => match ix tt st.mem T (st.eval x) (st.eval i) with
  | some v => some v
  | none => rW P tt T (st.eval x) (st.eval i)
 | .index T x i => aT P (Instr.index T) (st.eval x) (st.eval i)
 | .extract t i => match st.eval t with | .bT vs => vs[i]? | _ => none
 | .lookup T x i ok => di P st.mem T (st.eval x) (st.eval i) ok
 | .entry it => DR st.mem (st.eval it)
 | .call { callee := .builtin .len, args := xs, argTypes := ts } => match oi st.mem ts P (xs.toList.map st.eval) with
  | some v => some v
  | none => ra P tt ts o.type (xs.toList.map st.eval)
 | .call { callee := .builtin .max, args := xs, argTypes := ts } => cN P (Builtin.max_ ts o.type) (xs.toList.map st.eval)
 | .call { callee := .builtin .min, args := xs, argTypes := ts } => cN P (Builtin.min_ ts o.type) (xs.toList.map st.eval)
 | _ => none

theorem lj {P : Program} {f : Array Value → Sem Value} {E : Env} {w : World} {xs : List V} {v : V} {ys : Array Value} (hx : aQ E xs ys.toList) (h : cN P f xs = some v) : ∃ z, (f ys).run P w = .ok z w ∧ aX E v z := by
 unfold cN at h
 split at h
 ·rename_i l hl
  have := nr hx hl
  split at h
  ·rename_i z hz
   simp only [Option.some.injEq] at h; subst h
   subst this
   exact ⟨z, cI _ (by simpa using hz) w, fC E z⟩
  ·simp at h
 ·simp at h

theorem vL {P : Program} {tt : Table} (ht : TT P tt) {ts : Array TypeId} {ty t e : TypeId} (h0 : ts[0]? = some t) (he : dz tt t = some e) (w : World) (aa : Option Addr) (len cap : Nat) :
  (Builtin.len_ ts ty #[.slice aa len cap]).run P w = .ok (.int .i64 len) w := by
 unfold dz at he
 cases hT : tt t with
 | none => rw [hT] at he; simp at he
 | some iT =>
  rw [hT] at he; simp only at he
  obtain ⟨d, hd, -, lb, -⟩ := ht.desc t iT hT
  obtain rfl := lb e he
  simp [Builtin.len_, h0, au hd, goInt]

theorem Al {P : Program} {tt : Table} (ht : TT P tt) {E : Env} {w : World} {ts : Array TypeId} {ty : TypeId} {xs : List V} {v : V} {ys : Array Value} (hx : aQ E xs ys.toList) (h : ra P tt ts ty xs = some v) :
  ∃ z, (Builtin.len_ ts ty ys).run P w = .ok z w ∧ aX E v z := by
 unfold ra at h
 split at h
 ·split at h
  ·rename_i t h0
   split at h
   ·rename_i e he
    simp only [Option.some.injEq] at h; subst h
    obtain ⟨x, r, hy, h1, h2⟩ := hx.of_cons
    have := h2.of_nil; subst this
    obtain rfl : ys = #[x] := by rw [← Array.toArray_toList (xs := ys), hy]
    cases h1 with
    | slice _ _ aa cap nn ad xf ha hD hz hF kf hR => exact ⟨_, vL ht h0 he w aa _ cap, .sc _ _⟩
   ·simp at h
  ·simp at h
 ·split at h
  ·rename_i t h0
   split at h
   ·rename_i e he
    simp only [Option.some.injEq] at h; subst h
    obtain ⟨x, r, hy, h1, h2⟩ := hx.of_cons
    have := h2.of_nil; subst this
    obtain rfl : ys = #[x] := by rw [← Array.toArray_toList (xs := ys), hy]
    cases h1 with
    | df => exact ⟨_, vL ht h0 he w none _ 0, .sc _ _⟩
    | ms _ _ _ _ _ g e' c aa cap hb hl FL uD => exact ⟨_, vL ht h0 he w aa _ cap, .sc _ _⟩
   ·simp at h
  ·simp at h
 ·exact lj hx h

theorem bf {P : Program} {s : Sem Value} {w : World} {x : Value} (h : s.run P w = .ok x w) : (do pure (Next.value (← s)) : Sem Next).run P w = .ok (.value x) w := by
 simp [h]

theorem mc {P : Program} {tt : Table} (ht : TT P tt) {E : Env} {w : World} {a : Act} {st : St} (hs : bd E w a st) {o : Oper} {v : V} (h : fP P tt st o = some v) :
  ∃ x, (execOp a.eval o).run P w = .ok (.value x) w ∧ aX E v x := by
 obtain ⟨dst, op, type, pos, after, guard⟩ := o
 unfold fP at h
 dsimp only at h
 split at h
 ·simp only [Option.some.injEq] at h; subst h; exact ⟨_, rfl, hs.eval _⟩
 ·simp only [Option.some.injEq] at h; subst h; exact ⟨_, rfl, hs.eval _⟩
 ·rename_i c x y
  split at h
  ·rename_i t hc
   simp only [Option.some.injEq] at h; subst h
   have := hs.eval c
   rw [hc] at this
   refine ⟨if t = true then a.eval x else a.eval y, ?_, ?_⟩
   ·simp [execOp, b9 this, asBool]
   ·cases t <;> exact hs.eval _
  ·simp at h
 ·obtain ⟨y, h1, h2⟩ := qs ht hs (hs.eval _) h
  exact ⟨y, bf h1, h2⟩
 ·rename_i x
  have hx := hs.eval x
  generalize hy : a.eval x = y at hx
  have cO : ∀ z, (∀ m f c, z ≠ .func (.method m) f c) → z ≠ .pointer none → z ≠ .nilIface → z ≠ .nilFunc → a.eval x = z → (execOp a.eval { dst, op := .nilCheck x, type, pos, after, guard }).run P w = .ok (.value z) w := by
   intro z h1 h2 h3 h4 he
   simp only [execOp,he]
   rfl
  unfold Nl at h
  split at h <;> simp only [Option.some.injEq,reduceCtorEq] at h <;> subst h <;> rename_i hv <;> rw [hv] at hx
  ·cases hx with
   | ptr _ _ _ g e c hb => exact ⟨_, cO _ (by simp) (by simp) (by simp) (by simp) hy, .ptr _ _ _ g e c hb⟩
  ·cases hx with
   | de _ _ _ _ _ g e c hb => exact ⟨_, cO _ (by simp) (by simp) (by simp) (by simp) hy, .de _ _ _ _ _ g e c hb⟩
  ·cases hx with
   | cn _ _ ad xf hF hr => exact ⟨_, cO _ (by simp) (by simp) (by simp) (by simp) hy, .cn _ _ _ xf hF hr⟩
  ·cases hx with
   | fS _ f first cap xs ys h1 h2 h3 h4 => exact ⟨_, cO _ (by simp) (by simp) (by simp) (by simp) hy, .fS _ _ _ _ _ _ h1 h2 h3 h4⟩
  ·have := b9 hx
   subst this
   exact ⟨_, cO _ (by simp) (by simp) (by simp) (by simp) hy, .sc _ _⟩
 ·rename_i op T x y _
  split at h
  ·rename_i hg
   cases h
   obtain ⟨z, h1, h2⟩ := xF (P := P) (w := w) (T := T) x y (hs.eval x) (hs.eval y) hg
   exact ⟨z, bf h1, h2⟩
  ·split at h
   ·rename_i hg
    cases h
    obtain ⟨z, h1, h2⟩ := vK (P := P) (w := w) (T := T) x y (hs.eval x) (hs.eval y) hg
    exact ⟨z, bf h1, h2⟩
   ·obtain ⟨z, h1, h2⟩ := gF (w := w) (hs.eval x) (hs.eval y) h
    exact ⟨z, bf h1, h2⟩
 ·obtain ⟨z, h1, h2⟩ := lf (w := w) (hs.eval _) h
  exact ⟨z, bf h1, h2⟩
 ·obtain ⟨z, h1, h2⟩ := xH (w := w) hs (hs.eval _) h
  exact ⟨z, bf h1, h2⟩
 ·rename_i fn first cap
  simp only [Option.some.injEq] at h; subst h
  have h1 := hs.jE first
  have h2 := hs.jE cap
  exact ⟨_, bf rfl, .fS _ _ _ _ _ _ (by simp) (by simp) (fun i c x hc hx => h1.2 i c x hc (by simpa using hx)) fun i c x hc hx => h2.2 i c x hc (by simpa using hx)⟩
 ·obtain ⟨z, h1, h2⟩ := Aj ht hs (hs.eval _) h
  exact ⟨z, bf h1, h2⟩
 ·obtain ⟨z, h1, h2⟩ := vF ht (hs.eval _) h w
  exact ⟨z, bf h1, h2⟩
 ·obtain ⟨z, h1, h2⟩ := ue ht (hs.eval _) h w
  exact ⟨z, bf h1, h2⟩
 ·obtain ⟨z, h1, h2⟩ := xJ ht (hs.eval _) (hs.eval _) (hs.eval _) h w
  exact ⟨z, bf h1, h2⟩
 ·split at h
  ·rename_i hv
   cases h
   obtain ⟨z, h1, h2⟩ := vG ht hs (hs.eval _) (hs.eval _) hv
   exact ⟨z, bf h1, h2⟩
  ·obtain ⟨z, h1, h2⟩ := xI ht (hs.eval _) (hs.eval _) h w
   exact ⟨z, bf h1, h2⟩
 ·obtain ⟨z, h1, h2⟩ := gF (w := w) (hs.eval _) (hs.eval _) h
  exact ⟨z, bf h1, h2⟩
 ·rename_i t i
  split at h
  ·rename_i vs hv
   have := hs.eval t
   rw [hv] at this
   generalize hy : a.eval t = y at this
   cases this with
   | bT _ _ xs hl hr =>
    have hi : i < xs.size := by rw [← hl]; exact (List.getElem?_eq_some_iff.1 h).1
    exact ⟨xs[i], bf (by simp [hy, Instr.extract, Array.getElem?_eq_getElem hi]), hr i v _ h (Array.getElem?_eq_getElem hi)⟩
  ·simp at h
 ·obtain ⟨z, h1, h2⟩ := ud hs (hs.eval _) (hs.eval _) h
  exact ⟨z, bf h1, h2⟩
 ·obtain ⟨z, h1, h2⟩ := Ai hs (hs.eval _) h
  exact ⟨z, bf h1, h2⟩
 ·split at h
  ·rename_i hl
   cases h
   obtain ⟨z, h1, h2⟩ := Ah hs (hs.jE _) hl
   exact ⟨z, bf h1, h2⟩
  ·obtain ⟨z, h1, h2⟩ := Al ht (w := w) (hs.jE _) h
   exact ⟨z, bf h1, h2⟩
 ·obtain ⟨z, h1, h2⟩ := lj (w := w) (hs.jE _) h
  exact ⟨z, bf h1, h2⟩
 ·obtain ⟨z, h1, h2⟩ := lj (w := w) (hs.jE _) h
  exact ⟨z, bf h1, h2⟩
 ·simp at h
end Go.Eng
end

section
namespace Go.Eng
variable [aG]
open Go.RowKit (Below)

def bg (mem : List ay) (key : Nat) (B : ay) : List ay := if key < mem.length then mem.set key B else mem ++ [B]
def dP (mem : List ay) (key : Nat) : Prop := mem[key]? = some .hole ∨ key = mem.length
def Env.with (E : Env) (key aC : Nat) (t : Nat × Nat × Nat) : Env := { F := E.F, aK := fun k v => if k = key ∧ v = aC then some t else E.aK k v, gl := E.gl }

theorem kh {mem : List ay} {key : Nat} (h : key ≤ mem.length) (B : ay) (k : Nat) : (bg mem key B)[k]? = if k = key then some B else mem[k]? := by
 unfold bg
 split
 ·rename_i aB
  rw [List.getElem?_set]
  by_cases hk : key = k
  ·subst hk; simp [aB]
  ·rw [if_neg hk, if_neg (fun e => hk e.symm)]
 ·rename_i cB
  have cf : key = mem.length := by omega
  by_cases hk : k = key
  ·subst hk; rw [if_pos rfl, cf]; simp
  ·rw [if_neg hk, List.getElem?_append]
   split
   ·rfl
   ·rw [List.getElem?_eq_none (by simp; omega), List.getElem?_eq_none (by omega)]
theorem mY {mem : List ay} {key : Nat} (h : key ≤ mem.length) (B : ay) : mem.length ≤ (bg mem key B).length ∧ key < (bg mem key B).length := by
 unfold bg
 split <;> simp <;> omega
theorem dP.le {mem : List ay} {key : Nat} (h : dP mem key) : key ≤ mem.length := by
 rcases h with h | h
 ·exact Nat.le_of_lt (List.getElem?_eq_some_iff.1 h).1
 ·omega
theorem bd.free {E : Env} {w : World} {a : Act} {st : St} (hs : bd E w a st) {key : Nat} (h : dP st.mem key) : ∀ v, E.aK key v = none := by
 rcases h with h | h
 ·exact hs.mem _ _ h
 ·exact hs.top _ (by omega)
theorem Env.gz {E : Env} {key aC : Nat} (h : E.aK key aC = none) (t : Nat × Nat × Nat) : E.le (E.with key aC t) :=
 ⟨fun _ _ h => h, fun b v u hb => by
  show (if b = key ∧ v = aC then some t else E.aK b v) = some u
  rw [if_neg (fun e => by rw [e.1, e.2, h] at hb; cases hb)]; exact hb⟩

theorem iw.mono {E E' : Env} {w w' : World} {k : Nat} {B : ay} (h : iw E w k B) (hle : E.le E') (FP : ∀ v, E.aK k v = none → E'.aK k v = none)
  (om : ∀ g e c, E.aK k B.aC = some (g, e, c) → w'.heap[g]? = w.heap[g]?) (hF : ∀ g e c o, E.aK k B.aC = some (g, e, c) → E.F ⟨g, o, none⟩ = none → E'.F ⟨g, o, none⟩ = none) : iw E' w' k B := by
 have fm : ∀ {e rs} {f f' : Nat → Option Value}, (∀ o x, f o = some x → f' o = some x) → fE E.pure e rs f → fE E'.pure e rs f' := fun hf hr i row hi => by
  obtain ⟨h1, h2⟩ := hr i row hi
  exact ⟨h1, fun j c hj => let ⟨x, hx, h1, hr⟩ := h2 j c hj; ⟨x, hf _ _ hx, h1, hr.mono (Env.fA hle)⟩⟩
 cases B with
 | hole => exact fun v => FP v (h v)
 | dead => trivial
 | box cs =>
  obtain ⟨g, T, xs, hb, hh, hr, hf⟩ := h
  exact ⟨g, T, xs, hle.aK _ _ _ hb, (om _ _ _ hb).trans hh, hr.mono hle, fun o => hF _ _ _ o hb (hf o)⟩
 | rows v e rs =>
  rcases h with ⟨h1, h2⟩ | ⟨g, T, xs, c, hb, hh, ka, hl, hr, hf⟩
  ·exact .inl ⟨h1, FP _ h2⟩
  ·exact .inr ⟨g, T, xs, c, hle.aK _ _ _ hb, (om _ _ _ hb).trans hh, ka, hl, fm (fun _ _ h => h) hr, fun o => hF _ _ _ o hb (hf o)⟩
 | loop s jm fr params assign body =>
  obtain ⟨l, fn, tmps, db, hb, hh, hr, hf⟩ := h
  exact ⟨l, fn, tmps, db, hle.aK _ _ _ hb, (om _ _ _ hb).trans hh, hr.mono hle, fun o => hF _ _ _ o hb (hf o)⟩
 | map br clock =>
  obtain ⟨g, es, hb, hh, hr, hf⟩ := h
  exact ⟨g, es, hle.aK _ _ _ hb, (om _ _ _ hb).trans hh, hr.mono hle, fun o => hF _ _ _ o hb (hf o)⟩
 | eo m since seen last =>
  obtain ⟨g, gm, e, c, hb, hm, hh, hf⟩ := h
  exact ⟨g, gm, e, c, hle.aK _ _ _ hb, hle.aK _ _ _ hm, (om _ _ _ hb).trans hh, fun o => hF _ _ _ o hb (hf o)⟩
 | gX s pos =>
  obtain ⟨g, hb, hh, hf⟩ := h
  exact ⟨g, hle.aK _ _ _ hb, (om _ _ _ hb).trans hh, fun o => hF _ _ _ o hb (hf o)⟩
 | iv =>
  obtain ⟨g, hb, hh, hf⟩ := h
  exact ⟨g, hle.aK _ _ _ hb, (om _ _ _ hb).trans hh, fun o => hF _ _ _ o hb (hf o)⟩
 | mJ v e rs =>
  rcases h with ⟨h1, h2⟩ | ⟨g, c, hb, hl, hr⟩
  ·exact .inl ⟨h1, FP _ h2⟩
  ·exact .inr ⟨g, c, hle.aK _ _ _ hb, hl, fm (fun _ _ h => hle.F _ _ h) hr⟩

theorem bd.new {E : Env} {w : World} {a : Act} {st : St} (hs : bd E w a st) {key : Nat} (hk : dP st.mem key) {obj : Obj} {B : ay} {e c : Nat} (Fy : B.aC = 0)
  (hB : iw (E.with key 0 (w.heap.size, e, c)) (w.alloc obj) key B) :
  bd (E.with key 0 (w.heap.size, e, c)) (w.alloc obj) a { st with mem := bg st.mem key B } ∧ dt E w (E.with key 0 (w.heap.size, e, c)) (w.alloc obj) := by
 have Me := hs.free hk
 have hle := Env.gz (Me 0) (w.heap.size, e, c)
 have hblk : ∀ k v, ¬ (k = key ∧ v = 0) → (E.with key 0 (w.heap.size, e, c)).aK k v = E.aK k v := fun k v bO => if_neg bO
 have cf : (E.with key 0 (w.heap.size, e, c)).aK key 0 = some (w.heap.size, e, c) := if_pos ⟨rfl, rfl⟩
 have Jc : ∀ k v, k ≠ key → (E.with key 0 (w.heap.size, e, c)).aK k v = E.aK k v := fun k v bO => hblk k v fun h => bO h.1
 refine ⟨⟨fun ad x hx => ?_, fun k v g e' c' hb => ?_, fun k B' n5 => ?_, fun k eQ v => ?_, fun k B' n5 v hv => ?_, ?_, hs.fr.mono hle⟩, hle, fun k v g e' c' hb => ?_, fun ad x hx => .inl hx, rfl, rfl, rfl, by simp, fun b hb _ => Go.RowKit.Below.heap_alloc w _ b hb⟩
 ·rw [World.cell?_alloc_lt w _ ad (World.block_lt_of_cell? w ad (hs.F ad x hx))]; exact hs.F ad x hx
 ·by_cases bR : k = key ∧ v = 0
  ·obtain ⟨rfl, rfl⟩ := bR; rw [cf] at hb; cases hb; simp
  ·rw [hblk k v bR] at hb; have := hs.lt _ _ _ _ _ hb; simp; omega
 ·rw [kh hk.le] at n5
  split at n5
  ·rename_i bR; subst bR; cases n5; exact hB
  ·rename_i bR
   exact (hs.mem k B' n5).mono hle (fun v h => by rw [Jc k v bR]; exact h) (fun g e' c' hb => Go.RowKit.Below.heap_alloc w _ g (hs.lt _ _ _ _ _ hb)) fun _ _ _ o _ h => h
 ·have := mY hk.le B
  dsimp only at eQ
  rw [Jc k v (by omega)]; exact hs.top k (by omega) v
 ·dsimp only at n5
  rw [kh hk.le] at n5
  split at n5
  ·rename_i bR; subst bR; cases n5; rw [hblk k v (by omega)]; exact Me v
  ·rename_i bR; rw [Jc k v bR]; exact hs.aC k B' n5 v hv
 ·intro k k' v v' g e1 c1 e2 c2 h5 h6
  by_cases bR : k = key ∧ v = 0 <;> by_cases vM : k' = key ∧ v' = 0
  ·rw [bR.1, vM.1]
  ·obtain ⟨rfl, rfl⟩ := bR; rw [cf] at h5; cases h5; rw [hblk k' _ vM] at h6; have := hs.lt _ _ _ _ _ h6; omega
  ·obtain ⟨rfl, rfl⟩ := vM; rw [cf] at h6; cases h6; rw [hblk k _ bR] at h5; have := hs.lt _ _ _ _ _ h5; omega
  ·rw [hblk k _ bR] at h5; rw [hblk k' _ vM] at h6
   exact hs.apart _ _ _ _ _ _ _ _ _ h5 h6
 ·by_cases bR : k = key ∧ v = 0
  ·obtain ⟨rfl, rfl⟩ := bR; rw [cf] at hb; cases hb; exact .inr (Nat.le_refl _)
  ·rw [hblk k v bR] at hb; exact .inl ⟨_, _, _, _, hb⟩

theorem bd.FQ {E : Env} {w : World} {a : Act} {st : St} (hs : bd E w a st) {key : Nat} (hk : dP st.mem key) {xs : Array Value} {cs : List V} (hr : aQ E cs xs.toList) (T : TypeId) :
  ∃ E', bd E' (w.alloc (.cells xs T (0, 0))) a { st with mem := bg st.mem key (.box cs) } ∧ dt E w E' (w.alloc (.cells xs T (0, 0))) ∧ aX E' (.ptr key 0) (.pointer (some ⟨w.heap.size, 0, none⟩)) := by
 have hle := Env.gz (hs.free hk 0) (w.heap.size, 0, 0)
 have := hs.new (obj := .cells xs T (0, 0)) (B := .box cs) (e := 0) (c := 0) hk rfl ⟨w.heap.size, T, xs, if_pos ⟨rfl, rfl⟩, heap_alloc_new w _, hr.mono hle, fun o => ?_⟩
 ·exact ⟨_, this.1, this.2, .ptr _ _ _ _ 0 0 (if_pos ⟨rfl, rfl⟩)⟩
 ·show E.F _ = none
  cases hx : E.F ⟨w.heap.size, o, none⟩ with
  | none => rfl
  | some x => have := World.block_lt_of_cell? w _ (hs.F _ _ hx); simp at this

theorem bd.oo {E : Env} {w : World} {a : Act} {st : St} (hs : bd E w a st) {key : Nat} (hk : dP st.mem key) {xs : Array Value} {rs : List V} {e c : Nat} (T : TypeId) (ka : xs.size = c * e) (hl : rs.length ≤ c)
  (hr : fE E.pure e rs (fun o => xs[o]?)) :
  ∃ E', bd E' (w.alloc (.cells xs T (0, 0))) a { st with mem := bg st.mem key (.rows 0 e rs) } ∧ dt E w E' (w.alloc (.cells xs T (0, 0))) ∧ aX E' (.ms key 0 0 rs.length) (.slice (some ⟨w.heap.size, 0, none⟩) rs.length c) := by
 have hle := Env.gz (hs.free hk 0) (w.heap.size, e, c)
 have := hs.new (obj := .cells xs T (0, 0)) (B := .rows 0 e rs) (e := e) (c := c) hk rfl (.inr ⟨w.heap.size, T, xs, c, if_pos ⟨rfl, rfl⟩, heap_alloc_new w _, ka, hl, fun i row hi => ?_, fun o => ?_⟩)
 ·exact ⟨_, this.1, this.2, .ms _ _ _ _ _ w.heap.size e c _ _ (if_pos ⟨rfl, rfl⟩) (fun _ => by simp) (fun _ => ⟨rfl, rfl⟩) ⟨hl, Nat.zero_add _, fun _ => by simp⟩⟩
 ·obtain ⟨h1, h2⟩ := hr i row hi
  exact ⟨h1, fun j c' hj => let ⟨x, hx, h1, hr⟩ := h2 j c' hj; ⟨x, hx, h1, hr.mono (Env.fA hle)⟩⟩
 ·show E.F _ = none
  cases hx : E.F ⟨w.heap.size, o, none⟩ with
  | none => rfl
  | some x => have := World.block_lt_of_cell? w _ (hs.F _ _ hx); simp at this

theorem bd.Jx {E : Env} {w : World} {a : Act} {st : St} (hs : bd E w a st) {key : Nat} (hk : dP st.mem key) (e : Nat) : bd E w a { st with mem := bg st.mem key (.rows 0 e []) } := by
 have hn := hs.free hk
 refine ⟨hs.F, hs.lt, fun k B hB => ?_, fun k eQ => hs.top k ?_, fun k B hB v hv => ?_, hs.apart, hs.fr⟩
 ·rw [kh hk.le] at hB
  split at hB
  ·rename_i bR; subst bR; cases hB; exact .inl ⟨rfl, hn 0⟩
  ·exact hs.mem k B hB
 ·have := mY hk.le (.rows 0 e []); dsimp only at eQ; omega
 ·dsimp only at hB
  rw [kh hk.le] at hB
  split at hB
  ·rename_i bR; subst bR; exact hn v
  ·exact hs.aC k B hB v hv
end Go.Eng
end

section
namespace Go.Eng
variable [aG]
open Go.RowKit (Below)

def ep (xs : Array Value) (o : Nat) : List Value → Array Value
 | [] => xs
 | v :: r => ep (xs.setIfInBounds o v) (o + 1) r
def cb (cs : List V) (o : Nat) : List V → List V
 | [] => cs
 | v :: r => cb (cs.set o v) (o + 1) r

theorem fG (vs : List Value) : ∀ (xs : Array Value) (o : Nat), (ep xs o vs).size = xs.size := by
 induction vs with
 | nil => intro xs o; rfl
 | cons v r ih => intro xs o; simp [ep, ih]
theorem rX (vs : List V) : ∀ (cs : List V) (o : Nat), (cb cs o vs).length = cs.length := by
 induction vs with
 | nil => intro cs o; rfl
 | cons v r ih => intro cs o; simp [cb, ih]
theorem qu {E : Env} (vs : List V) : ∀ (ys : List Value) (cs : List V) (xs : Array Value) (o : Nat), aQ E vs ys → aQ E cs xs.toList → aQ E (cb cs o vs) (ep xs o ys).toList := by
 induction vs with
 | nil => intro ys cs xs o h k; have := h.of_nil; subst this; exact k
 | cons v r ih =>
  intro ys cs xs o h k
  obtain ⟨y, ys, rfl, h1, h2⟩ := h.of_cons
  exact ih ys _ _ _ h2 (by simpa using k.set o h1)
theorem eC (vs : List Value) : ∀ (xs : Array Value) (o k : Nat), o + vs.length ≤ xs.size → (ep xs o vs)[k]? = if o ≤ k ∧ k < o + vs.length then vs[k - o]? else xs[k]? := by
 induction vs with
 | nil => intro xs o k _; simp [ep]; intro h1 h2; omega
 | cons v r ih =>
  intro xs o k h
  simp only [List.length_cons] at h
  rw [ep, ih _ _ _ (by simp; omega)]
  by_cases h1 : o + 1 ≤ k ∧ k < o + 1 + r.length
  ·rw [if_pos h1, if_pos ⟨by omega, by simp; omega⟩]
   have : k - o = (k - (o + 1)) + 1 := by omega
   rw [this, List.getElem?_cons_succ]
  ·rw [if_neg h1]
   by_cases h2 : k = o
   ·subst h2
    rw [if_pos ⟨Nat.le_refl _, by simp⟩]
    simp only [Nat.sub_self,List.getElem?_cons_zero]
    rw [Array.getElem?_setIfInBounds_self_of_lt (by omega)]
   ·rw [if_neg (by simp only [List.length_cons]; omega), Array.getElem?_setIfInBounds_ne (fun e => h2 e.symm)]
theorem xK (vs : List V) : ∀ (cs : List V) (o k : Nat), o + vs.length ≤ cs.length → (cb cs o vs)[k]? = if o ≤ k ∧ k < o + vs.length then vs[k - o]? else cs[k]? := by
 induction vs with
 | nil => intro xs o k _; simp [cb]; intro h1 h2; omega
 | cons v r ih =>
  intro xs o k h
  simp only [List.length_cons] at h
  rw [cb, ih _ _ _ (by simp; omega)]
  by_cases h1 : o + 1 ≤ k ∧ k < o + 1 + r.length
  ·rw [if_pos h1, if_pos ⟨by omega, by simp; omega⟩]
   have : k - o = (k - (o + 1)) + 1 := by omega
   rw [this, List.getElem?_cons_succ]
  ·rw [if_neg h1]
   by_cases h2 : k = o
   ·subst h2
    rw [if_pos ⟨Nat.le_refl _, by simp⟩]
    simp only [Nat.sub_self,List.getElem?_cons_zero]
    rw [List.getElem?_set]; simp; omega
   ·rw [if_neg (by simp only [List.length_cons]; omega), List.getElem?_set_ne (fun e => h2 e.symm)]

structure oq (w w' : World) (g : Nat) : Prop where
 os : w'.os = w.os
 tape : w'.tape = w.tape
 output : w'.output = w.output
 size : w'.heap.size = w.heap.size
 heap : ∀ b, b ≠ g → w'.heap[b]? = w.heap[b]?

theorem ff {P : Program} {g : Nat} {T : TypeId} (o : Nat) : ∀ (vs : List Value) (i : Nat) (w : World) (xs : Array Value), w.heap[g]? = some (.cells xs T (0, 0)) → o + i + vs.length ≤ xs.size →
  (∀ v ∈ vs, v.oneCell' = true) → ∃ w', (storeCells ⟨g, o, none⟩ vs i).run P w = .ok () w' ∧ w'.heap[g]? = some (.cells (ep xs (o + i) vs) T (0, 0)) ∧ oq w w' g := by
 intro vs
 induction vs with
 | nil => intro i w xs hh _ _; exact ⟨w, rfl, hh, rfl, rfl, rfl, rfl, fun _ _ => rfl⟩
 | cons v r ih =>
  intro i w xs hh hl h1
  simp only [List.length_cons] at hl
  have hc : w.cell? ⟨g, o + i, none⟩ = some (xs[o + i]'(by omega)) := by rw [iW hh, Array.getElem?_eq_getElem]
  have hf : w.frozen? ⟨g, o + i, none⟩ = false := by simp [World.frozen?, hh]
  have Jd : (w.setCell ⟨g, o + i, none⟩ v).heap[g]? = some (.cells (xs.setIfInBounds (o + i) v) T (0, 0)) := by
   simp [World.setCell, Array.getElem?_modify, hh]
  obtain ⟨w', h2, h3, h4⟩ := ih (i + 1) _ _ Jd (by simp; omega) (fun v hv => h1 v (List.mem_cons_of_mem _ hv))
  refine ⟨w', ?_, by rw [ep]; exact h3, h4.os, h4.tape, h4.output, by rw [h4.size]; simp, fun b hb => (h4.heap b hb).trans (Go.RowKit.Below.heap_setCell w _ v b hb)⟩
  rw [storeCells]
  simp only [Sem.run_bind,add_lit]
  rw [run_store P w _ v .plain (h1 v (List.mem_cons_self ..))]
  simp [stored, hc, hf, h2]

def vN : V → Bool
 | .sc v => v.oneCell'
 | .undef => false
 | .agg _ => false
 | .bT _ => false
 | _ => true
def fH : V → Option (List V)
 | .agg cs => if cs.all vN then some cs else none
 | v => if vN v then some [v] else none

theorem xL {E : Env} {c : V} {x : Value} (h : aX E c x) (ho : vN c = true) : x.oneCell' = true := by
 cases h <;> first | rfl | exact ho | simp [vN] at ho
theorem ki {E : Env} {v : V} {x : Value} {cs : List V} (h : aX E v x) (hc : fH v = some cs) : aQ E cs x.cells.toList ∧ ∀ y ∈ x.cells.toList, y.oneCell' = true := by
 have key : ∀ (cs : List V) (xs : List Value), aQ E cs xs → cs.all vN = true → ∀ y ∈ xs, y.oneCell' = true := by
  intro cs
  induction cs with
  | nil => intro xs h _ y hy; rw [h.of_nil] at hy; simp at hy
  | cons c r ih =>
   intro xs h ha y hy
   obtain ⟨x, ys, rfl, h1, h2⟩ := h.of_cons
   simp only [List.all_cons,Bool.and_eq_true] at ha
   rcases List.mem_cons.1 hy with rfl | hy
   ·exact xL h1 ha.1
   ·exact ih ys h2 ha.2 y hy
 unfold fH at hc
 split at hc
 ·split at hc
  ·rename_i mZ aS
   simp only [Option.some.injEq] at hc; subst hc
   have := h.cells (by simp) (by simp)
   exact ⟨this, key _ _ this aS⟩
  ·simp at hc
 ·split at hc
  ·rename_i bO kf
   simp only [Option.some.injEq] at hc; subst hc
   have h1 : x.oneCell' = true := xL h kf
   have hx : x.cells = #[x] := by cases x <;> first | rfl | simp [Value.oneCell'] at h1
   rw [hx]
   exact ⟨.cons h (.nil _), fun y hy => by simp at hy; subst hy; exact h1⟩
  ·simp at hc

theorem bd.vO {E : Env} {w : World} {a : Act} {st : St} (hs : bd E w a st) {g : Nat} (hf : ∀ o, E.F ⟨g, o, none⟩ = none) {ad : Addr} {x : Value} (hx : E.F ad = some x) : ad.block ≠ g := by
 intro he
 have hc := hs.F ad x hx
 have tW : ad.spot = none := by
  unfold World.cell? at hc
  split at hc
  ·split at hc
   ·simp at hc
   ·rename_i h; cases tW : ad.spot with | none => rfl | some s => simp [tW] at h
  ·simp at hc
 have : ad = ⟨g, ad.off, none⟩ := by cases ad; simp_all
 rw [this, hf] at hx
 cases hx

theorem bd.xM {E : Env} {w w' : World} {a : Act} {st : St} (hs : bd E w a st) {b g e c : Nat} {B B' : ay} (hm : st.mem[b]? = some B) (hh : B.held = true) (Rh : B'.aC = B.aC) (hb : E.aK b B.aC = some (g, e, c)) (hf : ∀ o, E.F ⟨g, o, none⟩ = none)
  (ho : oq w w' g) (hB : iw E w' b B') : bd E w' a { st with mem := st.mem.set b B' } ∧ dt E w E w' := by
 have aB : b < st.mem.length := (List.getElem?_eq_some_iff.1 hm).1
 refine ⟨⟨fun ad x hx => ?_, fun k v g' e' c' hk => by rw [ho.size]; exact hs.lt _ _ _ _ _ hk, fun k B1 hk => ?_, fun k hk => hs.top k (by simpa using hk), fun k B1 hk v hv => ?_, hs.apart, hs.fr⟩,
  E.le_refl, fun k v g e c h => .inl ⟨k, v, e, c, h⟩, fun _ _ h => .inl h, ho.os, ho.tape, ho.output, by rw [ho.size]; exact Nat.le_refl _, fun b' eP bO => ho.heap b' fun e => by subst e; exact bO _ _ _ _ hb⟩
 ·have bO := hs.vO hf hx
  have : w'.heap[ad.block]? = w.heap[ad.block]? := ho.heap _ bO
  rw [← hs.F ad x hx]; simp [World.cell?, this]
 ·rw [List.getElem?_set] at hk
  by_cases dG : b = k
  ·subst dG; simp only [if_true,aB] at hk; cases hk; exact hB
  ·rw [if_neg dG] at hk
   cases Je : B1.held with
   | false => cases B1 <;> first | exact hs.mem k _ hk | trivial | simp [ay.held] at Je
   | true =>
    refine (hs.mem k B1 hk).mono E.le_refl (fun _ h => h) (fun g' e' c' dX => ho.heap _ fun e => ?_) fun _ _ _ _ _ h => h
    subst e
    exact dG (hs.apart _ _ _ _ _ _ _ _ _ hb dX)
 ·dsimp only at hk
  rw [List.getElem?_set] at hk
  by_cases FR : b = k
  ·subst FR; simp only [if_true,aB] at hk; cases hk; exact hs.aC b B hm v (by omega)
  ·rw [if_neg FR] at hk; exact hs.aC k B1 hk v hv

def jG : V → Bool
 | .gn => true
 | .sc _ => true
 | .slice _ => true
 | .cn _ => true
 | .undef => true
 | _ => false
theorem vP {E : Env} {v : V} {x : Value} (h : aX E v x) (hp : jG v = true) : aX E.pure v x := by
 cases h with
 | undef => exact .undef _ _
 | gn => exact .gn _
 | sc => exact .sc _ _
 | slice _ rows a cap nn ad xf ha hD hz hF h1 hR => exact .slice _ _ _ _ nn ad xf ha hD hz hF h1 hR
 | cn _ cs ad xf hF hR => exact .cn _ _ _ xf hF hR
 | _ => simp [jG] at hp

def setRow (row : V) (o : Nat) (new : List V) : V :=
 match row with
 | .agg cs => .agg (cb cs o new)
 | r => match o, new with
  | 0, [c] => c
  | _, _ => r

theorem vQ {row : V} {o : Nat} {new : List V} (ho : o + new.length ≤ row.cells.length) (kf : new.all vN = true) (bO : new ≠ []) : (setRow row o new).cells = cb row.cells o new := by
 cases row with
 | agg cs => rfl
 | _ =>
  simp only [V.cells,List.length_cons,List.length_nil] at ho ⊢
  match new, bO with
  | [c], _ =>
   obtain rfl : o = 0 := by simp at ho; omega
   simp only [List.all_cons,List.all_nil,Bool.and_true] at kf
   cases c <;> first | rfl | simp [vN] at kf
  | _ :: _ :: _, _ => simp at ho; omega

def gR (tt : Table) (mem : List ay) (T : TypeId) (p v : V) : Option (List ay) :=
 match fH v with
 | none => none
 | some new =>
  if iU tt T = some new.length then
   match p with
   | .ptr b o => match mem[b]? with
    | some (.box cs) => if o + new.length ≤ cs.length then some (mem.set b (.box (cb cs o new))) else none
    | _ => none
   | .de b v i o => match mem[b]? with
    | some (.rows v' e rs) => match rs[i]? with
     | some row => if v' = v ∧ o + new.length ≤ row.cells.length ∧ new ≠ [] ∧ new.all jG = true ∧ new.all vN = true then some (mem.set b (.rows v' e (rs.set i (setRow row o new)))) else none
     | none => none
    | _ => none
   | _ => none
  else none
instance (new : List V) : Decidable (new ≠ []) := match new with | [] => .isFalse (by simp) | _ :: _ => .isTrue (by simp)

theorem aQ.pure {E : Env} : ∀ {vs : List V} {xs : List Value}, aQ E vs xs → vs.all jG = true → aQ E.pure vs xs
 | [], xs, h, _ => by rw [h.of_nil]; exact .nil _
 | v :: vs, xs, h, hp => by
  obtain ⟨x, ys, rfl, h1, h2⟩ := h.of_cons
  simp only [List.all_cons,Bool.and_eq_true] at hp
  exact .cons (vP h1 hp.1) (aQ.pure h2 hp.2)

theorem ot {P : Program} {tt : Table} (ht : TT P tt) {E : Env} {w : World} {a : Act} {st : St} (hs : bd E w a st) {T : TypeId} {p v : V} {x y : Value} {aF : List ay} (hp : aX E p x) (hv : aX E v y)
  (h : gR tt st.mem T p v = some aF) : ∃ w', (Instr.storeAt T x y).run P w = .ok () w' ∧ bd E w' a { st with mem := aF } ∧ dt E w E w' := by
 unfold gR at h
 split at h
 ·simp at h
 ·rename_i new iz
  obtain ⟨hr, kf⟩ := ki hv iz
  split at h
  ·rename_i ka
   have hlen : y.cells.size = new.length := by have := hr.1; simp at this; exact this.symm
   have cO : ∀ {g o : Nat} {xs : Array Value} {T' : TypeId}, w.heap[g]? = some (.cells xs T' (0, 0)) → o + new.length ≤ xs.size →
     ∃ w', (Instr.storeAt T (.pointer (some ⟨g, o, none⟩)) y).run P w = .ok () w' ∧ w'.heap[g]? = some (.cells (ep xs o y.cells.toList) T' (0, 0)) ∧ oq w w' g := fun {g o xs T'} hh hle => by
    obtain ⟨w', h1, h2, h3⟩ := ff (P := P) o y.cells.toList 0 w xs hh (by have := hr.1; simp at this ⊢; omega) kf
    refine ⟨w', ?_, by simpa using h2, h3⟩
    unfold iU at ka
    split at ka
    ·rename_i i hi
     simp only [Option.some.injEq] at ka
     simp only [Instr.storeAt,Instr.sureAddr,Sem.run_bind,Sem.run_pure,Result.andThen_ok,storeVar,ht.sizeOf hi,hlen,ka,ne_eq,not_true_eq_false,if_false]
     exact h1
    ·simp at ka
   split at h
   ·rename_i b o
    split at h
    ·rename_i cs hm
     split at h
     ·rename_i hle
      simp only [Option.some.injEq] at h; subst h
      cases hp with
      | ptr _ _ _ g e c hb =>
       obtain ⟨g', T', xs, eP, hh, uE, hf⟩ := hs.mem b _ hm
       rw [hb] at eP; cases eP
       obtain ⟨w', h1, h2, h3⟩ := cO (o := o) hh (by have := uE.1; simp at this; omega)
       exact ⟨w', h1, hs.xM hm rfl rfl hb hf h3 ⟨g, T', _, hb, h2, qu _ _ _ _ _ hr uE, hf⟩⟩
     ·simp at h
    ·simp at h
   ·rename_i b vv i o
    split at h
    ·rename_i v' e rs hm
     split at h
     ·rename_i row cd
      split at h
      ·rename_i ou
       obtain ⟨rfl, hle, bO, uF, Ri⟩ := ou
       simp only [Option.some.injEq] at h; subst h
       cases hp with
       | de _ _ _ _ _ g e' c hb =>
        rcases hs.mem b _ hm with ⟨rfl, -⟩ | ⟨g', T', xs, c', eP, hh, nt, jD, uE, hf⟩
        ·simp at cd
        rw [hb] at eP; cases eP
        obtain ⟨jq, Yx⟩ := uE i row cd
        have hi : i < rs.length := (List.getElem?_eq_some_iff.1 cd).1
        have hmul : i * e + e ≤ xs.size := by
         rw [nt, ← Nat.succ_mul]; exact Nat.mul_le_mul_right e (by omega)
        obtain ⟨w', h1, h2, h3⟩ := cO (o := i * e + o) hh (by omega)
        refine ⟨w', h1, hs.xM hm rfl rfl hb hf h3 (.inr ⟨g, T', _, c, hb, h2, by rw [fG]; exact nt, by simpa using jD, ?_, hf⟩)⟩
        have Nq : y.cells.toList.length = new.length := hr.1.symm
        intro i' UY xN
        rw [List.getElem?_set] at xN
        by_cases n9 : i = i'
        ·subst n9
         simp only [if_true,hi] at xN
         cases xN
         have hc := vQ hle Ri bO
         refine ⟨by rw [hc, rX]; exact jq, fun j cc hj => ?_⟩
         rw [hc, xK _ _ _ _ hle] at hj
         dsimp only
         rw [eC _ _ _ _ (by rw [Nq]; omega), Nq]
         by_cases fF : o ≤ j ∧ j < o + new.length
         ·rw [if_pos fF] at hj
          rw [if_pos ⟨by omega, by omega⟩]
          obtain ⟨z, hz, UZ⟩ := (hr.pure uF).get hj
          exact ⟨z, by rw [← hz]; congr 1; omega, kf z (List.mem_of_getElem? hz), UZ⟩
         ·rw [if_neg fF] at hj
          rw [if_neg (by omega)]
          exact Yx j cc hj
        ·rw [if_neg n9] at xN
         obtain ⟨h5, h6⟩ := uE i' UY xN
         refine ⟨h5, fun j cc hj => ?_⟩
         obtain ⟨z, hz, FT, UZ⟩ := h6 j cc hj
         have qq : j < e := by rw [← h5]; exact (List.getElem?_eq_some_iff.1 hj).1
         refine ⟨z, ?_, FT, UZ⟩
         dsimp only
         rw [eC _ _ _ _ (by rw [Nq]; omega), Nq, if_neg ?_]
         ·exact hz
         ·intro fF
          rcases Nat.lt_or_gt_of_ne n9 with aB | Yy
          ·have : (i + 1) * e ≤ i' * e := Nat.mul_le_mul_right e aB
           rw [Nat.succ_mul] at this
           omega
          ·have : (i' + 1) * e ≤ i * e := Nat.mul_le_mul_right e Yy
           rw [Nat.succ_mul] at this
           omega
      ·simp at h
     ·simp at h
    ·simp at h
   ·simp at h
  ·simp at h
end Go.Eng
end

section
namespace Go.Eng
variable [aG]
open Go.RowKit (Below)

def qv (E : Env) (e : Nat) (rs : List V) (ys : Array Value) : Prop := ys.size = rs.length * e ∧ fE E e rs (fun o => ys[o]?)

theorem rY {i n j e : Nat} (hi : i < n) (hj : j < e) : i * e + j < n * e := by
 have : (i + 1) * e ≤ n * e := Nat.mul_le_mul_right e hi
 rw [Nat.succ_mul] at this; omega

theorem uG {P : Program} {E : Env} {w : World} {ad : Addr} {rows : List V} {size : Nat} (hz : ∀ (i : Nat) (row : V), rows[i]? = some row → row.cells.length = size)
  (h : ∀ (i : Nat) (row : V) (j : Nat) (c : V), rows[i]? = some row → row.cells[j]? = some c → ∃ x, w.cell? (ad.add (i * size + j)) = some x ∧ x.oneCell' = true ∧ aX E c x) :
  ∃ ys : Array Value, (loadCells ad (rows.length * size)).run P w = .ok ys w ∧ qv E size rows ys := by
 let f : Nat → Value := fun k => (w.cell? (ad.add k)).getD default
 have hf : ∀ k, k < rows.length * size → w.cell? (ad.add k) = some (f k) := fun k hk => by
  have hs : 0 < size := Nat.pos_of_ne_zero fun e => by subst e; simp at hk
  have hi : k / size < rows.length := by rwa [Nat.div_lt_iff_lt_mul hs]
  have hj : k % size < size := Nat.mod_lt _ hs
  have cd := List.getElem?_eq_getElem hi
  have jD := hz _ _ cd
  obtain ⟨x, hx, -⟩ := h _ _ (k % size) _ cd (List.getElem?_eq_getElem (by rw [jD]; exact hj))
  rw [Nat.mul_comm, Nat.div_add_mod] at hx
  simp [f, hx]
 refine ⟨((List.range (rows.length * size)).map f).toArray, run_loadCells w ad _ f hf, by simp, fun i row hi => ⟨hz i row hi, fun j c hj => ?_⟩⟩
 obtain ⟨x, hx, h1, hr⟩ := h i row j c hi hj
 have rZ : i < rows.length := (List.getElem?_eq_some_iff.1 hi).1
 have qq : j < size := by rw [← hz i row hi]; exact (List.getElem?_eq_some_iff.1 hj).1
 refine ⟨x, ?_, h1, hr⟩
 have := rY rZ qq
 simp [this, f, hx]

def rowsOf (mem : List ay) (size : Nat) : V → Option (List V)
 | .slice rows => if ca rows 0 size = true then some rows else none
 | .ms b v s l => match mem[b]? with
  | some (.rows v' e rs) => if v' = v ∧ e = size ∧ s + l ≤ rs.length then some ((rs.drop s).take l) else none
  | some (.mJ v' e rs) => if v' = v ∧ e = size ∧ s + l ≤ rs.length then some ((rs.drop s).take l) else none
  | _ => none
 | .sc (.slice none 0 0) => some []
 | _ => none

theorem rz {rs : List V} {s l i : Nat} {row : V} (h : ((rs.drop s).take l)[i]? = some row) : rs[s + i]? = some row := by
 rw [List.getElem?_take] at h
 split at h
 ·simpa using h
 ·simp at h

theorem dQ {P : Program} {E : Env} {w : World} {a : Act} {st : St} (hs : bd E w a st) {size : Nat} {v : V} {x : Value} {rows : List V} (hr : aX E v x) (h : rowsOf st.mem size v = some rows) :
  ∃ aa cap, x = .slice aa rows.length cap ∧ rows.length ≤ cap ∧ ∃ ys : Array Value, (Builtin.firstCells size rows.length x).run P w = .ok ys w ∧ qv E.pure size rows ys := by
 have vR : ∀ n, n = 0 → ∃ ys : Array Value, (Builtin.firstCells size n (.slice none n 0)).run P w = .ok ys w ∧ qv E.pure size [] ys := fun n hn => by
  subst hn
  exact ⟨#[], rfl, by simp, fun i row hi => by simp at hi⟩
 unfold rowsOf at h
 split at h
 ·rename_i iA
  split at h
  ·rename_i pn
   simp only [Option.some.injEq] at h; subst h
   cases hr with
   | slice _ _ aa cap nn ad xf ha hD hz hF kf hR =>
    refine ⟨aa, cap, rfl, hD, ?_⟩
    cases fm : iA with
    | nil =>
     subst fm
     cases aa with
     | none => exact vR 0 rfl
     | some a0 => exact ⟨#[], by simp [Builtin.firstCells, loadCells, loadCellsFrom], by simp, fun i row hi => by simp at hi⟩
    | cons r0 rr =>
     have bO : iA ≠ [] := by simp [fm]
     have he : nn = size := by
      unfold ca at pn
      have h0 : iA[0]? = some r0 := by simp [fm]
      rw [h0] at pn
      simp only [beq_iff_eq] at pn
      rw [← pn, hz 0 _ h0]
     subst he
     obtain rfl := ha bO
     rw [← fm]
     exact uG (P := P) hz fun i row j c hi hj => ⟨_, hs.F _ _ (hF i row j c hi hj), kf i row j c hi hj, hR i row j c hi hj⟩
  ·simp at h
 ·rename_i b v s l
  have zZ : ∀ (rs : List V), s + l ≤ rs.length → rows = (rs.drop s).take l → (∀ g e c, E.aK b v = some (g, e, c) → e = size ∧ fE E.pure size rs (fun o => w.cell? ⟨g, o, none⟩)) →
    ∃ aa cap, x = .slice aa rows.length cap ∧ rows.length ≤ cap ∧ ∃ ys : Array Value, (Builtin.firstCells size rows.length x).run P w = .ok ys w ∧ qv E.pure size rows ys := by
   intro rs hl fm hb
   have hlen : rows.length = l := by rw [fm]; simp; omega
   cases hr with
   | df =>
    have : rows = [] := List.length_eq_zero_iff.1 hlen
    subst this
    exact ⟨none, 0, rfl, Nat.le_refl _, vR 0 rfl⟩
   | ms _ _ _ _ _ g e c aa cap dX Mc FL uD =>
    obtain ⟨rfl, Rj⟩ := hb g e c dX
    rw [← hlen]
    refine ⟨aa, cap, rfl, by omega, ?_⟩
    by_cases Rf : 0 < l
    ·obtain rfl := Mc Rf
     refine uG (P := P) (fun i row hi => ?_) fun i row j c hi hj => ?_
     ·rw [fm] at hi; exact (Rj _ _ (rz hi)).1
     ·rw [fm] at hi
      obtain ⟨x, hx, h1, h2⟩ := (Rj _ _ (rz hi)).2 j c hj
      exact ⟨x, by rw [add_lit, ← hx]; congr 2; rw [Nat.add_mul]; omega, h1, h2⟩
    ·have : rows = [] := List.length_eq_zero_iff.1 (by omega)
     subst this
     cases aa with
     | none => exact ⟨#[], rfl, by simp, fun i row hi => by simp at hi⟩
     | some a0 => exact ⟨#[], by simp [Builtin.firstCells, loadCells, loadCellsFrom], by simp, fun i row hi => by simp at hi⟩
  split at h
  ·rename_i v' e rs hm
   split at h
   ·rename_i hc
    obtain ⟨rfl, hc⟩ := hc
    simp only [Option.some.injEq] at h
    refine zZ rs hc.2 h.symm fun g e' c hb => ?_
    rcases hs.mem b _ hm with ⟨-, hn⟩ | ⟨g', T', xs, c', eP, hh, -, -, uE, -⟩
    ·rw [hb] at hn; cases hn
    ·rw [hb] at eP; cases eP
     refine ⟨hc.1, ?_⟩
     rw [hc.1] at uE
     intro i row hi
     obtain ⟨h1, h2⟩ := uE i row hi
     exact ⟨h1, fun j c hj => by dsimp only; rw [iW hh]; exact h2 j c hj⟩
   ·simp at h
  ·rename_i v' e rs hm
   split at h
   ·rename_i hc
    obtain ⟨rfl, hc⟩ := hc
    simp only [Option.some.injEq] at h
    refine zZ rs hc.2 h.symm fun g e' c hb => ?_
    rcases hs.mem b _ hm with ⟨-, hn⟩ | ⟨g', c', eP, -, uE⟩
    ·rw [hb] at hn; cases hn
    rw [hb] at eP; cases eP
    refine ⟨hc.1, ?_⟩
    rw [hc.1] at uE
    intro i row hi
    obtain ⟨h1, h2⟩ := uE i row hi
    exact ⟨h1, fun j c hj => let ⟨x, hx, h⟩ := h2 j c hj; ⟨x, hs.F _ _ hx, h⟩⟩
   ·simp at h
  ·simp at h
 ·simp only [Option.some.injEq] at h; subst h
  obtain rfl := b9 hr
  exact ⟨none, 0, rfl, Nat.le_refl _, vR 0 rfl⟩
 ·simp at h

def kj : V → V
 | .sc (.slice none 0 0) => .slice []
 | v => v
theorem ov {E : Env} {v : V} {x : Value} (h : aX E v x) : aX E (kj v) x := by
 unfold kj
 split
 ·obtain rfl := b9 h
  exact .slice _ [] none 0 0 default (fun _ _ => default) (by simp) (by simp) (by simp) (by simp) (by simp) (by simp)
 ·exact h
def Jy : V → V
 | .agg cs => .agg (cs.map kj)
 | v => kj v
theorem Am {v : V} {cs : List V} (h : fH v = some cs) : (Jy v).cells = cs.map kj := by
 unfold fH at h
 split at h
 ·split at h
  ·simp only [Option.some.injEq] at h; subst h; rfl
  ·simp at h
 ·rename_i bO
  split at h
  ·simp only [Option.some.injEq] at h; subst h
   cases v <;> first | exact absurd rfl (bO _) | rfl | skip
   rename_i v
   simp only [Jy,kj,List.map_cons,List.map_nil]
   split <;> rfl
  ·simp at h
theorem aQ.kj {E : Env} : ∀ {vs : List V} {xs : List Value}, aQ E vs xs → aQ E (vs.map kj) xs
 | [], xs, h => h
 | v :: vs, xs, h => by
  obtain ⟨x, ys, rfl, h1, h2⟩ := h.of_cons
  exact .cons (ov h1) (aQ.kj h2)

def me (size : Nat) : List V → Option (List V)
 | [] => some []
 | v :: r => match fH v with
  | some cs => if cs.length = size ∧ cs.all jG = true then (match me size r with | some rs => some (Jy v :: rs) | none => none) else none
  | none => none

def ll : Nat → List (Nat × Operand) → Bool
 | _, [] => true
 | k, (i, _) :: r => i == k && ll (k + 1) r

theorem qw (off : Nat) : ∀ (l : List Value) (n : Nat) (cs : Array Value), (l.zipIdx n).foldl (fun cs (x : Value × Nat) => cs.setIfInBounds (off + x.2) x.1) cs = ep cs (off + n) l := by
 intro l
 induction l with
 | nil => intro n cs; rfl
 | cons v r ih => intro n cs; rw [List.zipIdx_cons, List.foldl_cons, ih, ep, Nat.add_assoc]

theorem FU {E : Env} {size : Nat} : ∀ (parts : List (Nat × Operand)) (k : Nat) (ev : Operand → V) (av : Operand → Value) (Z : Array Value) (rs : List V), (∀ p ∈ parts, aX E (ev p.2) (av p.2)) → ll k parts = true →
  me size (parts.map fun p => ev p.2) = some rs → (k + parts.length) * size ≤ Z.size →
  ∃ Z', Instr.fill (fun i => some (i * size, size)) Z (parts.map fun p => (p.1, av p.2)) = some Z' ∧ Z'.size = Z.size ∧ rs.length = parts.length ∧ (∀ o, o < k * size → Z'[o]? = Z[o]?) ∧
   fE E.pure size rs (fun o => Z'[k * size + o]?) := by
 intro parts
 induction parts with
 | nil =>
  intro k ev av Z rs _ _ hl _
  simp only [List.map_nil,me,Option.some.injEq] at hl; subst hl
  exact ⟨Z, rfl, rfl, rfl, fun _ _ => rfl, fun i row hi => by simp at hi⟩
 | cons p r ih =>
  intro k ev av Z rs ow rb hl ka
  obtain ⟨i, o⟩ := p
  simp only [ll,Bool.and_eq_true,beq_iff_eq] at rb
  obtain ⟨rfl, rb⟩ := rb
  simp only [List.map_cons,me] at hl
  split at hl
  ·rename_i cs tV
   split at hl
   ·rename_i hc
    split at hl
    ·rename_i rs' Nr
     simp only [Option.some.injEq] at hl; subst hl
     obtain ⟨hr, kf⟩ := ki (ow (i, o) (List.mem_cons_self ..)) tV
     have uH : (av o).cells.size = size := by have := hr.1; simp at this; omega
     simp only [List.length_cons] at ka
     have hmul : i * size + size ≤ Z.size := by
      have : (i + 1) * size ≤ (i + (r.length + 1)) * size := Nat.mul_le_mul_right _ (by omega)
      rw [Nat.succ_mul] at this; omega
     obtain ⟨Z', h1, h2, h3, h4, h5⟩ := ih (i + 1) ev av (ep Z (i * size) (av o).cells.toList) rs' (fun p hp => ow p (List.mem_cons_of_mem _ hp)) rb Nr (by rw [fG]; rw [show i + 1 + r.length = i + (r.length + 1) from by omega]; exact ka)
     have hlen : (av o).cells.toList.length = size := by simpa using uH
     have tW : ∀ q, (ep Z (i * size) (av o).cells.toList)[q]? = if i * size ≤ q ∧ q < i * size + size then (av o).cells.toList[q - i * size]? else Z[q]? := fun q => by
      rw [eC _ _ _ _ (by rw [hlen]; exact hmul), hlen]
     refine ⟨Z', ?_, by rw [h2, fG], by simp [h3], fun q hq => ?_, fun q row hq => ?_⟩
     ·simp only [List.map_cons,Instr.fill,uH]
      rw [if_neg (by simp; omega)]
      rw [← h1]
      congr 1
      rw [← Array.foldl_toList, Array.toList_zipIdx]
      exact qw (i * size) (av o).cells.toList 0 Z
     ·rw [h4 q (by rw [Nat.succ_mul]; omega), tW, if_neg (by omega)]
     ·cases q with
      | zero =>
       simp only [List.getElem?_cons_zero,Option.some.injEq] at hq; subst hq
       rw [Am tV]
       refine ⟨by simpa using hc.1, fun j c hj => ?_⟩
       have qq : j < size := by rw [← hc.1]; simpa using (List.getElem?_eq_some_iff.1 hj).1
       obtain ⟨x, hx, Fx⟩ := (hr.pure hc.2).kj.get hj
       refine ⟨x, ?_, kf x (List.mem_of_getElem? hx), Fx⟩
       dsimp only
       rw [Nat.zero_mul, Nat.zero_add, h4 _ (by rw [Nat.succ_mul]; omega), tW, if_pos ⟨by omega, by omega⟩, ← hx]
       congr 1; omega
      | succ q =>
       simp only [List.getElem?_cons_succ] at hq
       obtain ⟨h6, h7⟩ := h5 q row hq
       refine ⟨h6, fun j c hj => ?_⟩
       obtain ⟨x, hx, r5, Fx⟩ := h7 j c hj
       refine ⟨x, ?_, r5, Fx⟩
       dsimp only at hx ⊢
       rw [← hx]
       congr 1
       rw [Nat.succ_mul, Nat.succ_mul]; omega
    ·simp at hl
   ·simp at hl
  ·simp at hl

def po (tt : Table) (T : TypeId) (len : Nat) (parts : List (Nat × Operand)) (ev : Operand → V) : Option (Nat × List V) :=
 match dz tt T with
 | some e => match iU tt e with
  | some size => if ll 0 parts = true ∧ parts.length = len ∧ len * size ≤ 65536 then (match me size (parts.map fun p => ev p.2) with | some rs => some (size, rs) | none => none) else none
  | none => none
 | none => none

theorem vS {P : Program} {tt : Table} (ht : TT P tt) {E : Env} {w : World} {a : Act} {ev : Operand → V} {T : TypeId} {len size : Nat} {parts : Array (Nat × Operand)} {rs : List V} (du : ∀ p ∈ parts.toList, aX E (ev p.2) (a.eval p.2))
  (h : po tt T len parts.toList ev = some (size, rs)) :
  ∃ (Z : Array Value) (e : TypeId), (Instr.buildSlice T len (parts.map fun (i, x) => (i, a.eval x))).run P w = .ok (.slice (some ⟨w.heap.size, 0, none⟩) len len) (w.alloc (.cells Z e (0, 0))) ∧ Z.size = len * size ∧ rs.length = len ∧ fE E.pure size rs (fun o => Z[o]?) := by
 unfold po dz iU at h
 cases hT : tt T with
 | none => rw [hT] at h; simp at h
 | some iT =>
  rw [hT] at h; simp only at h
  cases he : iT.elem with
  | none => rw [he] at h; simp at h
  | some e =>
   rw [he] at h; simp only at h
   cases hE : tt e with
   | none => rw [hE] at h; simp at h
   | some ie =>
    rw [hE] at h; simp only at h
    split at h
    ·rename_i hc
     obtain ⟨rb, hlen, Rk⟩ := hc
     split at h
     ·rename_i rs' FV
      simp only [Option.some.injEq,Prod.mk.injEq] at h
      obtain ⟨rfl, rfl⟩ := h
      obtain ⟨d, hd, -, lb, -⟩ := ht.desc T iT hT
      obtain rfl := lb e he
      obtain ⟨info, oa, Mf, -, z, hz, DU⟩ := ht.size e ie hE
      have hzero : ∀ w' : World, (zeroValue e).run P w' = .ok z w' := fun w' => by simp [zeroValue, cL oa, hz]
      obtain ⟨zc, T9⟩ : ∃ zc : Array Value, zc = if len * ie.size = 0 then #[] else z.cells := ⟨_, rfl⟩
      obtain ⟨Z', h1, h2, h3, -, h5⟩ := FU (size := ie.size) parts.toList 0 ev a.eval ((Array.range (len * ie.size)).map (zc[· % zc.size]!)) rs' du rb FV (by simp [hlen])
      refine ⟨Z', e, ?_, by simpa using h2, by omega, by simpa using h5⟩
      have nu : (parts.map fun (i, x) => (i, a.eval x)).toList = parts.toList.map fun p => (p.1, a.eval p.2) := by simp
      unfold Instr.buildSlice
      simp only [Sem.run_bind,au hd,Result.andThen_ok,ht.sizeOf hE]
      rw [if_neg (by omega)]
      by_cases h0 : len * ie.size = 0
      ·simp only [h0,if_true,Sem.run_pure,Result.andThen_ok,nu]
       rw [if_pos h0] at T9
       subst T9
       rw [h0] at h1
       simp only [Sem.run_bind,Sem.run_pure,Result.andThen_ok,nu]
       simp only [h1]
       simp [newRow]
      ·simp only [h0,if_false,Sem.run_bind,hzero,Sem.run_pure,Result.andThen_ok,nu]
       rw [if_neg h0] at T9
       subst T9
       simp only [h1]
       simp [newRow]
     ·simp at h
    ·simp at h
end Go.Eng
end

section
namespace Go.Eng
variable [aG]
open Go.RowKit (Below)

section
variable {P : Program} {w : World}
theorem r6 {t u ty e e' : TypeId} {i : TypeInfo} (ht : P.underlying t = some (.slice e)) (hu : P.underlying u = some (.slice e')) (hi : P.info? e = some i) (g k6 dY n c : Nat) (aa : Option Addr) (news : Array Value)
  (hf : (Builtin.firstCells i.size n (.slice aa n c)).run P w = .ok news w) (ox : k6 + n ≤ dY) {w' : World} (gG : (storeCells ⟨g, k6 * i.size, none⟩ news.toList).run P w = .ok () w') :
  (Builtin.append_ #[t, u] ty #[.slice (some ⟨g, 0, none⟩) k6 dY, .slice aa n c]).run P w = .ok (.slice (some ⟨g, 0, none⟩) (k6 + n) dY) w' := by
 simp [Builtin.append_, au ht, au hu, dg hi, Builtin.lenOf, ox, hf, add_lit, gG]

theorem er {t u ty e e' : TypeId} {i : TypeInfo} (ht : P.underlying t = some (.slice e)) (hu : P.underlying u = some (.slice e')) (hi : P.info? e = some i) (c : Nat) (aa : Option Addr) (news : Array Value)
  (hf : (Builtin.firstCells i.size 0 (.slice aa 0 c)).run P w = .ok news w) :
  (Builtin.append_ #[t, u] ty #[.slice none 0 0, .slice aa 0 c]).run P w = .ok (.slice none 0 0) w := by
 simp [Builtin.append_, au ht, au hu, dg hi, Builtin.lenOf, hf]

theorem fI {t u ty e e' : TypeId} {i : TypeInfo} {z : Value} (ht : P.underlying t = some (.slice e)) (hu : P.underlying u = some (.slice e')) (hi : P.info? e = some i) (hz : i.zero = some z) (base : Option Addr) (k6 dY n c : Nat)
  (aa : Option Addr) (Rm news : Array Value) (fp : (Builtin.firstCells i.size k6 (.slice base k6 dY)).run P w.drew = .ok Rm w.drew) (hf : (Builtin.firstCells i.size n (.slice aa n c)).run P w.drew = .ok news w.drew)
  (hg : dY < k6 + n) (h63 : ((k6 + n : Nat) : Int) ≤ 9223372036854775807) (DV : Builtin.nextslicecap (k6 + n) dY * i.bytes ≤ 281474976710656) :
  (Builtin.append_ #[t, u] ty #[.slice base k6 dY, .slice aa n c]).run P w =
   .ok (.slice (some ⟨w.heap.size, 0, none⟩) (k6 + n) (grownCap w (k6 + n) dY e))
    (w.drew.alloc (.cells (Rm ++ news ++ Builtin.zeroCells z.cells (grownCap w (k6 + n) dY e - (k6 + n))) e)) := by
 have hn : ¬ (k6 + n ≤ dY) := by omega
 have U0 : ¬ (9223372036854775807 < ((k6 : Int) + (n : Int))) := by omega
 have U1 : ¬ (281474976710656 < Builtin.nextslicecap (k6 + n) dY * i.bytes) := by omega
 simp [Builtin.append_, au ht, au hu, cL hi, dg hi, zeroValue, hz, Builtin.lenOf, hn, U0, U1, Question.forced, hf, fp, newRow, grownCap]
end

def ln (mem : List ay) (size : Nat) : V → Option (Option (Nat × Nat) × List V)
 | .sc (.slice none 0 0) => some (none, [])
 | .full rows => if ca rows 0 size = true then some (none, rows) else none
 | .ms b v 0 l => match mem[b]? with
  | some (.rows v' e rs) => if v' = v ∧ e = size ∧ rs.length = l then some (some (b, v), rs) else none
  | _ => none
 | _ => none

def xO : V → List V → Bool
 | .full _, [] => false
 | _, _ => true
theorem FW (b v s l : Nat) (xs : List V) : xO (.ms b v s l) xs = true := rfl
theorem FX (v : Value) (xs : List V) : xO (.sc v) xs = true := rfl
theorem An (v x : V) (xs : List V) : xO v (x :: xs) = true := by cases v <;> rfl
def dv (tt : Table) (mem : List ay) (ts : List TypeId) (s x : V) : Option (Nat × Option (Nat × Nat) × List V) :=
 match ts with
 | [t, u] => match tt t with
  | some it => match it.elem with
   | some e => match dz tt u with
    | some _ => match tt e with
     | some i =>
      if 0 < i.size ∧ i.bytes ≤ 4096 ∧ i.zero.length = i.size then
       match ln mem i.size s with
       | some (ob, rs) => match rowsOf mem i.size x with
        | some xs => if rs.length + xs.length ≤ 34359738368 then (if xO s xs = true then some (i.size, ob, rs ++ xs) else none) else none
        | none => none
       | none => none
      else none
     | none => none
    | none => none
   | none => none
  | none => none
 | _ => none

def cy (mem : List ay) (key size : Nat) (rows : List V) : Option (Nat × Nat) → List ay × V
 | none => (bg mem key (.rows 0 size rows), .ms key 0 0 rows.length)
 | some (b, v) => (mem.set b (.rows (v + 1) size rows), .ms b (v + 1) 0 rows.length)

theorem bd.renew {E : Env} {w w' : World} {a : Act} {st : St} (hs : bd E w a st) {b v e0 g e c : Nat} {rs rows : List V} (hm : st.mem[b]? = some (.rows v e0 rs)) (hF : ∀ ad x, E.F ad = some x → w'.cell? ad = some x) (ka : w.heap.size ≤ w'.heap.size)
  (hg : g < w'.heap.size) (r7 : ∀ k B', k ≠ b → st.mem[k]? = some B' → B'.held = true → ∀ g' e' c', E.aK k B'.aC = some (g', e', c') → w'.heap[g']? = w.heap[g']? ∧ g' ≠ g)
  (hB : iw (E.with b (v + 1) (g, e, c)) w' b (.rows (v + 1) e rows)) (Ua : ∀ k v' e' c', E.aK k v' = some (g, e', c') → k = b) : bd (E.with b (v + 1) (g, e, c)) w' a { st with mem := st.mem.set b (.rows (v + 1) e rows) } := by
 have hn : ∀ v', v < v' → E.aK b v' = none := fun v' qY => hs.aC b _ hm v' qY
 have hle : E.le (E.with b (v + 1) (g, e, c)) := Env.gz (hn _ (Nat.lt_succ_self v)) _
 have cf : (E.with b (v + 1) (g, e, c)).aK b (v + 1) = some (g, e, c) := if_pos ⟨rfl, rfl⟩
 have hblk : ∀ k v', ¬ (k = b ∧ v' = v + 1) → (E.with b (v + 1) (g, e, c)).aK k v' = E.aK k v' := fun k v' bO => if_neg bO
 have Jc : ∀ k v', k ≠ b → (E.with b (v + 1) (g, e, c)).aK k v' = E.aK k v' := fun k v' bO => hblk k v' fun h => bO h.1
 have aB : b < st.mem.length := (List.getElem?_eq_some_iff.1 hm).1
 have eS : ∀ (k : Nat) (B : ay), (st.mem.set b (.rows (v + 1) e rows))[k]? = some B → (k = b ∧ B = .rows (v + 1) e rows) ∨ (k ≠ b ∧ st.mem[k]? = some B) := fun k B hk => by
  rw [List.getElem?_set] at hk
  by_cases dG : b = k
  ·subst dG; simp only [if_true,aB] at hk; cases hk; exact .inl ⟨rfl, rfl⟩
  ·rw [if_neg dG] at hk; exact .inr ⟨fun e => dG e.symm, hk⟩
 refine ⟨hF, fun k v' g' e' c' hb => ?_, fun k B hk => ?_, fun k hk v' => ?_, fun k B hk v' qY => ?_, fun k k' v1 v2 g' e1 c1 e2 c2 h5 h6 => ?_, hs.fr.mono hle⟩
 ·by_cases hq : k = b ∧ v' = v + 1
  ·obtain ⟨rfl, rfl⟩ := hq; rw [cf] at hb; cases hb; exact hg
  ·rw [hblk k v' hq] at hb; exact Nat.lt_of_lt_of_le (hs.lt _ _ _ _ _ hb) ka
 ·rcases eS k B hk with ⟨rfl, rfl⟩ | ⟨dG, eQ⟩
  ·exact hB
  ·cases Je : B.held with
   | false =>
    have := hs.mem k B eQ
    cases B with
    | hole => exact fun v' => by rw [Jc k v' dG]; exact this v'
    | dead => trivial
    | _ => simp [ay.held] at Je
   | true => exact (hs.mem k B eQ).mono hle (fun v' h => by rw [Jc k v' dG]; exact h) (fun g' e' c' dX => (r7 k B dG eQ Je g' e' c' dX).1) fun _ _ _ _ _ h => h
 ·have eQ : st.mem.length ≤ k := by simpa using hk
  rw [Jc k v' (by omega)]; exact hs.top k eQ v'
 ·rcases eS k B hk with ⟨rfl, rfl⟩ | ⟨dG, eQ⟩
  ·have : v + 1 < v' := qY
   rw [hblk k v' (by omega)]; exact hn v' (by omega)
  ·rw [Jc k v' dG]; exact hs.aC k B eQ v' qY
 ·by_cases hq : k = b ∧ v1 = v + 1 <;> by_cases Jf : k' = b ∧ v2 = v + 1
  ·rw [hq.1, Jf.1]
  ·obtain ⟨rfl, rfl⟩ := hq; rw [cf] at h5; cases h5; rw [hblk k' _ Jf] at h6; exact (Ua _ _ _ _ h6).symm
  ·obtain ⟨rfl, rfl⟩ := Jf; rw [cf] at h6; cases h6; rw [hblk k _ hq] at h5; exact Ua _ _ _ _ h5
  ·rw [hblk k _ hq] at h5; rw [hblk k' _ Jf] at h6
   exact hs.apart _ _ _ _ _ _ _ _ _ h5 h6

theorem bd.xP {E : Env} {w : World} {a : Act} {st : St} (hs : bd E w a st) {b v e0 e : Nat} {rs : List V} (hm : st.mem[b]? = some (.rows v e0 rs)) : bd E w a { st with mem := st.mem.set b (.rows (v + 1) e []) } := by
 have hn : ∀ v', v < v' → E.aK b v' = none := fun v' qY => hs.aC b _ hm v' qY
 have aB : b < st.mem.length := (List.getElem?_eq_some_iff.1 hm).1
 have eS : ∀ (k : Nat) (B : ay), (st.mem.set b (.rows (v + 1) e []))[k]? = some B → (k = b ∧ B = .rows (v + 1) e []) ∨ (k ≠ b ∧ st.mem[k]? = some B) := fun k B hk => by
  rw [List.getElem?_set] at hk
  by_cases dG : b = k
  ·subst dG; simp only [if_true,aB] at hk; cases hk; exact .inl ⟨rfl, rfl⟩
  ·rw [if_neg dG] at hk; exact .inr ⟨fun e => dG e.symm, hk⟩
 refine ⟨hs.F, hs.lt, fun k B hk => ?_, fun k hk v' => hs.top k (by simpa using hk) v', fun k B hk v' qY => ?_, hs.apart, hs.fr⟩
 ·rcases eS k B hk with ⟨rfl, rfl⟩ | ⟨dG, eQ⟩
  ·exact .inl ⟨rfl, hn _ (Nat.lt_succ_self v)⟩
  ·exact hs.mem k B eQ
 ·rcases eS k B hk with ⟨rfl, rfl⟩ | ⟨dG, eQ⟩
  ·exact hn v' (Nat.lt_of_succ_lt qY)
  ·exact hs.aC k B eQ v' qY

theorem gA {E : Env} {e : Nat} {rs xs : List V} {A B C : Array Value} (h1 : qv E e rs A) (h2 : qv E e xs B) : fE E e (rs ++ xs) (fun o => (A ++ B ++ C)[o]?) := by
 intro i row hi
 rw [List.getElem?_append] at hi
 split at hi
 ·rename_i aB
  obtain ⟨h3, h4⟩ := h1.2 i row hi
  refine ⟨h3, fun j c hj => ?_⟩
  obtain ⟨x, hx, hr⟩ := h4 j c hj
  dsimp only at hx
  have Ns : i * e + j < A.size := (Array.getElem?_eq_some_iff.1 hx).1
  refine ⟨x, ?_, hr⟩
  dsimp only
  rw [Array.append_assoc, Array.getElem?_append_left Ns, hx]
 ·rename_i cB
  obtain ⟨h3, h4⟩ := h2.2 (i - rs.length) row hi
  refine ⟨h3, fun j c hj => ?_⟩
  obtain ⟨x, hx, hr⟩ := h4 j c hj
  dsimp only at hx
  have Ns : (i - rs.length) * e + j < B.size := (Array.getElem?_eq_some_iff.1 hx).1
  refine ⟨x, ?_, hr⟩
  dsimp only
  have hmul : i * e = A.size + (i - rs.length) * e := by
   rw [h1.1, ← Nat.add_mul]; congr 1; omega
  rw [Array.append_assoc, Array.getElem?_append_right (by omega), Array.getElem?_append_left (by omega), ← hx]
  congr 1; omega

theorem vT {E : Env} {b v s l : Nat} {x : Value} (h : aX E (.ms b v s l) x) : (l = 0 ∧ x = .slice none 0 0) ∨
  ∃ g e c a cap, x = .slice a l cap ∧ E.aK b v = some (g, e, c) ∧ (0 < l → a = some ⟨g, s * e, none⟩) ∧ (s = 0 → a = some ⟨g, 0, none⟩ ∧ cap = c) ∧ (l ≤ cap ∧ s + cap = c ∧ (0 < cap → a = some ⟨g, s * e, none⟩)) := by
 cases h with
 | df => exact .inl ⟨rfl, rfl⟩
 | ms _ _ _ _ _ g e c a cap hb hl h0 hc => exact .inr ⟨g, e, c, a, cap, rfl, hb, hl, h0, hc⟩

theorem qx {E : Env} {e : Nat} {xs : List V} {A : Array Value} (iB : 0 < e) (h : qv E e xs A) : ∀ v ∈ A.toList, v.oneCell' = true := by
 intro v hv
 obtain ⟨q, hq, rfl⟩ := List.mem_iff_getElem.1 hv
 have Jf : q < xs.length * e := by rw [← h.1]; simpa using hq
 have Yz : q / e < xs.length := by rwa [Nat.div_lt_iff_lt_mul iB]
 have cd := List.getElem?_eq_getElem Yz
 obtain ⟨U2, lq⟩ := h.2 _ _ cd
 obtain ⟨vv, Ub, z6, -⟩ := lq (q % e) _ (List.getElem?_eq_getElem (by rw [U2]; exact Nat.mod_lt _ iB))
 dsimp only at Ub
 rw [Nat.mul_comm, Nat.div_add_mod] at Ub
 have : A.toList[q] = vv := by
  have Fz : q < A.size := by simpa using hq
  rw [Array.getElem?_eq_getElem Fz] at Ub
  simpa using Ub
 rw [this]; exact z6

theorem uf {P : Program} {tt : Table} (ht : TT P tt) {E : Env} {w : World} {a : Act} {st : St} (hs : bd E w a st) {ts : Array TypeId} {ty : TypeId} {s x : V} {y z : Value} {size : Nat} {ob : Option (Nat × Nat)} {rows : List V} {key : Nat}
  (hk : dP st.mem key) (Cl : aX E s y) (Fx : aX E x z) (h : dv tt st.mem ts.toList s x = some (size, ob, rows)) :
  ∃ v w' E', (Builtin.append_ ts ty #[y, z]).run P w = .ok v w' ∧ bd E' w' a { st with mem := (cy st.mem key size rows ob).1 } ∧ dt E w E' w' ∧ aX E' (cy st.mem key size rows ob).2 v := by
 unfold dv at h
 split at h
 ·rename_i t u U3
  obtain rfl : ts = #[t, u] := by rw [← Array.toArray_toList (xs := ts), U3]
  split at h
  ·rename_i it hT
   split at h
   ·rename_i e he
    split at h
    ·rename_i e' Qx
     split at h
     ·rename_i i hE
      split at h
      ·rename_i hc
       obtain ⟨iB, r8, DU⟩ := hc
       split at h
       ·rename_i YA rs gY
        split at h
        ·rename_i xs nt
         split at h
         ·rename_i hlen
          split at h
          case isFalse => cases h
          rename_i U4
          simp only [Option.some.injEq,Prod.mk.injEq] at h
          obtain ⟨rfl, rfl, rfl⟩ := h
          obtain ⟨d, hd, -, lb, -⟩ := ht.desc t it hT
          obtain rfl := lb e he
          have Cm : ∃ e1, P.underlying u = some (.slice e1) := by
           unfold dz at Qx
           split at Qx
           ·rename_i iu hU
            obtain ⟨d, hd, -, lb, -⟩ := ht.desc u iu hU
            exact ⟨e', by rw [hd, lb e' Qx]⟩
           ·simp at Qx
          obtain ⟨e1, Cm⟩ := Cm
          obtain ⟨info, oa, Mf, Rn, z0, Nt, FT⟩ := ht.size e i hE
          have Jz : z0.cells.size = info.size := by rw [Mf, ← DU, ← FT]; simp
          rw [← Mf] at nt gY iB ⊢
          rw [← Rn] at r8
          have z7 : bd E w.drew a st := hs.drew
          obtain ⟨xa, xc, rfl, YB, xA, r5, xt⟩ := dQ (P := P) hs Fx nt
          obtain ⟨YC, YD, heq, -, xB, JA, FY⟩ := dQ (P := P) z7 Fx nt
          simp only [Value.slice.injEq] at heq
          obtain ⟨rfl, -, rfl⟩ := heq
          have DV : ∀ dY, dY < rs.length + xs.length → Builtin.nextslicecap (rs.length + xs.length) dY * info.bytes ≤ 281474976710656 := fun dY aB =>
           growslice_fits aB (Nat.le_trans (Nat.mul_le_mul hlen r8) (by decide))
          have jq : (rs ++ xs).length = rs.length + xs.length := by simp
          have cB : ∀ dY, rs.length + xs.length ≤ grownCap w (rs.length + xs.length) dY e := fun dY => grownCap_ge w (rs.length + xs.length) dY e
          have lr : ∀ (dY : Nat) (A : Array Value), qv E.pure info.size rs A → (A ++ xB ++ Builtin.zeroCells z0.cells (grownCap w (rs.length + xs.length) dY e - (rs.length + xs.length))).size = grownCap w (rs.length + xs.length) dY e * info.size := fun dY A YE => by
           simp only [Array.size_append,size_zeroCells,Jz,YE.1,FY.1,← Nat.add_mul]
           congr 1; have := cB dY; omega
          unfold ln at gY
          split at gY
          ·-- nil
           simp only [Option.some.injEq,Prod.mk.injEq] at gY
           obtain ⟨rfl, rfl⟩ := gY
           obtain rfl := b9 Cl
           by_cases h0 : xs.length = 0
           ·have Ro : xs = [] := List.length_eq_zero_iff.1 h0
            subst Ro
            exact ⟨_, w, E, er (ty := ty) hd Cm oa xc xa xA r5, hs.Jx hk info.size, dt.refl E w, .df _ _ _ _⟩
           ·have cO := fI (ty := ty) hd Cm oa Nt none 0 0 xs.length xc xa #[] xB rfl JA (by omega) (by omega) (DV 0 (by simp; omega))
            obtain ⟨E', h5, h6, h7⟩ := bd.oo z7 (key := key) hk (xs := #[] ++ xB ++ Builtin.zeroCells z0.cells (grownCap w (([] : List V).length + xs.length) 0 e - (([] : List V).length + xs.length))) (rs := [] ++ xs) (e := info.size)
             (c := grownCap w (([] : List V).length + xs.length) 0 e) e (lr 0 #[] ⟨by simp, fun i row hi => by simp at hi⟩) (by rw [jq]; exact cB 0) (gA ⟨by simp, fun i row hi => by simp at hi⟩ FY)
            refine ⟨_, _, E', cO, h5, (dt.drew E w).trans h6, ?_⟩
            simp only [cy]
            rw [jq] at h7 ⊢
            exact h7
          ·-- rows Cn room
           rename_i iA
           split at gY
           case isFalse => cases gY
           rename_i pn
           simp only [Option.some.injEq,Prod.mk.injEq] at gY
           obtain ⟨rfl, rfl⟩ := gY
           have jF : 0 < xs.length := by
            cases xs with
            | nil => simp [xO] at U4
            | cons _ _ => simp
           cases Cl with
           | full _ _ sa Cl =>
           have Np : rowsOf st.mem info.size (.slice iA) = some iA := by simp only [rowsOf]; rw [if_pos pn]
           obtain ⟨Xw, sc, heq, jz, A, JB, Co⟩ := dQ (P := P) z7 Cl Np
           simp only [Value.slice.injEq] at heq
           obtain ⟨rfl, -, rfl⟩ := heq
           have cO := fI (ty := ty) hd Cm oa Nt sa iA.length iA.length xs.length xc xa A xB JB JA (by omega) (by omega) (DV _ (by omega))
           obtain ⟨E', h5, h6, h7⟩ := bd.oo z7 (key := key) hk (xs := A ++ xB ++ Builtin.zeroCells z0.cells (grownCap w (iA.length + xs.length) iA.length e - (iA.length + xs.length))) (rs := iA ++ xs) (e := info.size)
            (c := grownCap w (iA.length + xs.length) iA.length e) e (lr iA.length A Co) (by rw [jq]; exact cB _) (gA Co FY)
           refine ⟨_, _, E', cO, h5, (dt.drew E w).trans h6, ?_⟩
           simp only [cy]
           rw [jq] at h7 ⊢
           exact h7
          ·rename_i b v l
           split at gY
           ·rename_i v' eb rs' hm
            split at gY
            ·rename_i Mh
             obtain ⟨rfl, rfl, Qy⟩ := Mh
             simp only [Option.some.injEq,Prod.mk.injEq] at gY
             obtain ⟨rfl, rfl⟩ := gY
             have Np : rowsOf st.mem info.size (.ms b v' 0 l) = some rs' := by
              simp [rowsOf, hm, Qy]
              rw [← Qy]; simp
             obtain ⟨sa, sc, rfl, jz, A, JB, Co⟩ := dQ (P := P) z7 Cl Np
             simp only [cy]
             by_cases ox : rs'.length + xs.length ≤ sc
             ·-- there is room
              rcases vT Cl with ⟨Rf, na⟩ | ⟨g, Uc, c, Xw, YF, na, hb, hl, FL, uD⟩
              ·simp only [Value.slice.injEq] at na
               obtain ⟨rfl, U5, rfl⟩ := na
               have jF : xs = [] := List.length_eq_zero_iff.1 (by omega)
               have Nu : rs' = [] := List.length_eq_zero_iff.1 (by omega)
               subst jF; subst Nu
               exact ⟨_, w, E, er (ty := ty) hd Cm oa xc xa xA r5, hs.xP hm, dt.refl E w, .df _ _ _ _⟩
              ·simp only [Value.slice.injEq] at na
               obtain ⟨rfl, -, rfl⟩ := na
               obtain ⟨rfl, YG⟩ := FL rfl
               have U6 := YG.symm
               subst U6
               rcases hs.mem b _ hm with ⟨-, hn⟩ | ⟨g', T', cur, c', eP, hh, tV, jD, uE, hf⟩
               ·rw [hb] at hn; cases hn
               rw [hb] at eP; cases eP
               have r9 : rs'.length * info.size + xA.toList.length ≤ cur.size := by
                have := xt.1
                simp only [Array.length_toList]
                rw [this, tV, ← Nat.add_mul]; exact Nat.mul_le_mul_right _ ox
               obtain ⟨w', gG, Jd, vU⟩ := ff (P := P) (g := g) (T := T') (rs'.length * info.size) xA.toList 0 w cur hh (by simpa using r9) (qx iB xt)
               have cO := r6 (ty := ty) hd Cm oa g rs'.length c xs.length xc xa xA r5 ox gG
               have hle : E.le (E.with b (v' + 1) (g, info.size, c)) := Env.gz (hs.aC b _ hm _ (Nat.lt_succ_self v')) _
               have cf : (E.with b (v' + 1) (g, info.size, c)).aK b (v' + 1) = some (g, info.size, c) := if_pos ⟨rfl, rfl⟩
               refine ⟨_, w', E.with b (v' + 1) (g, info.size, c), cO, hs.renew hm (fun ad y hy => ?_) (by rw [vU.size]; exact Nat.le_refl _) (by rw [vU.size]; exact hs.lt _ _ _ _ _ hb) (fun k B' dG eQ Mi g' e' c' dX => ?_) ?_ (fun k v2 e2 c2 h => hs.apart _ _ _ _ _ _ _ _ _ h hb),
                ⟨hle, fun k q g' e' c' dG => ?_, fun ad y hy => .inl hy, vU.os, vU.tape, vU.output, by rw [vU.size]; exact Nat.le_refl _, fun b' eP bO => vU.heap b' fun e => by subst e; exact bO _ _ _ _ hb⟩, ?_⟩
               ·have bO := hs.vO hf hy
                rw [← hs.F ad y hy]; simp [World.cell?, vU.heap _ bO]
               ·have Rp : g' ≠ g := fun e => by
                 subst e
                 exact dG (hs.apart _ _ _ _ _ _ _ _ _ dX hb)
                exact ⟨vU.heap _ Rp, Rp⟩
               ·refine .inr ⟨g, T', _, c, cf, Jd, by rw [fG]; exact tV, by rw [jq]; exact ox, ?_, hf⟩
                intro q row hq
                simp only [Nat.add_zero]
                have xQ : xA.toList.length = xs.length * info.size := by simpa using xt.1
                rw [List.getElem?_append] at hq
                split at hq
                ·rename_i aB
                 obtain ⟨h3, h4⟩ := uE q row hq
                 refine ⟨h3, fun j cc hj => ?_⟩
                 obtain ⟨v, hv, z6, DW⟩ := h4 j cc hj
                 have qq : j < info.size := by rw [← h3]; exact (List.getElem?_eq_some_iff.1 hj).1
                 refine ⟨v, ?_, z6, DW⟩
                 rw [eC _ _ _ _ r9, if_neg (by have := rY aB qq; omega)]
                 exact hv
                ·rename_i U7
                 obtain ⟨h3, h4⟩ := xt.2 _ row hq
                 refine ⟨h3, fun j cc hj => ?_⟩
                 obtain ⟨v, hv, z6, DW⟩ := h4 j cc hj
                 have qq : j < info.size := by rw [← h3]; exact (List.getElem?_eq_some_iff.1 hj).1
                 have Rr : q - rs'.length < xs.length := (List.getElem?_eq_some_iff.1 hq).1
                 have hmul : q * info.size = rs'.length * info.size + (q - rs'.length) * info.size := by rw [← Nat.add_mul]; congr 1; omega
                 refine ⟨v, ?_, z6, DW⟩
                 rw [eC _ _ _ _ r9, if_pos (by have := rY Rr qq; omega)]
                 dsimp only at hv
                 rw [← hv, Array.getElem?_toList]
                 congr 1; omega
               ·by_cases hq : k = b ∧ q = v' + 1
                ·obtain ⟨rfl, rfl⟩ := hq; rw [cf] at dG; cases dG; exact .inl ⟨_, _, _, _, hb⟩
                ·have : (E.with b (v' + 1) (g, info.size, c)).aK k q = E.aK k q := if_neg hq
                 rw [this] at dG; exact .inl ⟨_, _, _, _, dG⟩
               ·rw [jq]
                exact .ms _ _ _ _ _ g info.size c _ _ cf (fun _ => by simp) (fun _ => ⟨rfl, rfl⟩) ⟨ox, Nat.zero_add _, fun _ => by simp⟩
             ·-- a new block
              have aB : sc < rs'.length + xs.length := by omega
              have cO := fI (ty := ty) hd Cm oa Nt sa rs'.length sc xs.length xc xa A xB JB JA aB (by omega) (DV sc aB)
              have hle : E.le (E.with b (v' + 1) (w.heap.size, info.size, grownCap w (rs'.length + xs.length) sc e)) := Env.gz (hs.aC b _ hm _ (Nat.lt_succ_self v')) _
              have cf : (E.with b (v' + 1) (w.heap.size, info.size, grownCap w (rs'.length + xs.length) sc e)).aK b (v' + 1) = some (w.heap.size, info.size, grownCap w (rs'.length + xs.length) sc e) := if_pos ⟨rfl, rfl⟩
              refine ⟨_, _, E.with b (v' + 1) (w.heap.size, info.size, grownCap w (rs'.length + xs.length) sc e), cO, hs.renew hm (fun ad y hy => ?_) (by simp) (by simp) (fun k B' dG eQ Mi g' e' c' dX => ?_) ?_ (fun k v2 e2 c2 h => absurd (hs.lt _ _ _ _ _ h) (Nat.lt_irrefl _)),
               ⟨hle, fun k q g' e' c' dG => ?_, fun ad y hy => .inl hy, rfl, rfl, rfl, by simp, fun b' eP bO => Go.RowKit.Below.heap_alloc w.drew _ b' eP⟩, ?_⟩
              ·rw [World.cell?_alloc_lt w.drew _ ad (World.block_lt_of_cell? w ad (hs.F ad y hy))]; exact hs.F ad y hy
              ·have := hs.lt _ _ _ _ _ dX
               exact ⟨Go.RowKit.Below.heap_alloc w.drew _ g' this, by omega⟩
              ·refine .inr ⟨w.heap.size, e, _, _, cf, heap_alloc_new w.drew _, lr sc A Co, by rw [jq]; exact cB sc, ?_, fun o => ?_⟩
               ·intro q row hq
                obtain ⟨h3, h4⟩ := gA (C := Builtin.zeroCells z0.cells (grownCap w (rs'.length + xs.length) sc e - (rs'.length + xs.length))) Co FY q row hq
                exact ⟨h3, fun j cc hj => let ⟨v, hv, z6, DW⟩ := h4 j cc hj; ⟨v, hv, z6, DW.mono (Env.fA hle)⟩⟩
               ·show E.F _ = none
                cases hx : E.F ⟨w.heap.size, o, none⟩ with
                | none => rfl
                | some x => have := World.block_lt_of_cell? w _ (hs.F _ _ hx); simp at this
              ·by_cases hq : k = b ∧ q = v' + 1
               ·obtain ⟨rfl, rfl⟩ := hq; rw [cf] at dG; cases dG; exact .inr (Nat.le_refl _)
               ·have : (E.with b (v' + 1) (w.heap.size, info.size, grownCap w (rs'.length + xs.length) sc e)).aK k q = E.aK k q := if_neg hq
                rw [this] at dG; exact .inl ⟨_, _, _, _, dG⟩
              ·rw [jq]
               exact .ms _ _ _ _ _ w.heap.size info.size _ _ _ cf (fun _ => by simp) (fun _ => ⟨rfl, rfl⟩) ⟨cB sc, Nat.zero_add _, fun _ => by simp⟩
            ·simp at gY
           ·simp at gY
          ·simp at gY
         ·simp at h
        ·simp at h
       ·simp at h
      ·simp at h
     ·simp at h
    ·simp at h
   ·simp at h
  ·simp at h
 ·simp at h
end Go.Eng
end

section
namespace Go.Eng
variable [aG]

theorem cC.set {E : Env} {br : List (Value × Nat × V)} {es : List MapEntry} (h : cC E br es) (i : Nat) {kb : Value × Nat × V} {e : MapEntry} (h1 : e.key = kb.1) (h2 : e.born = kb.2.1) (h3 : aX E kb.2.2 e.val) : cC E (br.set i kb) (es.set i e) := by
  refine ⟨by simp [h.1], fun j k e' hk he => ?_⟩
  by_cases sb : i = j
  · subst sb
    rw [List.getElem?_set] at hk he
    simp only [if_true] at hk he
    split at hk
    · split at he
      · cases hk; cases he; exact ⟨h1, h2, h3⟩
      · cases he
    · cases hk
  · rw [List.getElem?_set_ne sb] at hk he; exact h.2 j k e' hk he
theorem cC.push {E : Env} {br : List (Value × Nat × V)} {es : List MapEntry} (h : cC E br es) {kb : Value × Nat × V} {e : MapEntry} (h1 : e.key = kb.1) (h2 : e.born = kb.2.1) (h3 : aX E kb.2.2 e.val) : cC E (br ++ [kb]) (es ++ [e]) := by
  refine ⟨by simp [h.1], fun j k e' hk he => ?_⟩
  by_cases hj : j < br.length
  · rw [List.getElem?_append_left hj] at hk; rw [List.getElem?_append_left (by have := h.1; omega)] at he; exact h.2 j k e' hk he
  · rw [List.getElem?_append_right (by omega)] at hk; rw [List.getElem?_append_right (by have := h.1; omega)] at he
    rw [h.1] at hk
    cases hd : j - es.length with
    | zero => rw [hd] at hk he; simp at hk he; subst hk; subst he; exact ⟨h1, h2, h3⟩
    | succ n => rw [hd] at hk; simp at hk
theorem cC.erase {E : Env} : ∀ {br : List (Value × Nat × V)} {es : List MapEntry}, cC E br es → ∀ (i : Nat), cC E (br.eraseIdx i) (es.eraseIdx i)
  | [], es, h, i => by rw [h.of_nil]; exact ⟨rfl, fun j k e hk => by simp at hk⟩
  | k :: r, es, h, i => by
    obtain ⟨e, es', rfl, h1, h2, h3, h4⟩ := h.of_cons
    cases i with
    | zero => exact h4
    | succ i =>
      have h5 := cC.erase h4 i
      simp only [List.eraseIdx_cons_succ]
      refine ⟨by simp [h5.1], fun j k' e' hk he => ?_⟩
      cases j with
      | zero => simp at hk he; subst hk; subst he; exact ⟨h1, h2, h3⟩
      | succ j => exact h5.2 j k' e' (by simpa using hk) (by simpa using he)

def insertAt (P : Program) (kt : TypeId) (key : Value) (v : V) (br : List (Value × Nat × V)) (clock : Nat) : Option (List (Value × Nat × V) × Nat) :=
  match kR P kt key br with
  | some (some (i, _)) => match br[i]? with
    | some e => if Instr.sameBits 10000 e.1 key = true then some (br.set i (key, e.2.1, v), clock) else none
    | none => none
  | some none => some (br ++ [(key, clock, v)], clock + 1)
  | none => none
def cp (P : Program) (mem : List ay) (T : TypeId) (m k v : V) : Option (List ay) :=
  match cY P T with
  | some (kt, _) => match bC k with
    | some key => if mX P kt key = true then
        match m with
        | .mp b => match mem[b]? with
          | some (.map br clock) => match insertAt P kt key v br clock with
            | some (kvs', clock') => some (mem.set b (.map kvs' clock'))
            | none => none
          | _ => none
        | _ => none
      else none
    | none => none
  | none => none
def Cp (P : Program) (kt et : TypeId) (key : Value) (br : List (Value × Nat × V)) (clock : Nat) : Option (List (Value × Nat × V) × Nat × V) :=
  match kR P kt key br with
  | some (some (i, v)) => match br[i]? with
    | some e => if Instr.sameBits 10000 e.1 key = true then some (br.set i (key, e.2.1, e.2.2), clock, .bT [v, .sc (.int .i64 e.2.1)]) else none
    | none => none
  | some none => match zeroV P et with
    | some z => some (br ++ [(key, clock, z)], clock + 1, .bT [z, .sc (.int .i64 clock)])
    | none => none
  | none => none
def pq (P : Program) (mem : List ay) (T : TypeId) (m k : V) : Option (List ay × V) :=
  match cY P T with
  | some (kt, et) => match bC k with
    | some key => if mX P kt key = true then
        match m with
        | .mp b => match mem[b]? with
          | some (.map br clock) => match Cp P kt et key br clock with
            | some (kvs', clock', v) => some (mem.set b (.map kvs' clock'), v)
            | none => none
          | _ => none
        | _ => none
      else none
    | none => none
  | none => none
def pw (mem : List ay) (m s v : V) : Option (List ay) :=
  match m, s with
  | .mp b, .sc (.int _ n) => match mem[b]? with
    | some (.map br clock) => match br.findIdx? (fun e => (e.2.1 : Int) == n) with
      | some i => match br[i]? with
        | some e => some (mem.set b (.map (br.set i (e.1, e.2.1, v)) clock))
        | none => none
      | none => none
    | _ => none
  | _, _ => none
def mf (P : Program) (mem : List ay) (ts : Array TypeId) : List V → Option (List ay)
  | [.mp b, k] => match ts[0]? with
    | some T => match cY P T with
      | some (kt, _) => match bC k with
        | some key => if mX P kt key = true then
            match mem[b]? with
            | some (.map br clock) => match kR P kt key br with
              | some (some (i, _)) => some (mem.set b (.map (br.eraseIdx i) clock))
              | some none => some (mem.set b (.map br clock))
              | none => none
            | _ => none
          else none
        | none => none
      | none => none
    | none => none
  | _ => none

theorem lu {w : World} {g : Nat} {o : Obj} : oq w { w with heap := w.heap.setIfInBounds g o } g :=
  ⟨rfl, rfl, rfl, by simp, fun b hb => Array.getElem?_setIfInBounds_ne (fun e => hb e.symm)⟩
theorem heap_set {w : World} {g : Nat} {o o' : Obj} (h : w.heap[g]? = some o) : ({ w with heap := w.heap.setIfInBounds g o' } : World).heap[g]? = some o' := by
  have : g < w.heap.size := by
    rcases Nat.lt_or_ge g w.heap.size with h1 | h1
    · exact h1
    · rw [Array.getElem?_eq_none h1] at h; cases h
  simp [this]
theorem bd.kl {E : Env} {w : World} {a : Act} {st : St} (hs : bd E w a st) {b g e c : Nat} {br kvs' : List (Value × Nat × V)} {clock clock' : Nat} {es es' : Array MapEntry} (hm : st.mem[b]? = some (.map br clock)) (hb : E.aK b 0 = some (g, e, c)) (hh : w.heap[g]? = some (.map es clock))
    (hf : ∀ o, E.F ⟨g, o, none⟩ = none) (hr : cC E kvs' es'.toList) :
    bd E { w with heap := w.heap.setIfInBounds g (.map es' clock') } a { st with mem := st.mem.set b (.map kvs' clock') } ∧ dt E w E { w with heap := w.heap.setIfInBounds g (.map es' clock') } := by
  obtain ⟨-, -, -, -, h0⟩ := gy hs hm hb
  cases h0
  exact hs.xM hm rfl (B' := .map kvs' clock') rfl hb hf lu ⟨g, es', hb, heap_set hh, hr, hf⟩

theorem nw {es : Array MapEntry} {i : Nat} {e : MapEntry} (h : es[i]? = some e) (f : MapEntry → MapEntry) : (es.modify i f).toList = es.toList.set i (f e) := by
  apply List.ext_getElem?
  intro j
  rw [Array.getElem?_toList, Array.getElem?_modify, List.getElem?_set]
  by_cases sb : i = j
  · subst sb
    have : i < es.size := (Array.getElem?_eq_some_iff.1 h).1
    have he : es[i] = e := (Array.getElem?_eq_some_iff.1 h).2
    simp [this, he]
  · simp [sb]
theorem uI {P : Program} {w : World} {ob new : Value} (h : Instr.sameBits 10000 ob new = true) : (Instr.keyThatStays ob new).run P w = .ok new w := by simp [Instr.keyThatStays, h]

theorem nb {P : Program} {E : Env} {w : World} {a : Act} {st : St} (hs : bd E w a st) {T : TypeId} {m k v : V} {x y z : Value} {aF : List ay} (hm : aX E m x) (hk : aX E k y) (hv : aX E v z) (h : cp P st.mem T m k v = some aF) :
    ∃ w', (Instr.mapUpdate T x y z).run P w = .ok () w' ∧ bd E w' a { st with mem := aF } ∧ dt E w E w' := by
  unfold cp at h
  split at h
  · rename_i kt et hd
    have hd := fe hd
    split at h
    · rename_i key cf
      cases eM hk cf
      split at h
      · rename_i bM
        have Fw := fun b => iZ bM b w
        split at h
        · rename_i b
          obtain ⟨g, e, c, rfl, hb⟩ := np hm
          split at h
          · rename_i br clock hB
            obtain ⟨es, hh, hr, hf, -⟩ := gy hs hB hb
            split at h
            · rename_i kvs' clock' hi
              cases h
              unfold insertAt at hi
              split at hi
              · rename_i i u F0
                obtain ⟨r', h1, h2⟩ := dh hr w F0
                match r', h2 with
                | some (j', z'), h2 =>
                  obtain ⟨rfl, h3, kb, en, h4, h5, h6, h7⟩ := h2
                  have Nv : es[i]? = some en := by simpa using h5
                  split at hi
                  · rename_i YH dG
                    rw [dG] at h4; cases h4
                    split at hi
                    · rename_i F1
                      cases hi
                      obtain ⟨p1, p2, p3⟩ := hr.2 i _ _ dG h5
                      have cO : (Instr.mapUpdate T (.map (some g)) y z).run P w = .ok () { w with heap := w.heap.setIfInBounds g (.map (es.modify i fun e => { e with key := y, val := z }) clock) } := by
                        have := dO (P := P) (o' := .map (es.modify i fun e => { e with key := y, val := z }) clock) hh (by simp)
                        simp [Instr.mapUpdate, au hd, ch hh, Fw, h1, Nv, p1, uI F1, this]
                      obtain ⟨q1, q2⟩ := hs.kl hB hb hh hf (clock' := clock) (kvs' := br.set i (y, kb.2.1, v)) (es' := es.modify i fun e => { e with key := y, val := z }) (by rw [nw Nv]; exact hr.set i rfl p2 hv)
                      exact ⟨_, cO, q1, q2⟩
                    · cases hi
                  · cases hi
              · rename_i F0
                obtain ⟨r', h1, h2⟩ := dh hr w F0
                match r', h2 with
                | none, h2 =>
                  cases hi
                  have cO : (Instr.mapUpdate T (.map (some g)) y z).run P w = .ok () { w with heap := w.heap.setIfInBounds g (.map (es.push { key := y, val := z, born := clock }) (clock + 1)) } := by
                    have := dO (P := P) (o' := .map (es.push { key := y, val := z, born := clock }) (clock + 1)) hh (by simp)
                    simp [Instr.mapUpdate, au hd, ch hh, Fw, h1, this]
                  obtain ⟨q1, q2⟩ := hs.kl hB hb hh hf (clock' := clock + 1) (kvs' := br ++ [(y, clock, v)]) (es' := es.push { key := y, val := z, born := clock }) (by rw [Array.toList_push]; exact hr.push rfl rfl hv)
                  exact ⟨_, cO, q1, q2⟩
              · cases hi
            · cases h
          · cases h
        · cases h
      · cases h
    · cases h
  · cases h

theorem xR {E : Env} {v : V} {x : Value} (h : aX E v x) (n : Nat) : aX E (.bT [v, .sc (.int .i64 n)]) (.tuple #[x, goInt n]) := by
  refine .bT _ _ _ rfl fun i c y hc hy => ?_
  match i with
  | 0 => simp at hc hy; subst hc; subst hy; exact h
  | 1 => simp at hc hy; subst hc; subst hy; exact .sc _ _
  | i + 2 => simp at hc
theorem vV {P : Program} {E : Env} {w : World} {a : Act} {st : St} (hs : bd E w a st) {T : TypeId} {m k v : V} {x y : Value} {aF : List ay} (hm : aX E m x) (hk : aX E k y) (h : pq P st.mem T m k = some (aF, v)) :
    ∃ z w', (Instr.mapEntry T x y).run P w = .ok z w' ∧ bd E w' a { st with mem := aF } ∧ dt E w E w' ∧ aX E v z := by
  unfold pq at h
  split at h
  · rename_i kt et hd
    have hd := fe hd
    split at h
    · rename_i key cf
      cases eM hk cf
      split at h
      · rename_i bM
        have Fw := fun b => iZ bM b w
        split at h
        · rename_i b
          obtain ⟨g, e, c, rfl, hb⟩ := np hm
          split at h
          · rename_i br clock hB
            obtain ⟨es, hh, hr, hf, -⟩ := gy hs hB hb
            split at h
            · rename_i kvs' clock' v' hi
              cases h
              unfold Cp at hi
              split at hi
              · rename_i i u F0
                obtain ⟨r', h1, h2⟩ := dh hr w F0
                match r', h2 with
                | some (j', z'), h2 =>
                  obtain ⟨rfl, h3, kb, en, h4, h5, h6, h7⟩ := h2
                  have Nv : es[i]? = some en := by simpa using h5
                  split at hi
                  · rename_i YH dG
                    rw [dG] at h4; cases h4
                    split at hi
                    · rename_i F1
                      cases hi
                      obtain ⟨p1, p2, p3⟩ := hr.2 i _ _ dG h5
                      have cO : (Instr.mapEntry T (.map (some g)) y).run P w = .ok (.tuple #[z', goInt en.born]) { w with heap := w.heap.setIfInBounds g (.map (es.modify i fun e => { e with key := y }) clock) } := by
                        have := dO (P := P) (o' := .map (es.modify i fun e => { e with key := y }) clock) hh (by simp)
                        simp [Instr.mapEntry, au hd, ch hh, Fw, h1, Nv, p1, uI F1, this]
                      obtain ⟨q1, q2⟩ := hs.kl hB hb hh hf (clock' := clock) (kvs' := br.set i (y, kb.2.1, kb.2.2)) (es' := es.modify i fun e => { e with key := y }) (by rw [nw Nv]; exact hr.set i rfl p2 p3)
                      exact ⟨_, _, cO, q1, q2, by rw [p2]; exact xR h3 _⟩
                    · cases hi
                  · cases hi
              · rename_i F0
                obtain ⟨r', h1, h2⟩ := dh hr w F0
                match r', h2 with
                | none, h2 =>
                  split at hi
                  · rename_i z0 Nt
                    cases hi
                    obtain ⟨zz, h3, h4⟩ := lh Nt E w
                    have cO : (Instr.mapEntry T (.map (some g)) y).run P w = .ok (.tuple #[zz, goInt clock]) { w with heap := w.heap.setIfInBounds g (.map (es.push { key := y, val := zz, born := clock }) (clock + 1)) } := by
                      have := dO (P := P) (o' := .map (es.push { key := y, val := zz, born := clock }) (clock + 1)) hh (by simp)
                      simp [Instr.mapEntry, au hd, ch hh, Fw, h1, h3, this]
                    obtain ⟨q1, q2⟩ := hs.kl hB hb hh hf (clock' := clock + 1) (kvs' := br ++ [(y, clock, z0)]) (es' := es.push { key := y, val := zz, born := clock }) (by rw [Array.toList_push]; exact hr.push rfl rfl h4)
                    exact ⟨_, _, cO, q1, q2, xR h4 _⟩
                  · cases hi
              · cases hi
            · cases h
          · cases h
        · cases h
      · cases h
    · cases h
  · cases h

theorem qy {E : Env} (n : Int) : ∀ {br : List (Value × Nat × V)} {es : List MapEntry}, cC E br es → br.findIdx? (fun e => (e.2.1 : Int) == n) = es.findIdx? (fun e => (e.born : Int) == n)
  | [], es, h => by rw [h.of_nil]; rfl
  | k :: r, es, h => by
    obtain ⟨e, es', rfl, h1, h2, h3, h4⟩ := h.of_cons
    rw [List.findIdx?_cons, List.findIdx?_cons, h2, qy n h4]
theorem vW {P : Program} {E : Env} {w : World} {a : Act} {st : St} (hs : bd E w a st) {T : TypeId} {m s v : V} {x y z : Value} {aF : List ay} (hm : aX E m x) (hk : aX E s y) (hv : aX E v z) (h : pw st.mem m s v = some aF) :
    ∃ w', (Instr.entryStore T x y z).run P w = .ok () w' ∧ bd E w' a { st with mem := aF } ∧ dt E w E w' := by
  unfold pw at h
  split at h
  · rename_i b k n
    obtain ⟨g, e, c, rfl, hb⟩ := np hm
    obtain rfl := mb hk
    split at h
    · rename_i br clock hB
      obtain ⟨es, hh, hr, hf, -⟩ := gy hs hB hb
      split at h
      · rename_i i hi
        split at h
        · rename_i kb dG
          cases h
          obtain ⟨en, h5, p1, p2, p3⟩ := hr.get dG
          have Nv : es[i]? = some en := by simpa using h5
          have Nw : es.findIdx? (fun e => (e.born : Int) == n) = some i := by
            rw [qy n hr, ← List.findIdx?_toArray, Array.toArray_toList] at hi; exact hi
          have cO : (Instr.entryStore T (.map (some g)) (.int k n) z).run P w = .ok () { w with heap := w.heap.setIfInBounds g (.map (es.modify i fun e => { e with val := z }) clock) } := by
            have := dO (P := P) (o' := .map (es.modify i fun e => { e with val := z }) clock) hh (by simp)
            simp [Instr.entryStore, ch hh, asInt, asIntOf, Nw, this]
          obtain ⟨q1, q2⟩ := hs.kl hB hb hh hf (clock' := clock) (kvs' := br.set i (kb.1, kb.2.1, v)) (es' := es.modify i fun e => { e with val := z }) (by rw [nw Nv]; exact hr.set i p1 p2 hv)
          exact ⟨_, cO, q1, q2⟩
        · cases h
      · cases h
    · cases h
  · cases h

theorem ug {P : Program} {E : Env} {w : World} {a : Act} {st : St} (hs : bd E w a st) {ts : Array TypeId} {ty : TypeId} {xs : List V} {ys : Array Value} {aF : List ay} (hx : aQ E xs ys.toList) (h : mf P st.mem ts xs = some aF) :
    ∃ w', (Builtin.delete_ ts ty ys).run P w = .ok (.tuple #[]) w' ∧ bd E w' a { st with mem := aF } ∧ dt E w E w' := by
  unfold mf at h
  split at h
  · rename_i b k
    obtain ⟨x, r, hy, Ak, hx⟩ := hx.of_cons
    obtain ⟨y, r2, hz, re, hx⟩ := hx.of_cons
    have := hx.of_nil
    subst this; subst hz
    obtain rfl : ys = #[x, y] := by rw [← Array.toArray_toList (xs := ys), hy]
    obtain ⟨g, e, c, rfl, hb⟩ := np Ak
    split at h
    · rename_i T h0
      split at h
      · rename_i kt et hd
        have hd := fe hd
        split at h
        · rename_i key cf
          cases eM re cf
          split at h
          · rename_i bM
            have Fw := fun b => iZ bM b w
            split at h
            · rename_i br clock hB
              obtain ⟨es, hh, hr, hf, -⟩ := gy hs hB hb
              split at h
              · rename_i i u F0
                cases h
                obtain ⟨r', h1, h2⟩ := dh hr w F0
                match r', h2 with
                | some (j', z'), h2 =>
                  obtain ⟨rfl, h3, kb, en, h4, h5, h6, h7⟩ := h2
                  have cO : (Builtin.delete_ ts ty #[.map (some g), y]).run P w = .ok (.tuple #[]) { w with heap := w.heap.setIfInBounds g (.map (es.eraseIdxIfInBounds i) clock) } := by
                    have := dO (P := P) (o' := .map (es.eraseIdxIfInBounds i) clock) hh (by simp)
                    simp [Builtin.delete_, h0, au hd, ch hh, Fw, h1, this]
                  obtain ⟨q1, q2⟩ := hs.kl hB hb hh hf (clock' := clock) (kvs' := br.eraseIdx i) (es' := es.eraseIdxIfInBounds i) (by rw [Array.toList_eraseIdxIfInBounds]; exact hr.erase i)
                  exact ⟨_, cO, q1, q2⟩
              · rename_i F0
                cases h
                obtain ⟨r', h1, h2⟩ := dh hr w F0
                match r', h2 with
                | none, h2 =>
                  have cO : (Builtin.delete_ ts ty #[.map (some g), y]).run P w = .ok (.tuple #[]) { w with heap := w.heap.setIfInBounds g (.map es clock) } := by
                    have := dO (P := P) (o' := .map es clock) hh (by simp)
                    simp [Builtin.delete_, h0, au hd, ch hh, Fw, h1, this]
                  obtain ⟨q1, q2⟩ := hs.kl hB hb hh hf (clock' := clock) (kvs' := br) (es' := es) hr
                  exact ⟨_, cO, q1, q2⟩
              · cases h
            · cases h
          · cases h
        · cases h
      · cases h
    · cases h
  · cases h

/-! ### ranging -/

def leftOf (br : List (Value × Nat × V)) (seen : List Nat) : List (Value × Nat × V) := br.filter fun e => !seen.contains e.2.1
def sd (br : List (Value × Nat × V)) (seen : List Nat) (since : Nat) : List (Value × Nat × V) := (leftOf br seen).filter fun e => e.2.1 < since
def F2 (br : List (Value × Nat × V)) (seen : List Nat) (since : Nat) : List (Value × Nat × V) := (leftOf br seen).filter fun e => e.2.1 ≥ since
def vX (br : List (Value × Nat × V)) (seen : List Nat) (last : Nat) : Bool := !seen.isEmpty && !br.isEmpty && br.all fun e => e.2.1 ≥ last
def se : V := .bT [.sc (.bool false)]
def F3 (e : Value × Nat × V) : V := .bT [.sc (.bool true), dH e.1, e.2.2]
def Mj (s : ByteArray) (pos : Nat) : V := .bT [.sc (.bool true), .sc (.int .i64 pos), .sc (.int .i32 (Utf8.decode s pos).1)]
def oy (st : St) (dst : Option Tmp) (it : V) (str : Bool) (Q : St → Prop) : Prop :=
  match it with
  | .ptr b 0 => match st.mem[b]? with
    | some (.eo m since seen last) => match st.mem[m]? with
      | some (.map br clock) => str = false ∧ vX br seen last = false ∧ (sd br seen since = [] → Q (st.put dst se)) ∧
          ∀ e ∈ sd br seen since ++ F2 br seen since, Q ({ st with mem := st.mem.set b (.eo m since (seen ++ [e.2.1]) clock) }.put dst (F3 e))
      | _ => False
    | some (.gX s pos) => str = true ∧ if pos < s.size then Q ({ st with mem := st.mem.set b (.gX s (pos + (Utf8.decode s pos).2)) }.put dst (Mj s pos)) else Q (st.put dst se)
    | some .iv => str = false ∧ Q (st.put dst se)
    | _ => False
  | _ => False

theorem cC.filter {E : Env} (p : Nat → Bool) : ∀ {br : List (Value × Nat × V)} {es : List MapEntry}, cC E br es → cC E (br.filter fun e => p e.2.1) (es.filter fun e => p e.born)
  | [], es, h => by rw [h.of_nil]; exact ⟨rfl, fun j k e hk => by simp at hk⟩
  | k :: r, es, h => by
    obtain ⟨e, es', rfl, h1, h2, h3, h4⟩ := h.of_cons
    have h5 := cC.filter p h4
    simp only [List.filter_cons,h2]
    split
    · refine ⟨by simp [h5.1], fun j k' e' hk he => ?_⟩
      cases j with
      | zero => simp at hk he; subst hk; subst he; exact ⟨h1, h2, h3⟩
      | succ j => exact h5.2 j k' e' (by simpa using hk) (by simpa using he)
    · exact h5
theorem cC.all {E : Env} (p : Nat → Bool) : ∀ {br : List (Value × Nat × V)} {es : List MapEntry}, cC E br es → (br.all fun e => p e.2.1) = es.all fun e => p e.born
  | [], es, h => by rw [h.of_nil]; rfl
  | k :: r, es, h => by
    obtain ⟨e, es', rfl, h1, h2, h3, h4⟩ := h.of_cons
    simp only [List.all_cons,h2,cC.all p h4]
theorem cC.append {E : Env} {a b : List (Value × Nat × V)} {x y : List MapEntry} (h : cC E a x) (k : cC E b y) : cC E (a ++ b) (x ++ y) := by
  refine ⟨by simp [h.1, k.1], fun j kk e hk he => ?_⟩
  by_cases hj : j < a.length
  · rw [List.getElem?_append_left hj] at hk; rw [List.getElem?_append_left (by have := h.1; omega)] at he; exact h.2 j kk e hk he
  · rw [List.getElem?_append_right (by omega)] at hk; rw [List.getElem?_append_right (by have := h.1; omega)] at he
    rw [h.1] at hk
    exact k.2 _ kk e hk he
theorem DX {E : Env} {k : Value × Nat × V} {e : MapEntry} (h1 : e.key = k.1) (h3 : aX E k.2.2 e.val) : aX E (F3 k) (.tuple #[.bool true, e.key, e.val]) := by
  refine .bT _ _ _ rfl fun i c y hc hy => ?_
  match i with
  | 0 => simp at hc hy; subst hc; subst hy; exact .sc _ _
  | 1 => simp at hc hy; subst hc; subst hy; rw [h1]; exact fC E _
  | 2 => simp at hc hy; subst hc; subst hy; exact h3
  | i + 3 => simp at hc

theorem sf {P : Program} {w : World} {n : Nat} (hn : 0 < n) : ∃ i w', (choose (.mapNext n)).run P w = .ok i w' ∧ i < n ∧ (w' = w ∨ w' = w.drew) := by
  unfold choose
  rw [Sem.run]
  split
  · exact ⟨0, w, rfl, hn, .inl rfl⟩
  · exact ⟨_, _, rfl, Nat.mod_lt _ hn, .inr rfl⟩
theorem bd.Nx {E : Env} {w w' : World} {a : Act} {st : St} (hs : bd E w a st) (h : w' = w ∨ w' = w.drew) : bd E w' a st ∧ dt E w E w' ∧ w'.heap = w.heap := by
  rcases h with rfl | rfl
  · exact ⟨hs, dt.refl _ _, rfl⟩
  · exact ⟨hs.drew, dt.drew _ _, rfl⟩
theorem xS {P : Program} {E : Env} {w : World} {a : Act} {st : St} (hs : bd E w a st) {dst : Option Tmp} {it : V} {x : Value} {str : Bool} {ty : TypeId} {Q : St → Prop} (hi : aX E it x) (h : oy st dst it str Q) :
    ∃ z w' st', (Instr.next x str ty).run P w = .ok z w' ∧ bd E w' (a.put dst z) st' ∧ dt E w E w' ∧ Q st' := by
  unfold oy at h
  split at h
  · rename_i b
    split at h
    · rename_i m since seen last hB
      split at h
      · rename_i br clock hM
        obtain ⟨rfl, gG, Rs, aS⟩ := h
        obtain ⟨g, gm, em, cm, hb, Jb, hh, hf⟩ := hs.mem b _ hB
        obtain ⟨es, UW, hr, Yt, h0⟩ := gy hs hM Jb
        cases h0
        cases hi with
        | ptr _ _ _ g' e' c' eP =>
        rw [hb] at eP; cases eP
        have eS : (getObj g).run P w = .ok (.mapIter (some gm) since seen.toArray last) w := by simp [getObj, Sem.run, hh]
        have Ny : (!seen.toArray.isEmpty && !es.isEmpty && es.all (fun e => decide (e.born ≥ last))) = false := by
          rw [← gG]
          unfold vX
          have e1 : seen.toArray.isEmpty = seen.isEmpty := by simp
          have e2 : es.isEmpty = br.isEmpty := by
            have h1 := hr.1
            rw [Bool.eq_iff_iff, Array.isEmpty_iff_size_eq_zero, List.isEmpty_iff, ← List.length_eq_zero_iff, h1, Array.length_toList]
          rw [e1, e2, ← Array.all_toList, ← cC.all (fun n => decide (n ≥ last)) hr]
        have Mk : (es.filter fun e => !seen.toArray.contains e.born).toList = es.toList.filter fun e => !seen.contains e.born := by
          rw [Array.toList_filter]; simp
        have hl := cC.filter (fun n => !seen.contains n) hr
        have ho := cC.filter (fun n => decide (n < since)) hl
        have hw := cC.filter (fun n => decide (n ≥ since)) hl
        have Rt := ho.append hw
        obtain ⟨L, hL⟩ : ∃ L, L = es.filter fun e => !seen.toArray.contains e.born := ⟨_, rfl⟩
        have hO : (L.filter fun e => decide (e.born < since)).toList = (es.toList.filter fun e => !seen.contains e.born).filter fun e => decide (e.born < since) := by rw [Array.toList_filter, hL, Mk]
        have hN : (L.filter fun e => decide (e.born ≥ since)).toList = (es.toList.filter fun e => !seen.contains e.born).filter fun e => decide (e.born ≥ since) := by rw [Array.toList_filter, hL, Mk]
        rw [← hO] at ho
        rw [← hO, ← hN] at Rt
        generalize YI : L.filter (fun e => decide (e.born < since)) = O at ho Rt
        generalize YJ : L.filter (fun e => decide (e.born ≥ since)) = N at Rt
        have U8 : O.isEmpty = (sd br seen since).isEmpty := by
          have h1 := ho.1
          rw [Bool.eq_iff_iff, Array.isEmpty_iff_size_eq_zero, List.isEmpty_iff, ← List.length_eq_zero_iff, ← Array.length_toList, ← h1]; rfl
        have Ru : 0 < ((if O.isEmpty then #[none] else #[]) ++ (O ++ N).map some : Array (Option MapEntry)).size := by
          by_cases F4 : O.isEmpty = true
          · rw [if_pos F4]; simp; omega
          · rw [if_neg F4]
            have : O.size ≠ 0 := fun h => F4 (Array.isEmpty_iff_size_eq_zero.2 h)
            simp; omega
        obtain ⟨i, w1, Xx, Mh, Qy⟩ := sf (P := P) (w := w) Ru
        obtain ⟨s1, v1, jr⟩ := hs.Nx Qy
        have cO : ∀ {R}, (match ((if O.isEmpty then #[none] else #[]) ++ (O ++ N).map some : Array (Option MapEntry))[i]? with
            | some (some e) => do setObj g (.mapIter (some gm) since (seen.toArray.push e.born) clock); pure (Value.tuple #[.bool true, e.key, e.val])
            | some none => (pure (Value.tuple #[.bool false]) : Sem Value)
            | none => stuck "Next: no such candidate").run P w1 = R → (Instr.next (.pointer (some ⟨g, 0, none⟩)) false ty).run P w = R := fun hR => by
          rw [← hR]
          simp only [Instr.next,Sem.run_bind,eS,Result.andThen_ok,ch UW,Ny,Bool.false_eq_true,if_false,← hL,YI,YJ,Xx]
          rfl
        have hci := Array.getElem?_eq_getElem Mh
        by_cases fF : i < (if O.isEmpty then #[none] else #[] : Array (Option MapEntry)).size
        · have F4 : O.isEmpty = true := by
            by_cases F4 : O.isEmpty = true
            · exact F4
            · rw [if_neg F4] at fF; simp at fF
          rw [if_pos F4] at fF
          have vY : i = 0 := by simp at fF; omega
          subst vY
          have hold : sd br seen since = [] := by rw [U8] at F4; exact List.isEmpty_iff.1 F4
          refine ⟨_, w1, _, cO (R := Result.ok (Value.tuple #[.bool false]) w1) ?_, s1.put dst (.bT _ _ _ rfl fun i c y hc hy => ?_), v1, Rs hold⟩
          · rw [if_pos F4, Array.getElem?_append_left (by simp)]; rfl
          · match i with
            | 0 => simp at hc hy; subst hc; subst hy; exact .sc _ _
            | i + 1 => simp at hc
        · obtain ⟨j, hj, U9⟩ : ∃ j, j < (O ++ N).size ∧ ((if O.isEmpty then #[none] else #[]) ++ (O ++ N).map some : Array (Option MapEntry))[i]? = some (some ((O ++ N)[j]!)) := by
            refine ⟨i - (if O.isEmpty then #[none] else #[] : Array (Option MapEntry)).size, ?_, ?_⟩
            · have := Mh; simp only [Array.size_append,Array.size_map] at this ⊢; omega
            · rw [Array.getElem?_append_right (by omega), Array.getElem?_map]
              have aB : i - (if O.isEmpty then #[none] else #[] : Array (Option MapEntry)).size < (O ++ N).size := by have := Mh; simp only [Array.size_append,Array.size_map] at this ⊢; omega
              rw [Array.getElem?_eq_getElem aB, getElem!_pos (O ++ N) _ aB]; rfl
          rw [getElem!_pos (O ++ N) _ hj] at U9
          obtain ⟨kb, dG⟩ : ∃ kb, (sd br seen since ++ F2 br seen since)[j]? = some kb := ⟨_, List.getElem?_eq_getElem (by have h1 := Rt.1; simp only [List.length_append,Array.length_toList] at h1; simp only [List.length_append]; simp only [Array.size_append] at hj; exact Nat.lt_of_lt_of_eq hj h1.symm)⟩
          obtain ⟨en, YK, p1, p2, p3⟩ := Rt.get dG
          have Va : (O ++ N)[j] = en := by
            have : (O ++ N).toList[j]? = some en := by rw [Array.toList_append]; exact YK
            rw [Array.getElem?_toList, Array.getElem?_eq_getElem hj] at this
            simpa using this
          rw [Va] at U9
          have Qz : w1.heap[g]? = some (.mapIter (some gm) since seen.toArray last) := by rw [jr]; exact hh
          have n5 : iw E { w1 with heap := w1.heap.setIfInBounds g (.mapIter (some gm) since (seen.toArray.push en.born) clock) } b (.eo m since (seen ++ [kb.2.1]) clock) := by
            refine ⟨g, gm, 0, 0, hb, Jb, ?_, hf⟩
            rw [heap_set Qz, p2]; simp
          obtain ⟨q1, q2⟩ := s1.xM hB rfl (B' := .eo m since (seen ++ [kb.2.1]) clock) rfl hb hf lu n5
          refine ⟨.tuple #[.bool true, en.key, en.val], _, _, cO ?_, q1.put dst (DX p1 p3), v1.trans q2, aS kb (List.mem_of_getElem? dG)⟩
          rw [U9]
          have := dO (P := P) (o' := .mapIter (some gm) since (seen.toArray.push en.born) clock) Qz (by simp)
          dsimp only
          rw [Sem.run_bind, this]; rfl
      · exact h.elim
    · rename_i s pos hB
      obtain ⟨rfl, sg⟩ := h
      obtain ⟨g, hb, hh, hf⟩ := hs.mem b _ hB
      cases hi with
      | ptr _ _ _ g' e' c' eP =>
      rw [hb] at eP; cases eP
      have eS : (getObj g).run P w = .ok (.stringIter s pos) w := by simp [getObj, Sem.run, hh]
      split at sg
      · rename_i aB
        obtain ⟨q1, q2⟩ := hs.xM hB rfl (B' := .gX s (pos + (Utf8.decode s pos).2)) rfl hb hf (lu (o := .stringIter s (pos + (Utf8.decode s pos).2))) ⟨g, hb, heap_set hh, hf⟩
        refine ⟨.tuple #[.bool true, goInt pos, .int .i32 (Utf8.decode s pos).1], _, _, ?_, q1.put dst (.bT _ _ _ rfl fun i c y hc hy => ?_), q2, sg⟩
        · have := dO (P := P) (o' := .stringIter s (pos + (Utf8.decode s pos).2)) hh (by simp)
          simp [Instr.next, eS, aB, this]
        · match i with
          | 0 => simp at hc hy; subst hc; subst hy; exact .sc _ _
          | 1 => simp at hc hy; subst hc; subst hy; exact .sc _ _
          | 2 => simp at hc hy; subst hc; subst hy; exact .sc _ _
          | i + 3 => simp at hc
      · rename_i aB
        refine ⟨.tuple #[.bool false], w, _, by simp [Instr.next, eS, aB], hs.put dst (.bT _ _ _ rfl fun i c y hc hy => ?_), dt.refl _ _, sg⟩
        match i with
        | 0 => simp at hc hy; subst hc; subst hy; exact .sc _ _
        | i + 1 => simp at hc
    · rename_i hB
      obtain ⟨rfl, sg⟩ := h
      obtain ⟨g, hb, hh, hf⟩ := hs.mem b _ hB
      cases hi with
      | ptr _ _ _ g' e' c' eP =>
      rw [hb] at eP; cases eP
      have eS : (getObj g).run P w = .ok (.mapIter none 0 #[] 0) w := by simp [getObj, Sem.run, hh]
      refine ⟨.tuple #[.bool false], w, _, by simp [Instr.next, eS], hs.put dst (.bT _ _ _ rfl fun i c y hc hy => ?_), dt.refl _ _, sg⟩
      match i with
      | 0 => simp at hc hy; subst hc; subst hy; exact .sc _ _
      | i + 1 => simp at hc
    · exact h.elim
  · exact h.elim

def jH (P : Program) (mem : List ay) (T : TypeId) (x : V) : Option ay :=
  match x with
  | .mp b => match mem[b]? with
    | some (.map _ clock) => match cY P T with | some _ => some (.eo b clock [] clock) | none => none
    | _ => none
  | .sc (.map none) => match cY P T with | some _ => some .iv | none => none
  | .sc (.string s) => match P.underlying T with | some .string => some (.gX s 0) | _ => none
  | _ => none
theorem Cq {E : Env} {w : World} {a : Act} {st : St} (hs : bd E w a st) (o : Nat) : E.F ⟨w.heap.size, o, none⟩ = none := by
  cases hx : E.F ⟨w.heap.size, o, none⟩ with
  | none => rfl
  | some x => have := World.block_lt_of_cell? w _ (hs.F _ _ hx); simp at this
theorem bd.newObj {E : Env} {w : World} {a : Act} {st : St} (hs : bd E w a st) {key : Nat} (hk : dP st.mem key) {obj : Obj} {B : ay} (hv : B.aC = 0) (hB : iw (E.with key 0 (w.heap.size, 0, 0)) (w.alloc obj) key B) :
    ∃ E', bd E' (w.alloc obj) a { st with mem := bg st.mem key B } ∧ dt E w E' (w.alloc obj) ∧ E'.aK key 0 = some (w.heap.size, 0, 0) := by
  have := hs.new (obj := obj) (B := B) (e := 0) (c := 0) hk hv hB
  exact ⟨_, this.1, this.2, if_pos ⟨rfl, rfl⟩⟩
theorem sh {P : Program} {E : Env} {w : World} {a : Act} {st : St} (hs : bd E w a st) {key : Nat} (hk : dP st.mem key) {T : TypeId} {x : V} {y : Value} {B : ay} (hx : aX E x y) (h : jH P st.mem T x = some B) :
    ∃ E' w', (Instr.range T y).run P w = .ok (.pointer (some ⟨w.heap.size, 0, none⟩)) w' ∧ bd E' w' a { st with mem := bg st.mem key B } ∧ dt E w E' w' ∧ aX E' (.ptr key 0) (.pointer (some ⟨w.heap.size, 0, none⟩)) := by
  have cf : (E.with key 0 (w.heap.size, 0, 0)).aK key 0 = some (w.heap.size, 0, 0) := if_pos ⟨rfl, rfl⟩
  unfold jH at h
  split at h
  · rename_i b
    split at h
    · rename_i br clock hB
      split at h
      · rename_i p hp
        cases h
        obtain ⟨kt, et⟩ := p
        have hd := fe hp
        obtain ⟨g, e, c, rfl, hb⟩ := np hx
        obtain ⟨es, hh, hr, -⟩ := gy hs hB hb
        have bO : b ≠ key := fun e => by subst e; rw [hs.free hk 0] at hb; cases hb
        obtain ⟨E', h1, h2, h3⟩ := hs.newObj hk (obj := .mapIter (some g) clock #[] clock) (B := .eo b clock [] clock) rfl ⟨w.heap.size, g, e, c, cf, (if_neg fun h => bO h.1).trans hb, heap_alloc_new w _, fun o => Cq (E := E) hs o⟩
        exact ⟨E', _, by simp [Instr.range, au hd, ch hh, newObj, Sem.run], h1, h2, .ptr _ _ _ _ 0 0 h3⟩
      · cases h
    · cases h
  · obtain rfl := mb hx
    split at h
    · rename_i p hp
      cases h
      obtain ⟨kt, et⟩ := p
      have hd := fe hp
      obtain ⟨E', h1, h2, h3⟩ := hs.newObj hk (obj := .mapIter none 0 #[] 0) (B := .iv) rfl ⟨w.heap.size, cf, heap_alloc_new w _, fun o => Cq (E := E) hs o⟩
      exact ⟨E', _, by simp [Instr.range, au hd, newObj, Sem.run], h1, h2, .ptr _ _ _ _ 0 0 h3⟩
    · cases h
  · rename_i s
    obtain rfl := mb hx
    split at h
    · rename_i hd
      cases h
      obtain ⟨E', h1, h2, h3⟩ := hs.newObj hk (obj := .stringIter s 0) (B := .gX s 0) rfl ⟨w.heap.size, cf, heap_alloc_new w _, fun o => Cq (E := E) hs o⟩
      exact ⟨E', _, by simp [Instr.range, au hd, newObj, Sem.run], h1, h2, .ptr _ _ _ _ 0 0 h3⟩
    · cases h
  · cases h
theorem uh {P : Program} {E : Env} {w : World} {a : Act} {st : St} (hs : bd E w a st) {key : Nat} (hk : dP st.mem key) (T : TypeId) :
    ∃ E' w', (Instr.makeMap T none).run P w = .ok (.map (some w.heap.size)) w' ∧ bd E' w' a { st with mem := bg st.mem key (.map [] 0) } ∧ dt E w E' w' ∧ aX E' (.mp key) (.map (some w.heap.size)) := by
  have cf : (E.with key 0 (w.heap.size, 0, 0)).aK key 0 = some (w.heap.size, 0, 0) := if_pos ⟨rfl, rfl⟩
  obtain ⟨E', h1, h2, h3⟩ := hs.newObj hk (obj := .map #[] 0) (B := .map [] 0) rfl ⟨w.heap.size, #[], cf, heap_alloc_new w _, ⟨rfl, fun i k e h => by simp at h⟩, fun o => Cq (E := E) hs o⟩
  exact ⟨E', _, by simp [Instr.makeMap, newObj, Sem.run], h1, h2, .mp _ _ _ 0 0 h3⟩
def rA (i : Ti) : V := if i.agg = true then .agg (i.zero.map fun z => kj (.sc z)) else match i.zero with | z :: _ => kj (.sc z) | [] => .undef
def nc (tt : Table) (T : TypeId) (l c : V) : Option (Nat × List V × Nat) :=
  match l, c with
  | .sc (.int _ l), .sc (.int _ c) => match dz tt T with
    | some e => match tt e with
      | some i => if 0 ≤ l ∧ l ≤ c ∧ i.bytes * c ≤ 281474976710656 ∧ c ≤ 1152921504606846976 ∧ 0 < i.size ∧ i.zero.length = i.size ∧ i.zero.all Value.oneCell' = true ∧ (i.agg = true ∨ i.size = 1) then some (i.size, List.replicate l.toNat (rA i), c.toNat) else none
      | none => none
    | none => none
  | _, _ => none
theorem ui {i : Ti} (h : i.agg = true ∨ i.size = 1) (hz : i.zero.length = i.size) : (rA i).cells = i.zero.map fun z => kj (.sc z) := by
  unfold rA
  split
  · rfl
  · rename_i hn
    have h1 : i.size = 1 := by rcases h with h | h
                               · exact absurd h hn
                               · exact h
    match Rv : i.zero with
    | [] => rw [Rv] at hz; simp at hz; omega
    | [z] => simp only [List.map_cons,List.map_nil]; unfold kj; split <;> rfl
    | _ :: _ :: _ => rw [Rv] at hz; simp at hz; omega
theorem xT {P : Program} {tt : Table} (ht : TT P tt) {E : Env} {w : World} {a : Act} {st : St} (hs : bd E w a st) {key : Nat} (hk : dP st.mem key) {T : TypeId} {l c : V} {x y : Value} {size cap : Nat} {rs : List V} (hl : aX E l x) (hc : aX E c y)
    (h : nc tt T l c = some (size, rs, cap)) :
    ∃ E' w', (Instr.makeSlice T x y).run P w = .ok (.slice (some ⟨w.heap.size, 0, none⟩) rs.length cap) w' ∧ bd E' w' a { st with mem := bg st.mem key (.rows 0 size rs) } ∧ dt E w E' w' ∧ aX E' (.ms key 0 0 rs.length) (.slice (some ⟨w.heap.size, 0, none⟩) rs.length cap) := by
  unfold nc at h
  split at h
  · rename_i k1 l k2 c
    obtain rfl := mb hl
    obtain rfl := mb hc
    unfold dz at h
    cases hT : tt T with
    | none => rw [hT] at h; simp at h
    | some iT =>
      rw [hT] at h; simp only at h
      cases he : iT.elem with
      | none => rw [he] at h; simp at h
      | some e =>
        rw [he] at h; simp only at h
        cases hE : tt e with
        | none => rw [hE] at h; simp at h
        | some i =>
          rw [hE] at h; simp only at h
          split at h
          · rename_i ou
            obtain ⟨h0, h1, hb, si, iB, DU, kf, JC⟩ := ou
            cases h
            obtain ⟨d, hd, -, lb, -⟩ := ht.desc T iT hT
            obtain rfl := lb e he
            obtain ⟨info, oa, Mf, Rn, z, hz, Rv⟩ := ht.size e i hE
            have Jz : z.cells.size = i.size := by rw [← DU, ← Rv]; simp
            have YL : IntKind.i64.wrap l = l := by rw [IntWalk.i64_in _ (by omega)]
            have YM : IntKind.i64.wrap c = c := by rw [IntWalk.i64_in _ (by omega)]
            obtain ⟨xs, nt⟩ : ∃ xs : Array Value, xs = (Array.range (c.toNat * i.size)).map (z.cells[· % z.cells.size]!) := ⟨_, rfl⟩
            have cO : (Instr.makeSlice T (.int k1 l) (.int k2 c)).run P w = .ok (.slice (some ⟨w.heap.size, 0, none⟩) l.toNat c.toNat) (w.alloc (.cells xs e (0, 0))) := by
              have e0 : (decide (c < 0) || decide ((info.bytes : Int) * c > 2 ^ 48)) = false := by
                rw [Rn]
                simp only [Bool.or_eq_false_iff,decide_eq_false_iff_not]
                exact ⟨by omega, by omega⟩
              have e1 : (decide (l < 0)) = false := by simp; omega
              have e2 : (decide (l > c)) = false := by simp; omega
              have Rw : (zeroValue e).run P (w) = .ok z w := by simp [zeroValue, cL oa, hz]
              simp only [Instr.makeSlice,Sem.run_bind,au hd,Result.andThen_ok,asInt,asIntOf,Sem.run_pure,cL oa,YL,YM,e0,e1,e2,Bool.or_self,Bool.false_eq_true,if_false,run_askRoom,dg oa,Mf]
              by_cases hn : c.toNat * i.size = 0
              · have jF : xs = #[] := by rw [nt, hn]; simp
                have Nu : ∀ f : Nat → Value, Array.map f (Array.range 0) = #[] := fun f => Array.eq_empty_of_size_eq_zero (by simp)
                simp only [hn,if_true,Sem.run_pure,Result.andThen_ok,Nu,jF]
                rfl
              · simp only [hn,if_false,Sem.run_bind,Rw,Result.andThen_ok,Sem.run_pure]
                simp [newRow, nt]
            obtain ⟨E', g1, g2, g3⟩ := hs.oo hk (xs := xs) (rs := List.replicate l.toNat (rA i)) (e := i.size) (c := c.toNat) e (by rw [nt]; simp) (by simp; omega) (fun q row hq => by
              rw [List.getElem?_replicate] at hq
              split at hq
              · rename_i Rr
                cases hq
                have lr := ui JC DU
                refine ⟨by rw [lr]; simpa using DU, fun j cc hj => ?_⟩
                rw [lr, List.getElem?_map, Option.map_eq_some_iff] at hj
                obtain ⟨v, hv, rfl⟩ := hj
                have qq : j < i.size := by rw [← DU]; exact (List.getElem?_eq_some_iff.1 hv).1
                have aB : q * i.size + j < c.toNat * i.size := by
                  have : (q + 1) * i.size ≤ c.toNat * i.size := Nat.mul_le_mul_right _ (by omega)
                  rw [Nat.succ_mul] at this; omega
                have Vb : (q * i.size + j) % i.size = j := by rw [Nat.add_comm, Nat.add_mul_mod_self_right, Nat.mod_eq_of_lt qq]
                refine ⟨v, ?_, List.all_eq_true.1 kf v (List.mem_of_getElem? hv), ov (.sc _ _)⟩
                rw [nt]
                have Xy : z.cells[j]? = some v := by rw [← Array.getElem?_toList, Rv]; exact hv
                have Xz : j < z.cells.size := by omega
                simp only [Array.getElem?_map,Array.getElem?_range,aB,if_true,Option.map_some,Jz,Vb]
                rw [getElem!_pos z.cells j Xz]
                rw [Array.getElem?_eq_getElem Xz] at Xy
                exact Xy
              · cases hq)
            refine ⟨E', _, ?_, g1, g2, ?_⟩
            · simpa using cO
            · simpa using g3
          · cases h
  · cases h
end Go.Eng
end

section
namespace Go.Eng
variable [aG]
open Go.RowKit (Below)
def ja (tt : Table) (mem : List ay) (ts : List TypeId) (s x : V) : Option (Nat × Nat × Nat × Nat × List V × List V) :=
 match s with
 | .ms b v o l => match mem[b]? with
  | some (.rows v' eb rs) => match ts with
   | [t, u] => match dz tt t with
    | some e => match dz tt u with
     | some _ => match tt e with
      | some i =>
       if v' = v ∧ eb = i.size ∧ o + l = rs.length ∧ 0 < i.size ∧ i.bytes ≤ 4096 ∧ i.zero.length = i.size then
        match rowsOf mem i.size x with
        | some xs => if l + xs.length ≤ 34359738368 then some (i.size, b, v, l, rs.drop o, xs) else none
        | none => none
       else none
      | none => none
     | none => none
    | none => none
   | _ => none
  | _ => none
 | _ => none
theorem uj {P : Program} {tt : Table} (ht : TT P tt) {E : Env} {w : World} {a : Act} {st : St} (hs : bd E w a st) {ts : Array TypeId} {ty : TypeId} {s x : V} {y z : Value} {size b v l : Nat} {Ud xs : List V}
  (Cl : aX E s y) (Fx : aX E x z) (h : ja tt st.mem ts.toList s x = some (size, b, v, l, Ud, xs)) :
  ∃ u w' E' o' rs', (Builtin.append_ ts ty #[y, z]).run P w = .ok u w' ∧ rs'.drop o' = Ud ++ xs ∧ o' + (l + xs.length) = rs'.length ∧ bd E' w' a { st with mem := st.mem.set b (.rows (v + 1) size rs') } ∧ dt E w E' w' ∧ aX E' (.ms b (v + 1) o' (l + xs.length)) u := by
 unfold ja at h
 split at h
 ·rename_i b1 v1 o l1
  split at h
  ·rename_i v' eb rs hm
   split at h
   ·rename_i t u U3
    obtain rfl : ts = #[t, u] := by rw [← Array.toArray_toList (xs := ts), U3]
    split at h
    ·rename_i e he
     split at h
     ·rename_i e' Qx
      split at h
      ·rename_i i hE
       split at h
       ·rename_i hc
        obtain ⟨rfl, rfl, Nz, iB, r8, DU⟩ := hc
        split at h
        ·rename_i oc nt
         split at h
         ·rename_i hlen
          simp only [Option.some.injEq,Prod.mk.injEq] at h
          obtain ⟨rfl, rfl, rfl, rfl, rfl, rfl⟩ := h
          have XA : ∀ {t e : TypeId}, dz tt t = some e → P.underlying t = some (.slice e) := fun {t e} he => by
           unfold dz at he
           split at he
           ·rename_i iu hU
            obtain ⟨d, hd, -, lb, -⟩ := ht.desc t iu hU
            rw [hd, lb e he]
           ·simp at he
          have hd := XA he
          have Cm := XA Qx
          obtain ⟨info, oa, Mf, Rn, z0, Nt, FT⟩ := ht.size e i hE
          have Jz : z0.cells.size = info.size := by rw [Mf, ← DU, ← FT]; simp
          rw [← Mf] at nt iB hm ⊢
          rw [← Rn] at r8
          have z7 : bd E w.drew a st := hs.drew
          obtain ⟨xa, xc, rfl, YB, xA, r5, xt⟩ := dQ (P := P) hs Fx nt
          obtain ⟨YC, YD, heq, -, xB, JA, FY⟩ := dQ (P := P) z7 Fx nt
          simp only [Value.slice.injEq] at heq
          obtain ⟨rfl, -, rfl⟩ := heq
          have DV : ∀ dY, dY < l1 + oc.length → Builtin.nextslicecap (l1 + oc.length) dY * info.bytes ≤ 281474976710656 := fun dY aB =>
           growslice_fits aB (Nat.le_trans (Nat.mul_le_mul hlen r8) (by decide))
          have FA : (rs.drop o).length = l1 := by rw [List.length_drop]; omega
          have jq : (rs.drop o ++ oc).length = l1 + oc.length := by rw [List.length_append, FA]
          have cB : ∀ dY, l1 + oc.length ≤ grownCap w (l1 + oc.length) dY e := fun dY => grownCap_ge w (l1 + oc.length) dY e
          have Np : rowsOf st.mem info.size (.ms b1 v' o l1) = some (rs.drop o) := by
           have h1 : o + l1 ≤ rs.length := by omega
           simp [rowsOf, hm, h1]
           rw [List.take_of_length_le (by rw [List.length_drop]; omega)]
          obtain ⟨sa, sc, rfl, jz, A, JB, Co⟩ := dQ (P := P) z7 Cl Np
          rw [FA] at JB Cl ⊢
          have lr : ∀ dY, (A ++ xB ++ Builtin.zeroCells z0.cells (grownCap w (l1 + oc.length) dY e - (l1 + oc.length))).size = grownCap w (l1 + oc.length) dY e * info.size := fun dY => by
           simp only [Array.size_append,size_zeroCells,Jz,Co.1,FY.1,FA,← Nat.add_mul]
           congr 1; have := cB dY; omega
          by_cases ox : l1 + oc.length ≤ sc
          ·rcases vT Cl with ⟨Rf, na⟩ | ⟨g, Uc, c, Xw, YF, na, hb, hl, FL, uD⟩
           ·simp only [Value.slice.injEq] at na
            obtain ⟨rfl, U5, rfl⟩ := na
            have jF : oc = [] := List.length_eq_zero_iff.1 (by omega)
            subst jF
            have Ml : l1 = 0 := by omega
            subst Ml
            have Nu : rs.drop o = [] := List.length_eq_zero_iff.1 FA
            rw [Nu]
            exact ⟨_, w, E, 0, [], er (ty := ty) hd Cm oa xc xa xA r5, rfl, rfl, hs.xP hm, dt.refl E w, .df _ _ _ _⟩
           ·simp only [Value.slice.injEq] at na
            obtain ⟨rfl, -, rfl⟩ := na
            obtain ⟨Xx, Mh, Qy⟩ := uD
            rcases hs.mem b1 _ hm with ⟨-, hn⟩ | ⟨g', T', cur, c', eP, hh, tV, jD, uE, hf⟩
            ·rw [hb] at hn; cases hn
            rw [hb] at eP; cases eP
            by_cases Vc : sc = 0
            ·-- nothing at all
             have jF : oc = [] := List.length_eq_zero_iff.1 (by omega)
             subst jF
             have Ml : l1 = 0 := by omega
             subst Ml
             subst Vc
             have Nu : rs.drop o = [] := List.length_eq_zero_iff.1 FA
             have cO : (Builtin.append_ #[t, u] ty #[.slice sa 0 0, .slice xa 0 xc]).run P w = .ok (.slice sa 0 0) w := by
              cases sa with
              | none => exact er (ty := ty) hd Cm oa xc xa xA r5
              | some ad =>
               have YN : xA.toList = [] := by
                have := xt.1
                simp at this
                simpa using this
               have YO : (Builtin.firstCells info.size 0 (.slice xa 0 xc)).run P w = .ok xA w := r5
               simp [Builtin.append_, au hd, au Cm, dg oa, Builtin.lenOf, YO, YN, storeCells]
             have hle : E.le (E.with b1 (v' + 1) (g, info.size, c)) := Env.gz (hs.aC b1 _ hm _ (Nat.lt_succ_self v')) _
             have cf : (E.with b1 (v' + 1) (g, info.size, c)).aK b1 (v' + 1) = some (g, info.size, c) := if_pos ⟨rfl, rfl⟩
             refine ⟨_, w, E.with b1 (v' + 1) (g, info.size, c), o, rs, cO, by simp [Nu], by omega, hs.renew hm hs.F (Nat.le_refl _) (hs.lt _ _ _ _ _ hb) (fun k B' dG eQ Mi g' e' c' dX => ⟨rfl, fun e => by subst e; exact dG (hs.apart _ _ _ _ _ _ _ _ _ dX hb)⟩) ?_ (fun k v2 e2 c2 h => hs.apart _ _ _ _ _ _ _ _ _ h hb),
              ⟨hle, fun k q g' e' c' dG => ?_, fun ad y hy => .inl hy, rfl, rfl, rfl, Nat.le_refl _, fun _ _ _ => rfl⟩, ?_⟩
             ·exact .inr ⟨g, T', cur, c, cf, hh, tV, jD, fun q row hq => let ⟨h3, h4⟩ := uE q row hq; ⟨h3, fun j cc hj => let ⟨v, hv, z6, DW⟩ := h4 j cc hj; ⟨v, hv, z6, DW.mono (Env.fA hle)⟩⟩, hf⟩
             ·by_cases hq : k = b1 ∧ q = v' + 1
              ·obtain ⟨rfl, rfl⟩ := hq; rw [cf] at dG; cases dG; exact .inl ⟨_, _, _, _, hb⟩
              ·have : (E.with b1 (v' + 1) (g, info.size, c)).aK k q = E.aK k q := if_neg hq
               rw [this] at dG; exact .inl ⟨_, _, _, _, dG⟩
             ·exact .ms _ _ _ _ _ g info.size c _ _ cf (fun h => absurd h (by simp)) (fun h => FL h) ⟨by simp, Mh, fun h => absurd h (Nat.lt_irrefl _)⟩
            ·obtain rfl := Qy (by omega)
             have r9 : rs.length * info.size + xA.toList.length ≤ cur.size := by
              have := xt.1
              simp only [Array.length_toList]
              rw [this, tV, ← Nat.add_mul]; exact Nat.mul_le_mul_right _ (by omega)
             obtain ⟨w', gG, Jd, vU⟩ := ff (P := P) (g := g) (T := T') (rs.length * info.size) xA.toList 0 w cur hh (by simpa using r9) (qx iB xt)
             have cO : (Builtin.append_ #[t, u] ty #[.slice (some ⟨g, o * info.size, none⟩) l1 sc, .slice xa oc.length xc]).run P w = .ok (.slice (some ⟨g, o * info.size, none⟩) (l1 + oc.length) sc) w' := by
              have NA : (storeCells (Addr.add ⟨g, o * info.size, none⟩ (l1 * info.size)) xA.toList).run P w = .ok () w' := by
               rw [add_lit, ← Nat.add_mul, Nz]; exact gG
              simp [Builtin.append_, au hd, au Cm, dg oa, Builtin.lenOf, ox, r5, NA]
             have hle : E.le (E.with b1 (v' + 1) (g, info.size, c)) := Env.gz (hs.aC b1 _ hm _ (Nat.lt_succ_self v')) _
             have cf : (E.with b1 (v' + 1) (g, info.size, c)).aK b1 (v' + 1) = some (g, info.size, c) := if_pos ⟨rfl, rfl⟩
             refine ⟨_, w', E.with b1 (v' + 1) (g, info.size, c), o, rs ++ oc, cO, by rw [List.drop_append_of_le_length (by omega)], by rw [List.length_append]; omega, hs.renew hm (fun ad y hy => ?_) (by rw [vU.size]; exact Nat.le_refl _) (by rw [vU.size]; exact hs.lt _ _ _ _ _ hb) (fun k B' dG eQ Mi g' e' c' dX => ?_) ?_ (fun k v2 e2 c2 h => hs.apart _ _ _ _ _ _ _ _ _ h hb),
              ⟨hle, fun k q g' e' c' dG => ?_, fun ad y hy => .inl hy, vU.os, vU.tape, vU.output, by rw [vU.size]; exact Nat.le_refl _, fun b' eP bO => vU.heap b' fun e => by subst e; exact bO _ _ _ _ hb⟩, ?_⟩
             ·have bO := hs.vO hf hy
              rw [← hs.F ad y hy]; simp [World.cell?, vU.heap _ bO]
             ·have Rp : g' ≠ g := fun e => by
               subst e
               exact dG (hs.apart _ _ _ _ _ _ _ _ _ dX hb)
              exact ⟨vU.heap _ Rp, Rp⟩
             ·refine .inr ⟨g, T', _, c, cf, Jd, by rw [fG]; exact tV, by rw [List.length_append]; omega, ?_, hf⟩
              intro q row hq
              simp only [Nat.add_zero]
              have xQ : xA.toList.length = oc.length * info.size := by simpa using xt.1
              rw [List.getElem?_append] at hq
              split at hq
              ·rename_i aB
               obtain ⟨h3, h4⟩ := uE q row hq
               refine ⟨h3, fun j cc hj => ?_⟩
               obtain ⟨v, hv, z6, DW⟩ := h4 j cc hj
               have qq : j < info.size := by rw [← h3]; exact (List.getElem?_eq_some_iff.1 hj).1
               refine ⟨v, ?_, z6, DW⟩
               rw [eC _ _ _ _ r9, if_neg (by have := rY aB qq; omega)]
               exact hv
              ·rename_i U7
               obtain ⟨h3, h4⟩ := xt.2 _ row hq
               refine ⟨h3, fun j cc hj => ?_⟩
               obtain ⟨v, hv, z6, DW⟩ := h4 j cc hj
               have qq : j < info.size := by rw [← h3]; exact (List.getElem?_eq_some_iff.1 hj).1
               have Rr : q - rs.length < oc.length := (List.getElem?_eq_some_iff.1 hq).1
               have hmul : q * info.size = rs.length * info.size + (q - rs.length) * info.size := by rw [← Nat.add_mul]; congr 1; omega
               refine ⟨v, ?_, z6, DW⟩
               rw [eC _ _ _ _ r9, if_pos (by have := rY Rr qq; omega)]
               dsimp only at hv
               rw [← hv, Array.getElem?_toList]
               congr 1; omega
             ·by_cases hq : k = b1 ∧ q = v' + 1
              ·obtain ⟨rfl, rfl⟩ := hq; rw [cf] at dG; cases dG; exact .inl ⟨_, _, _, _, hb⟩
              ·have : (E.with b1 (v' + 1) (g, info.size, c)).aK k q = E.aK k q := if_neg hq
               rw [this] at dG; exact .inl ⟨_, _, _, _, dG⟩
             ·exact .ms _ _ _ _ _ g info.size c _ _ cf (fun _ => rfl) (fun h => FL h) ⟨ox, Mh, fun _ => rfl⟩
          ·-- a new block
           have aB : sc < l1 + oc.length := by omega
           have cO := fI (ty := ty) hd Cm oa Nt sa l1 sc oc.length xc xa A xB JB JA aB (by omega) (DV sc aB)
           have hle : E.le (E.with b1 (v' + 1) (w.heap.size, info.size, grownCap w (l1 + oc.length) sc e)) := Env.gz (hs.aC b1 _ hm _ (Nat.lt_succ_self v')) _
           have cf : (E.with b1 (v' + 1) (w.heap.size, info.size, grownCap w (l1 + oc.length) sc e)).aK b1 (v' + 1) = some (w.heap.size, info.size, grownCap w (l1 + oc.length) sc e) := if_pos ⟨rfl, rfl⟩
           refine ⟨_, _, E.with b1 (v' + 1) (w.heap.size, info.size, grownCap w (l1 + oc.length) sc e), 0, rs.drop o ++ oc, cO, rfl, by rw [jq]; omega, hs.renew hm (fun ad y hy => ?_) (by simp) (by simp) (fun k B' dG eQ Mi g' e' c' dX => ?_) ?_ (fun k v2 e2 c2 h => absurd (hs.lt _ _ _ _ _ h) (Nat.lt_irrefl _)),
            ⟨hle, fun k q g' e' c' dG => ?_, fun ad y hy => .inl hy, rfl, rfl, rfl, by simp, fun b' eP bO => Go.RowKit.Below.heap_alloc w.drew _ b' eP⟩, ?_⟩
           ·rw [World.cell?_alloc_lt w.drew _ ad (World.block_lt_of_cell? w ad (hs.F ad y hy))]; exact hs.F ad y hy
           ·have := hs.lt _ _ _ _ _ dX
            exact ⟨Go.RowKit.Below.heap_alloc w.drew _ g' this, by omega⟩
           ·refine .inr ⟨w.heap.size, e, _, _, cf, heap_alloc_new w.drew _, lr sc, by rw [jq]; exact cB sc, ?_, fun o => ?_⟩
            ·intro q row hq
             obtain ⟨h3, h4⟩ := gA (C := Builtin.zeroCells z0.cells (grownCap w (l1 + oc.length) sc e - (l1 + oc.length))) Co FY q row hq
             exact ⟨h3, fun j cc hj => let ⟨v, hv, z6, DW⟩ := h4 j cc hj; ⟨v, hv, z6, DW.mono (Env.fA hle)⟩⟩
            ·show E.F _ = none
             cases hx : E.F ⟨w.heap.size, o, none⟩ with
             | none => rfl
             | some x => have := World.block_lt_of_cell? w _ (hs.F _ _ hx); simp at this
           ·by_cases hq : k = b1 ∧ q = v' + 1
            ·obtain ⟨rfl, rfl⟩ := hq; rw [cf] at dG; cases dG; exact .inr (Nat.le_refl _)
            ·have : (E.with b1 (v' + 1) (w.heap.size, info.size, grownCap w (l1 + oc.length) sc e)).aK k q = E.aK k q := if_neg hq
             rw [this] at dG; exact .inl ⟨_, _, _, _, dG⟩
           ·exact .ms _ _ _ _ _ w.heap.size info.size _ _ _ cf (fun _ => by simp) (fun _ => ⟨rfl, rfl⟩) ⟨cB sc, Nat.zero_add _, fun _ => by simp⟩
         ·simp at h
        ·simp at h
       ·simp at h
      ·simp at h
     ·simp at h
    ·simp at h
   ·simp at h
  ·simp at h
 ·simp at h
end Go.Eng
end

section
namespace Go.Eng
variable [aG]
open Go.RowKit (Below)

def bD (mem : List ay) : V → Option V
  | .undef => some .undef
  | .sc v => some (kj (.sc v))
  | .slice rows => some (.slice rows)
  | .full rows => some (.slice rows)
  | .cn cs => some (.cn cs)
  | .gn => some .gn
  | .ms b v s l => match mem[b]? with
    | some (.rows v' _ rs) => if v' = v ∧ s + l ≤ rs.length then some (.slice ((rs.drop s).take l)) else none
    | some (.mJ v' _ rs) => if v' = v ∧ s + l ≤ rs.length then some (.slice ((rs.drop s).take l)) else none
    | _ => none
  | .fS f [] [] => some (.sc (.func f #[] #[]))
  | _ => none
def dj (mem : List ay) : List V → Option (List V)
  | [] => some []
  | c :: r => match bD mem c with
    | some c' => match dj mem r with | some r' => some (c' :: r') | none => none
    | none => none
def eA (mem : List ay) : V → Option V
  | .agg cs => match dj mem cs with | some l => some (.agg l) | none => none
  | v => bD mem v
def cD (mem : List ay) : List V → Option (List V)
  | [] => some []
  | c :: r => match eA mem c with
    | some c' => match cD mem r with | some r' => some (c' :: r') | none => none
    | none => none
def Cr (mem : List ay) : V → Option V
  | .bT vs => match cD mem vs with | some l => some (.bT l) | none => none
  | v => eA mem v

def eu : V → List (Nat × Nat)
  | .ms b v _ _ => [(b, v)]
  | _ => []
def cr : V → List (Nat × Nat)
  | .agg cs => cs.flatMap eu
  | v => eu v
def refs : V → List (Nat × Nat)
  | .bT vs => vs.flatMap cr
  | v => cr v

def Env.kc (E : Env) (w : World) (keys : List (Nat × Nat)) : Env :=
  { F := fun ad => match E.F ad with
      | some x => some x
      | none => if keys.any (fun k => match E.aK k.1 k.2 with | some (g, _, _) => g == ad.block | none => false) then w.cell? ad else none
    aK := E.aK
    gl := E.gl.mono fun ad x h => by simp only [h] }
theorem Env.pC (E : Env) (w : World) (keys : List (Nat × Nat)) : E.le (E.kc w keys) := ⟨fun ad x h => by simp [Env.kc, h], fun _ _ _ h => h⟩
theorem Env.Cs {E : Env} {w : World} {keys : List (Nat × Nat)} (hF : ∀ ad x, E.F ad = some x → w.cell? ad = some x) {ad : Addr} {x : Value} (h : (E.kc w keys).F ad = some x) : w.cell? ad = some x := by
  unfold Env.kc at h
  dsimp only at h
  split at h
  · rename_i y hy; cases h; exact hF _ _ hy
  · split at h
    · exact h
    · cases h
theorem Env.vZ {E : Env} {w : World} {keys : List (Nat × Nat)} {ad : Addr} {x : Value} (h : (E.kc w keys).F ad = some x) : E.F ad = some x ∨ ∃ k ∈ keys, ∃ e c, E.aK k.1 k.2 = some (ad.block, e, c) := by
  unfold Env.kc at h
  dsimp only at h
  split at h
  · rename_i y hy; cases h; exact .inl hy
  · split at h
    · rename_i NB
      obtain ⟨k, hk, hm⟩ := List.any_eq_true.1 NB
      split at hm
      · rename_i g e c hb
        simp only [beq_iff_eq] at hm; subst hm
        exact .inr ⟨k, hk, e, c, hb⟩
      · cases hm
    · cases h
theorem Env.NC {E : Env} {w : World} {keys : List (Nat × Nat)} {k v g e c : Nat} (hk : (k, v) ∈ keys) (hb : E.aK k v = some (g, e, c)) {o : Nat} {x : Value} (hn : E.F ⟨g, o, none⟩ = none) (hx : w.cell? ⟨g, o, none⟩ = some x) : (E.kc w keys).F ⟨g, o, none⟩ = some x := by
  have : keys.any (fun k => match E.aK k.1 k.2 with | some (g', _, _) => g' == g | none => false) = true := List.any_eq_true.2 ⟨(k, v), hk, by simp [hb]⟩
  unfold Env.kc
  dsimp only
  rw [hn]
  dsimp only
  rw [if_pos this]; exact hx

theorem xU {E : Env} {w : World} {a : Act} {st : St} (hs : bd E w a st) {keys : List (Nat × Nat)} {k v g e c : Nat} (hk : (k, v) ∈ keys) (hb : E.aK k v = some (g, e, c)) {B : ay} (hm : st.mem[k]? = some B) {rs : List V} {e' : Nat}
    (hB : B = .rows v e' rs ∨ B = .mJ v e' rs) : e' = e ∧ rs.length ≤ c ∧ fE E.pure e rs (fun o => (E.kc w keys).F ⟨g, o, none⟩) := by
  rcases hB with rfl | rfl
  · rcases hs.mem k _ hm with ⟨-, hn⟩ | ⟨g', T, xs, c', eP, hh, ka, hl, hr, hf⟩
    · rw [hb] at hn; cases hn
    · rw [hb] at eP; cases eP
      refine ⟨rfl, hl, fun i row hi => ?_⟩
      obtain ⟨h1, h2⟩ := hr i row hi
      exact ⟨h1, fun j cc hj => let ⟨x, hx, h⟩ := h2 j cc hj; ⟨x, Env.NC hk hb (hf _) (by rw [iW hh]; exact hx), h⟩⟩
  · rcases hs.mem k _ hm with ⟨-, hn⟩ | ⟨g', c', eP, hl, hr⟩
    · rw [hb] at hn; cases hn
    rw [hb] at eP; cases eP
    refine ⟨rfl, hl, fun i row hi => ?_⟩
    obtain ⟨h1, h2⟩ := hr i row hi
    exact ⟨h1, fun j cc hj => let ⟨x, hx, h⟩ := h2 j cc hj; ⟨x, (Env.pC E w keys).F _ _ hx, h⟩⟩

theorem js {E : Env} {w : World} {a : Act} {st : St} (hs : bd E w a st) {keys : List (Nat × Nat)} {v v' : V} {x : Value} (hr : aX E v x) (h : bD st.mem v = some v') (hk : ∀ k ∈ eu v, k ∈ keys) : aX (E.kc w keys).pure v' x := by
  have hle := Env.fA (Env.pC E w keys)
  have zZ : ∀ {b v s l : Nat} {B : ay} {rs : List V} {e' : Nat}, aX E (.ms b v s l) x → (b, v) ∈ keys → st.mem[b]? = some B → (B = .rows v e' rs ∨ B = .mJ v e' rs) → s + l ≤ rs.length → aX (E.kc w keys).pure (.slice ((rs.drop s).take l)) x := by
    intro b v s l B rs e' hr dX hm hB hl
    have hlen : ((rs.drop s).take l).length = l := by simp; omega
    rcases vT hr with ⟨rfl, rfl⟩ | ⟨g, e, c, aa, cap, rfl, hb, Ml, -, QA⟩
    · rw [show (rs.drop s).take 0 = [] from by simp]
      exact .slice _ [] none 0 0 default (fun _ _ => default) (by simp) (by simp) (by simp) (by simp) (by simp) (by simp)
    · obtain ⟨rfl, jq, Rj⟩ := xU hs dX hb hm hB
      have eS : ∀ (i : Nat) (row : V) (j : Nat) (cc : V), ((rs.drop s).take l)[i]? = some row → row.cells[j]? = some cc → ∃ y, (E.kc w keys).F ⟨g, (s + i) * e' + j, none⟩ = some y ∧ y.oneCell' = true ∧ aX E.pure cc y := fun i row j cc hi hj =>
        (Rj _ _ (rz hi)).2 j cc hj
      let xf : Nat → Nat → Value := fun i j => ((E.kc w keys).F ⟨g, (s + i) * e' + j, none⟩).getD default
      have xD : aX (E.kc w keys).pure (.slice ((rs.drop s).take l)) (.slice aa ((rs.drop s).take l).length cap) := by
        refine .slice _ _ _ _ e' ⟨g, s * e', none⟩ xf (fun bO => Ml ?_) (by rw [hlen]; exact QA.1) (fun i row hi => (Rj _ _ (rz hi)).1) (fun i row j cc hi hj => ?_) (fun i row j cc hi hj => ?_) fun i row j cc hi hj => ?_
        · have : ((rs.drop s).take l).length ≠ 0 := fun h0 => bO (List.length_eq_zero_iff.1 h0)
          omega
        · obtain ⟨y, hy, -⟩ := eS i row j cc hi hj
          have Nw : s * e' + (i * e' + j) = (s + i) * e' + j := by rw [Nat.add_mul]; omega
          rw [add_lit, Nw]
          show (E.kc w keys).F _ = some (xf i j)
          simp [xf, hy]
        · obtain ⟨y, hy, h1, -⟩ := eS i row j cc hi hj
          simp [xf, hy, h1]
        · obtain ⟨y, hy, -, h2⟩ := eS i row j cc hi hj
          have : xf i j = y := by simp [xf, hy]
          rw [this]; exact h2.mono hle
      rw [hlen] at xD; exact xD
  unfold bD at h
  split at h
  · simp only [Option.some.injEq] at h; subst h; exact .undef _ _
  · simp only [Option.some.injEq] at h; subst h; exact ov (by rw [b9 hr]; exact .sc _ _)
  · simp only [Option.some.injEq] at h; subst h
    cases hr with
    | slice _ _ a cap nn ad xf ha hD hz hF h1 hR => exact (aX.slice E.pure _ a cap nn ad xf ha hD hz hF h1 hR).mono hle
  · simp only [Option.some.injEq] at h; subst h
    cases hr with
    | full _ _ a h =>
    cases h with
    | slice _ _ a cap nn ad xf ha hD hz hF h1 hR => exact (aX.slice E.pure _ a _ nn ad xf ha (Nat.le_refl _) hz hF h1 hR).mono hle
  · simp only [Option.some.injEq] at h; subst h
    cases hr with
    | cn _ _ ad xf hF hR => exact (aX.cn E.pure _ ad xf hF hR).mono hle
  · simp only [Option.some.injEq] at h; subst h
    cases hr with
    | gn => exact .gn _
  · rename_i b v s l
    have dX : (b, v) ∈ keys := hk (b, v) (by simp [eu])
    split at h
    · rename_i v' e rs hm
      split at h
      · rename_i hl; obtain ⟨rfl, hl⟩ := hl; simp only [Option.some.injEq] at h; subst h; exact zZ hr dX hm (.inl rfl) hl
      · cases h
    · rename_i v' e rs hm
      split at h
      · rename_i hl; obtain ⟨rfl, hl⟩ := hl; simp only [Option.some.injEq] at h; subst h; exact zZ hr dX hm (.inr rfl) hl
      · cases h
    · cases h
  · simp only [Option.some.injEq] at h; subst h
    cases hr with
    | fS _ f _ _ xs ys hx hy h1 h2 =>
      have e1 : xs = #[] := by simpa using hx.symm
      have e2 : ys = #[] := by simpa using hy.symm
      subst e1; subst e2; exact .sc _ _
  · cases h

theorem lv {E : Env} {w : World} {a : Act} {st : St} (hs : bd E w a st) {keys : List (Nat × Nat)} : ∀ {vs vs' : List V} {xs : List Value}, aQ E vs xs → dj st.mem vs = some vs' → (∀ k ∈ vs.flatMap eu, k ∈ keys) →
    aQ (E.kc w keys).pure vs' xs
  | [], vs', xs, hr, h, _ => by simp [dj] at h; subst h; rw [hr.of_nil]; exact .nil _
  | v :: vs, vs', xs, hr, h, hk => by
    obtain ⟨x, ys, rfl, h1, h2⟩ := hr.of_cons
    simp only [dj] at h
    split at h
    · rename_i c' hc
      split at h
      · rename_i r' tX
        simp only [Option.some.injEq] at h; subst h
        exact .cons (js hs h1 hc fun k eQ => hk k (by simp [eQ])) (lv hs h2 tX fun k eQ => hk k (by simp at eQ ⊢; exact .inr eQ))
      · cases h
    · cases h

theorem sj {E : Env} {w : World} {a : Act} {st : St} (hs : bd E w a st) {keys : List (Nat × Nat)} {v v' : V} {x : Value} (hr : aX E v x) (h : eA st.mem v = some v') (hk : ∀ k ∈ cr v, k ∈ keys) : aX (E.kc w keys).pure v' x := by
  unfold eA at h
  split at h
  · split at h
    · rename_i cs l hl
      simp only [Option.some.injEq] at h; subst h
      cases hr with
      | agg _ _ xs hlen hh =>
        have := lv hs (xs := xs.toList) ⟨by simpa using hlen, fun i c x hc hx => hh i c x hc (by simpa using hx)⟩ hl (by simpa [cr] using hk)
        exact .agg _ _ _ (by simpa using this.1) fun i c x hc hx => this.2 i c x hc (by simpa using hx)
    · cases h
  · rename_i bO
    refine js hs hr h fun k eQ => hk k ?_
    cases v <;> first | exact eQ | exact absurd rfl (bO _)
theorem fZ {E : Env} {w : World} {a : Act} {st : St} (hs : bd E w a st) {keys : List (Nat × Nat)} : ∀ {vs vs' : List V} {xs : List Value}, aQ E vs xs → cD st.mem vs = some vs' → (∀ k ∈ vs.flatMap cr, k ∈ keys) →
    aQ (E.kc w keys).pure vs' xs
  | [], vs', xs, hr, h, _ => by simp [cD] at h; subst h; rw [hr.of_nil]; exact .nil _
  | v :: vs, vs', xs, hr, h, hk => by
    obtain ⟨x, ys, rfl, h1, h2⟩ := hr.of_cons
    simp only [cD] at h
    split at h
    · rename_i c' hc
      split at h
      · rename_i r' tX
        simp only [Option.some.injEq] at h; subst h
        exact .cons (sj hs h1 hc fun k eQ => hk k (by simp [eQ])) (fZ hs h2 tX fun k eQ => hk k (by simp at eQ ⊢; exact .inr eQ))
      · cases h
    · cases h
theorem uJ {E : Env} {w : World} {a : Act} {st : St} (hs : bd E w a st) {keys : List (Nat × Nat)} {v v' : V} {x : Value} (hr : aX E v x) (h : Cr st.mem v = some v') (hk : ∀ k ∈ refs v, k ∈ keys) : aX (E.kc w keys).pure v' x := by
  unfold Cr at h
  split at h
  · split at h
    · rename_i vs l hl
      simp only [Option.some.injEq] at h; subst h
      cases hr with
      | bT _ _ xs hlen hh =>
        have := fZ hs (xs := xs.toList) ⟨by simpa using hlen, fun i c x hc hx => hh i c x hc (by simpa using hx)⟩ hl (by simpa [refs] using hk)
        exact .bT _ _ _ (by simpa using this.1) fun i c x hc hx => this.2 i c x hc (by simpa using hx)
    · cases h
  · rename_i bO
    refine sj hs hr h fun k eQ => hk k ?_
    cases v <;> first | exact eQ | exact absurd rfl (bO _)

def aP (P : Program) (f : FuncId) (args : List V) (r : V) : Prop :=
  (∀ (xs : Array Value) (w : World), (callFunc f xs).run P w = .ok (.enter f xs) w) ∧
  ∀ (F : Addr → Option Value) (hg : Gl F) (w : World) (xs : Array Value), (∀ ad x, F ad = some x → w.cell? ad = some x) → aQ ⟨F, fun _ _ => none, hg⟩ args xs.toList →
    Calls P f xs w fun e w' => ∃ F' x, e = .returned x ∧ (∀ ad y, F ad = some y → F' ad = some y) ∧ (∀ ad y, F' ad = some y → w'.cell? ad = some y) ∧ (∀ ad y, F' ad = some y → F ad = some y ∨ w.heap.size ≤ ad.block) ∧
      (∃ JD, aX ⟨F', fun _ _ => none, JD⟩ r x) ∧ Below w.heap.size w w'

def xV : V → Bool
  | .undef => true
  | .sc _ => true
  | .agg cs => cs.all (fun c => match c with | .sc _ => true | _ => false)
  | _ => false
def F5 : V → Bool
  | .bT vs => vs.all xV
  | v => xV v

theorem uK {E E' : Env} {v : V} {x : Value} (h : aX E v x) (hf : xV v = true) : aX E' v x := by
  cases h with
  | undef => exact .undef _ _
  | sc => exact .sc _ _
  | agg _ cs xs hl hh =>
    refine .agg _ _ _ hl fun i c x hc hx => ?_
    have h1 := hh i c x hc hx
    simp only [xV,List.all_eq_true] at hf
    have := hf c (List.mem_of_getElem? hc)
    cases c <;> simp at this
    rw [b9 h1]; exact .sc _ _
  | _ => simp [xV] at hf
theorem DY {E E' : Env} {v : V} {x : Value} (h : aX E v x) (hf : F5 v = true) : aX E' v x := by
  unfold F5 at hf
  split at hf
  · cases h with
    | bT _ vs xs hl hh =>
      refine .bT _ _ _ hl fun i c x hc hx => uK (hh i c x hc hx) ?_
      simp only [List.all_eq_true] at hf
      exact hf c (List.mem_of_getElem? hc)
  · exact uK h hf

def sk (mem : List ay) (k : Nat × Nat) : List ay := match mem[k.1]? with | some (.rows v e rs) => if v = k.2 then mem.set k.1 (.mJ v e rs) else mem | _ => mem
def bY (mem : List ay) (keys : List (Nat × Nat)) : List ay := keys.foldl sk mem

def jb (keys : List (Nat × Nat)) (q : Nat) : Option ay → Option ay
  | some (.rows v e rs) => if (q, v) ∈ keys then some (.mJ v e rs) else some (.rows v e rs)
  | B => B
theorem xW (mem : List ay) (k : Nat × Nat) (q : Nat) : (sk mem k)[q]? = jb [k] q mem[q]? := by
  obtain ⟨k, kv⟩ := k
  unfold sk
  dsimp only
  split
  · rename_i v e rs hk
    split
    · rename_i hv
      subst hv
      rw [List.getElem?_set]
      by_cases hq : k = q
      · subst hq
        rw [hk]
        simp [jb, (List.getElem?_eq_some_iff.1 hk).1]
      · rw [if_neg hq]
        have Jf : ¬ q = k := fun e => hq e.symm
        cases hB : mem[q]? with
        | none => rfl
        | some B => cases B <;> simp [jb, Jf]
    · rename_i hv
      cases hB : mem[q]? with
      | none => rfl
      | some B =>
        cases B <;> first | rfl | skip
        rename_i v' e' rs'
        simp only [jb,List.mem_singleton,Prod.mk.injEq]
        rw [if_neg]
        rintro ⟨rfl, rfl⟩
        rw [hk] at hB; cases hB; exact hv rfl
  · rename_i hk
    cases hB : mem[q]? with
    | none => rfl
    | some B =>
      cases B <;> first | rfl | skip
      rename_i v e rs
      simp only [jb,List.mem_singleton,Prod.mk.injEq]
      rw [if_neg]
      rintro ⟨rfl, rfl⟩
      exact hk _ _ _ hB
theorem km (keys : List (Nat × Nat)) : ∀ (mem : List ay) (q : Nat), (bY mem keys)[q]? = jb keys q mem[q]? := by
  induction keys with
  | nil => intro mem q; simp only [bY,List.foldl_nil]; cases hB : mem[q]? with | none => rfl | some B => cases B <;> simp [jb]
  | cons k r ih =>
    intro mem q
    show (bY (sk mem k) r)[q]? = _
    rw [ih, xW]
    cases hB : mem[q]? with
    | none => rfl
    | some B =>
      cases B <;> first | rfl | skip
      rename_i v e rs
      simp only [jb,List.mem_cons,List.not_mem_nil,or_false]
      by_cases hq : (q, v) = k
      · rw [if_pos hq, if_pos (.inl hq)]
      · rw [if_neg hq]
        by_cases hr : (q, v) ∈ r
        · rw [if_pos (.inr hr)]; simp [hr]
        · rw [if_neg (fun h => h.elim hq hr)]; simp [hr]
theorem nd (keys : List (Nat × Nat)) : ∀ (mem : List ay), (bY mem keys).length = mem.length := by
  induction keys with
  | nil => intro mem; rfl
  | cons k r ih =>
    intro mem
    show (bY (sk mem k) r).length = _
    rw [ih]; unfold sk
    split
    · split <;> simp
    · rfl

def cP (mem : List ay) (keys : List (Nat × Nat)) (r : V) : List ay := if F5 r = true then mem else bY mem keys

theorem DZ {mem : List ay} {k : Nat × Nat} : ∀ {us Mm : List V}, cD mem us = some Mm → k ∈ us.flatMap cr → ∃ B, mem[k.1]? = some B ∧ B.aC = k.2 ∧ ∃ e rs, B = .rows k.2 e rs ∨ B = .mJ k.2 e rs := by
  have Mn : ∀ (cs mZ : List V), dj mem cs = some mZ → k ∈ cs.flatMap eu → ∃ B, mem[k.1]? = some B ∧ B.aC = k.2 ∧ ∃ e rs, B = .rows k.2 e rs ∨ B = .mJ k.2 e rs := by
    intro cs
    induction cs with
    | nil => intro mZ _ hm; simp at hm
    | cons c r ih =>
      intro mZ hp hm
      simp only [dj] at hp
      split at hp
      · rename_i c' hc
        split at hp
        · rename_i r' hr
          simp only [List.flatMap_cons,List.mem_append] at hm
          rcases hm with hm | hm
          · cases c <;> simp only [eu,List.mem_singleton,List.not_mem_nil] at hm
            subst hm
            simp only [bD] at hc
            split at hc
            · rename_i h
              split at hc
              · rename_i hv; obtain ⟨rfl, -⟩ := hv; exact ⟨_, h, rfl, _, _, .inl rfl⟩
              · cases hc
            · rename_i h
              split at hc
              · rename_i hv; obtain ⟨rfl, -⟩ := hv; exact ⟨_, h, rfl, _, _, .inr rfl⟩
              · cases hc
            · cases hc
          · exact ih _ hr hm
        · cases hp
      · cases hp
  intro us
  induction us with
  | nil => intro Mm _ hm; simp at hm
  | cons c r ih =>
    intro Mm hp hm
    simp only [cD] at hp
    split at hp
    · rename_i c' hc
      split at hp
      · rename_i r' hr
        simp only [List.flatMap_cons,List.mem_append] at hm
        rcases hm with hm | hm
        · unfold eA at hc
          split at hc
          · split at hc
            · rename_i l hl; exact Mn _ _ hl hm
            · cases hc
          · rename_i bO
            refine Mn [c] [c'] (by simp [dj, hc]) ?_
            simp only [List.flatMap_cons,List.flatMap_nil,List.append_nil]
            cases c <;> first | exact hm | exact absurd rfl (bO _)
        · exact ih hr hm
      · cases hp
    · cases hp

theorem sm {E : Env} {w w' : World} {a : Act} {st : St} (hs : bd E w a st) {vs vs' : List V} (hp : cD st.mem vs = some vs') {F' : Addr → Option Value} (Ao : ∀ ad y, (E.kc w (vs.flatMap cr)).F ad = some y → F' ad = some y)
    (ei : ∀ ad y, F' ad = some y → w'.cell? ad = some y) (Ue : ∀ ad y, F' ad = some y → (E.kc w (vs.flatMap cr)).F ad = some y ∨ w.heap.size ≤ ad.block) (hb : Below w.heap.size w w') :
    ∃ hg, dt E w ⟨F', E.aK, hg⟩ w' ∧ bd ⟨F', E.aK, hg⟩ w' a { st with mem := bY st.mem (vs.flatMap cr) } := by
  have hg : Gl F' := E.gl.mono fun ad x h => Ao _ _ ((Env.pC E w _).F _ _ h)
  refine ⟨hg, ?_⟩
  have hle : E.le ⟨F', E.aK, hg⟩ := ⟨fun ad y hy => Ao _ _ ((Env.pC E w _).F _ _ hy), fun _ _ _ h => h⟩
  have Vd : (E.kc w (vs.flatMap cr)).le ⟨F', E.aK, hg⟩ := ⟨Ao, fun _ _ _ h => h⟩
  -- no cell of F' ba in a held block fY was not handed over
  have clean : ∀ k B, st.mem[k]? = some B → B.held = true → (∀ v e rs, B ≠ .mJ v e rs) → (∀ v e rs, B = .rows v e rs → (k, v) ∉ vs.flatMap cr) → ∀ g e c o, E.aK k B.aC = some (g, e, c) → E.F ⟨g, o, none⟩ = none → F' ⟨g, o, none⟩ = none := by
    intro k B hB hh YP sn g e c o dX hn
    cases hy : F' ⟨g, o, none⟩ with
    | none => rfl
    | some y =>
      exfalso
      rcases Ue _ y hy with h | h
      · rcases Env.vZ h with h | ⟨k', eQ, e', c', h⟩
        · rw [hn] at h; cases h
        · obtain ⟨B', n5, qY, e1, od, Je⟩ := DZ hp eQ
          have Jd : B'.held = true := by rcases Je with rfl | rfl <;> rfl
          rw [← qY] at h
          have bR := hs.apart _ _ _ _ _ _ _ _ _ dX h
          subst bR
          rw [hB] at n5; cases n5
          rcases Je with rfl | rfl
          · exact sn _ _ _ rfl (by rw [show (k'.1, k'.2) = k' from rfl]; exact eQ)
          · exact YP _ _ _ rfl
      · have := hs.lt _ _ _ _ _ dX; simp at h; omega
  refine ⟨⟨hle, fun k v g e c h => .inl ⟨k, v, e, c, h⟩, fun ad y hy => ?_, hb.os, hb.tape, hb.output, hb.size, fun b aB _ => hb.block b aB⟩, ?_⟩
  · rcases Ue ad y hy with h | h
    · rcases Env.vZ h with h | ⟨k, -, e, c, h⟩
      · exact .inl h
      · exact .inr (.inr ⟨k.1, k.2, e, c, h⟩)
    · exact .inr (.inl h)
  · have ob : ∀ (q : Nat) (B : ay), (bY st.mem (vs.flatMap cr))[q]? = some B → ∃ B', st.mem[q]? = some B' ∧ B.aC = B'.aC ∧ B.held = B'.held ∧ (B = B' ∧ (∀ v e rs, B = .rows v e rs → (q, v) ∉ vs.flatMap cr) ∨ ∃ v e rs, B' = .rows v e rs ∧ B = .mJ v e rs ∧ (q, v) ∈ vs.flatMap cr) := fun q B hq => by
      rw [km] at hq
      cases uL : st.mem[q]? with
      | none => rw [uL] at hq; simp [jb] at hq
      | some B0 =>
        rw [uL] at hq
        refine ⟨B0, rfl, ?_⟩
        cases B0 with
        | rows v e rs =>
          simp only [jb] at hq
          split at hq
          · rename_i fF; cases hq; exact ⟨rfl, rfl, .inr ⟨v, e, rs, rfl, rfl, fF⟩⟩
          · rename_i fF; cases hq; exact ⟨rfl, rfl, .inl ⟨rfl, fun v' e' rs' h => by cases h; exact fF⟩⟩
        | _ => cases hq; exact ⟨rfl, rfl, .inl ⟨rfl, fun v' e' rs' h => by cases h⟩⟩
    refine ⟨ei, fun k v g e c h => Nat.lt_of_lt_of_le (hs.lt _ _ _ _ _ h) hb.size, fun k B hk => ?_, fun k hk v => hs.top k (by simpa [nd] using hk) v, fun k B hk v hv => ?_, hs.apart, hs.fr.mono hle⟩
    · obtain ⟨B', n5, -, -, sg⟩ := ob k B hk
      rcases sg with ⟨rfl, sn⟩ | ⟨v, e, rs, rfl, rfl, fF⟩
      · have so := (hs.mem k B n5).mono (E' := ⟨F', E.aK, hg⟩) (w' := w') hle (fun _ h => h) (fun g e c h => hb.block _ (hs.lt _ _ _ _ _ h))
        cases JE : B with
        | mJ v e rs =>
          subst JE
          rcases hs.mem k _ n5 with h9 | ⟨g, c, rB, hl, hr⟩
          · exact .inl h9
          refine .inr ⟨g, c, rB, hl, fun i row hi => ?_⟩
          obtain ⟨h5, h6⟩ := hr i row hi
          exact ⟨h5, fun j cc hj => let ⟨x, hx, h7, h8⟩ := h6 j cc hj; ⟨x, hle.F _ _ hx, h7, h8.mono (Env.fA hle)⟩⟩
        | hole => subst JE; exact hs.mem k _ n5
        | dead => trivial
        | loop s jm fr params assign body => subst JE; exact so (clean k _ n5 rfl (fun _ _ _ h => by cases h) (fun _ _ _ h => by cases h))
        | box cs => subst JE; exact so (clean k _ n5 rfl (fun _ _ _ h => by cases h) (fun _ _ _ h => by cases h))
        | map br clock => subst JE; exact so (clean k _ n5 rfl (fun _ _ _ h => by cases h) (fun _ _ _ h => by cases h))
        | eo m since seen last => subst JE; exact so (clean k _ n5 rfl (fun _ _ _ h => by cases h) (fun _ _ _ h => by cases h))
        | gX s pos => subst JE; exact so (clean k _ n5 rfl (fun _ _ _ h => by cases h) (fun _ _ _ h => by cases h))
        | iv => subst JE; exact so (clean k _ n5 rfl (fun _ _ _ h => by cases h) (fun _ _ _ h => by cases h))
        | rows v e rs => subst JE; exact so (clean k _ n5 rfl (fun _ _ _ h => by cases h) sn)
      · rcases hs.mem k _ n5 with h9 | ⟨g, T, cur, c, rB, -⟩
        · exact .inl h9
        · obtain ⟨-, hl, hr⟩ := xU hs fF rB n5 (.inl rfl)
          refine .inr ⟨g, c, rB, hl, fun i row hi => ?_⟩
          obtain ⟨h5, h6⟩ := hr i row hi
          exact ⟨h5, fun j cc hj => let ⟨x, hx, h7, h8⟩ := h6 j cc hj; ⟨x, Vd.F _ _ hx, h7, h8.mono (Env.fA hle)⟩⟩
    · obtain ⟨B', n5, z6, -, -⟩ := ob k B hk
      exact hs.aC k B' n5 v (by omega)

theorem bd.freeze {E : Env} {w : World} {a : Act} {st : St} (hs : bd E w a st) {vs vs' : List V} (hp : cD st.mem vs = some vs') :
    ∃ E', bd E' w a { st with mem := bY st.mem (vs.flatMap cr) } ∧ dt E w E' w ∧ ∀ xs, aQ E vs xs → aQ E' vs' xs := by
  obtain ⟨hg, h1, h2⟩ := sm hs hp (F' := (E.kc w (vs.flatMap cr)).F) (fun _ _ h => h) (fun ad y h => Env.Cs hs.F h) (fun _ _ h => .inl h) (Below.refl _ w)
  exact ⟨_, h2, h1, fun xs hx => (fZ hs (keys := vs.flatMap cr) hx hp fun k hk => hk).mono ⟨fun _ _ h => h, fun _ _ _ h => by cases h⟩⟩

theorem D0 {P : Program} {f : FuncId} {E : Env} {w : World} {a : Act} {st : St} (hs : bd E w a st) {vs vs' : List V} {r : V} {xs : Array Value} (hx : aQ E vs xs.toList) (hp : cD st.mem vs = some vs') (hf : aP P f vs' r) :
    Calls P f xs w fun e w' => ∃ E' x, e = .returned x ∧ dt E w E' w' ∧ bd E' w' a { st with mem := cP st.mem (vs.flatMap cr) r } ∧ aX E' r x := by
  have h1 := fZ hs (keys := vs.flatMap cr) hx hp fun k hk => hk
  refine (hf.2 (E.kc w (vs.flatMap cr)).F (E.kc w (vs.flatMap cr)).gl w xs (fun ad x h => Env.Cs hs.F h) h1).mono ?_
  rintro e w' ⟨F', x, rfl, Ao, ei, Ue, ⟨JD, ow⟩, hb⟩
  unfold cP
  split
  · rename_i Rx
    refine ⟨E, x, rfl, ⟨E.le_refl, fun k v g e c h => .inl ⟨k, v, e, c, h⟩, fun _ _ h => .inl h, hb.os, hb.tape, hb.output, hb.size, fun b aB _ => hb.block b aB⟩, ?_, DY ow Rx⟩
    refine ⟨fun ad y hy => ?_, fun k v g e c h => Nat.lt_of_lt_of_le (hs.lt _ _ _ _ _ h) hb.size, fun k B hk => ?_, hs.top, hs.aC, hs.apart, hs.fr⟩
    · rw [hb.cell (World.block_lt_of_cell? w ad (hs.F ad y hy))]; exact hs.F ad y hy
    · exact (hs.mem k B hk).mono E.le_refl (fun _ h => h) (fun g e c h => hb.block _ (hs.lt _ _ _ _ _ h)) fun _ _ _ _ _ h => h
  · obtain ⟨hg, e1, s1⟩ := sm hs hp Ao ei Ue hb
    exact ⟨_, x, rfl, e1, s1, ow.mono ⟨fun _ _ h => h, fun _ _ _ h => by simp at h⟩⟩
end Go.Eng
end
