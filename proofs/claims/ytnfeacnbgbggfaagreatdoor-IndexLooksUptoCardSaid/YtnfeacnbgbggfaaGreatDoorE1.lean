/-
  THE ENGINE, A: abstract values, and what it means that one stands for a value of the model in a world.
  THE ENGINE, B: the table of types, the store, the state of a call, and what one operation makes of it.
  THE ENGINE, C: the operations that write nothing, and that each does in the model what it says.
  THE ENGINE, D: one word for all operations that write nothing.
  THE ENGINE, DM: maps: reading them.
  THE ENGINE, E: the word for every operation that writes nothing, and its soundness.
  THE ENGINE, F: new blocks, stores, what is read for good.
  THE ENGINE, G: stores.
  THE ENGINE, H: slices that are made: literals, append.
  THE ENGINE, I: append.
  THE ENGINE, IM: maps: writing them; ranging over them, and over strings.
  THE ENGINE, SF: append to a slice that begins behind its block's beginning: it may stay where it is, or go to a new block.
  THE ENGINE, J: what a call hands over; contracts.
-/
import Derived.Orders
import Derived.Below
import Derived.Laws.AppendOwn
import Derived.Laws.Cells
import Derived.Laws.Entries
import Derived.Laws.ResultCell
import Derived.Laws.BytesArg
import Derived.Laws.Append
import Derived.IntWalk
set_option linter.all false
section
namespace Go.Eng

class aH where
 n : Int
 κ : Int → Option Bool
 ok : ∀ k b, κ k = some b → decide (k ≤ n) = b
 g : Option Nat
 NU : Nat → Option (List Value)
variable [aH]
structure Gl (F : Addr → Option Value) : Prop where
 n : ∀ g, aH.g = some g → F ⟨g, 0, none⟩ = some (.int .i64 aH.n)
 t : ∀ g cs (j : Nat) x, aH.NU g = some cs → cs[j]? = some x → F ⟨g, j, none⟩ = some x
theorem Gl.mono {F F' : Addr → Option Value} (h : Gl F) (hF : ∀ ad x, F ad = some x → F' ad = some x) : Gl F' := ⟨fun g hg => hF _ _ (h.n g hg), fun g cs j x h1 h2 => hF _ _ (h.t g cs j x h1 h2)⟩

inductive V where
 | undef
 | sc (v : Value)
 | agg (cs : List V)
 | slice (rows : List V)
 | ms (b v s l : Nat)
 | ptr (b o : Nat)
 | dd (b v i o : Nat)
 | cg (cs : List V)
 | fQ (f : Fn) (first cap : List V)
 | bN (vs : List V)
 | im (b : Nat)
 | mp (b : Nat)
 | gn
 | full (rows : List V)
 deriving Inhabited

def V.cells : V → List V
 | .agg cs => cs
 | v => [v]

structure Env where
 F : Addr → Option Value
 aI : Nat → Nat → Option (Nat × Nat × Nat)
 gl : Gl F

def Env.pure (E : Env) : Env := { F := E.F, aI := fun _ _ => none, gl := E.gl }

inductive aW : Env → V → Value → Prop
 | undef (E : Env) (x : Value) : aW E .undef x
 | sc (E : Env) (v : Value) : aW E (.sc v) v
 | agg (E : Env) (cs : List V) (xs : Array Value) (hl : cs.length = xs.size) (h : ∀ (i : Nat) (c : V) (x : Value), cs[i]? = some c → xs[i]? = some x → aW E c x) : aW E (.agg cs) (.agg xs)
 | slice (E : Env) (rows : List V) (a : Option Addr) (cap nE : Nat) (ad : Addr) (xf : Nat → Nat → Value) (ha : rows ≠ [] → a = some ad) (ij : rows.length ≤ cap)
   (hs : ∀ (i : Nat) (row : V), rows[i]? = some row → row.cells.length = nE)
   (hF : ∀ (i : Nat) (row : V) (j : Nat) (c : V), rows[i]? = some row → row.cells[j]? = some c → E.F (ad.add (i * nE + j)) = some (xf i j))
   (h1 : ∀ (i : Nat) (row : V) (j : Nat) (c : V), rows[i]? = some row → row.cells[j]? = some c → (xf i j).oneCell' = true)
   (h : ∀ (i : Nat) (row : V) (j : Nat) (c : V), rows[i]? = some row → row.cells[j]? = some c → aW E.pure c (xf i j)) : aW E (.slice rows) (.slice a rows.length cap)
 | ms (E : Env) (b v s l g e c : Nat) (a : Option Addr) (cap : Nat) (hb : E.aI b v = some (g, e, c)) (hl : 0 < l → a = some ⟨g, s * e, none⟩) (h0 : s = 0 → a = some ⟨g, 0, none⟩ ∧ cap = c) (hc : l ≤ cap ∧ s + cap = c ∧ (0 < cap → a = some ⟨g, s * e, none⟩)) :
   aW E (.ms b v s l) (.slice a l cap)
 | cZ (E : Env) (b v s : Nat) : aW E (.ms b v s 0) (.slice none 0 0)
 | ptr (E : Env) (b o g e c : Nat) (hb : E.aI b 0 = some (g, e, c)) : aW E (.ptr b o) (.pointer (some ⟨g, o, none⟩))
 | dd (E : Env) (b v i o g e c : Nat) (hb : E.aI b v = some (g, e, c)) : aW E (.dd b v i o) (.pointer (some ⟨g, i * e + o, none⟩))
 | cg (E : Env) (cs : List V) (ad : Addr) (xf : Nat → Value) (hF : ∀ (j : Nat) (c : V), cs[j]? = some c → E.F (ad.add j) = some (xf j)) (h : ∀ (j : Nat) (c : V), cs[j]? = some c → aW E.pure c (xf j)) :
   aW E (.cg cs) (.pointer (some ad))
 | fQ (E : Env) (f : Fn) (first cap : List V) (xs ys : Array Value) (hx : first.length = xs.size) (hy : cap.length = ys.size)
   (h1 : ∀ (i : Nat) (c : V) (x : Value), first[i]? = some c → xs[i]? = some x → aW E c x) (h2 : ∀ (i : Nat) (c : V) (x : Value), cap[i]? = some c → ys[i]? = some x → aW E c x) : aW E (.fQ f first cap) (.func f xs ys)
 | im (E : Env) (b l e c : Nat) (hb : E.aI b 0 = some (l, e, c)) : aW E (.im b) (.func (.yield l) #[] #[])
 | mp (E : Env) (b l e c : Nat) (hb : E.aI b 0 = some (l, e, c)) : aW E (.mp b) (.map (some l))
 | gn (E : Env) : aW E .gn (.int .i64 aH.n)
 | full (E : Env) (rows : List V) (a : Option Addr) (h : aW E (.slice rows) (.slice a rows.length rows.length)) : aW E (.full rows) (.slice a rows.length rows.length)
 | bN (E : Env) (vs : List V) (xs : Array Value) (hl : vs.length = xs.size) (h : ∀ (i : Nat) (c : V) (x : Value), vs[i]? = some c → xs[i]? = some x → aW E c x) : aW E (.bN vs) (.tuple xs)

def aP (E : Env) (vs : List V) (xs : List Value) : Prop := vs.length = xs.length ∧ ∀ (i : Nat) (v : V) (x : Value), vs[i]? = some v → xs[i]? = some x → aW E v x

theorem Env.Eo {a b : Env} (h1 : a.F = b.F) (h2 : a.aI = b.aI) : a = b := by
 cases a; cases b; dsimp only at h1 h2; subst h1; subst h2; rfl

structure Env.le (E E' : Env) : Prop where
 F : ∀ ad x, E.F ad = some x → E'.F ad = some x
 aI : ∀ b v t, E.aI b v = some t → E'.aI b v = some t

theorem Env.le_refl (E : Env) : E.le E := ⟨fun _ _ h => h, fun _ _ _ h => h⟩
theorem Env.le_trans {a b c : Env} (h : a.le b) (k : b.le c) : a.le c := ⟨fun ad x hx => k.F _ _ (h.F _ _ hx), fun b v t hx => k.aI _ _ _ (h.aI _ _ _ hx)⟩
theorem Env.fw {a b : Env} (h : a.le b) : a.pure.le b.pure := ⟨h.F, fun _ _ _ h => h⟩
theorem Env.ml (a : Env) : a.pure.le a := ⟨fun _ _ h => h, fun _ _ _ h => by simp [Env.pure] at h⟩

theorem aW.mono {E E' : Env} {v : V} {x : Value} (h : aW E v x) (hle : E.le E') : aW E' v x := by
 induction h generalizing E' with
 | undef => exact .undef _ _
 | sc => exact .sc _ _
 | agg E cs xs hl h ih => exact .agg _ _ _ hl fun i c x hc hx => ih i c x hc hx hle
 | slice E rows a cap nE ad xf ha ij hs hF h1 h ih => exact .slice _ _ _ _ nE ad xf ha ij hs (fun i row j c hi hj => hle.F _ _ (hF i row j c hi hj)) h1 fun i row j c hi hj => ih i row j c hi hj (Env.fw hle)
 | ms E b v s l g e c a cap hb hl h0 hc => exact .ms _ _ _ _ _ g e c _ _ (hle.aI _ _ _ hb) hl h0 hc
 | cZ E b v s => exact .cZ _ _ _ _
 | ptr E b o g e c hb => exact .ptr _ _ _ g e c (hle.aI _ _ _ hb)
 | dd E b v i o g e c hb => exact .dd _ _ _ _ _ g e c (hle.aI _ _ _ hb)
 | cg E cs ad xf hF h ih => exact .cg _ _ _ xf (fun j c hj => hle.F _ _ (hF j c hj)) fun j c hj => ih j c hj (Env.fw hle)
 | fQ E f first cap xs ys hx hy h1 h2 NV NW => exact .fQ _ _ _ _ _ _ hx hy (fun i c x hc hx => NV i c x hc hx hle) fun i c x hc hx => NW i c x hc hx hle
 | im E b l e c hb => exact .im _ _ l e c (hle.aI _ _ _ hb)
 | mp E b l e c hb => exact .mp _ _ l e c (hle.aI _ _ _ hb)
 | gn E => exact .gn _
 | full E rows a h ih => exact .full _ _ _ (ih hle)
 | bN E vs xs hl h ih => exact .bN _ _ _ hl fun i c x hc hx => ih i c x hc hx hle

theorem aP.mono {E E' : Env} {vs : List V} {xs : List Value} (h : aP E vs xs) (hle : E.le E') : aP E' vs xs :=
 ⟨h.1, fun i v x hv hx => (h.2 i v x hv hx).mono hle⟩
theorem aP.nil (E : Env) : aP E [] [] := ⟨rfl, fun i v x h => by simp at h⟩
theorem aP.cons {E : Env} {v : V} {x : Value} {vs : List V} {xs : List Value} (h : aW E v x) (hs : aP E vs xs) : aP E (v :: vs) (x :: xs) := by
 refine ⟨by simp [hs.1], fun i => ?_⟩
 cases i with
 | zero => intro v' x' hv hx; simp at hv hx; subst hv; subst hx; exact h
 | succ i => intro v' x' hv hx; simp at hv hx; exact hs.2 i v' x' hv hx
theorem aP.of_cons {E : Env} {v : V} {vs : List V} {xs : List Value} (h : aP E (v :: vs) xs) : ∃ x ys, xs = x :: ys ∧ aW E v x ∧ aP E vs ys := by
 cases xs with
 | nil => have := h.1; simp at this
 | cons x ys => exact ⟨x, ys, rfl, h.2 0 v x rfl rfl, by have := h.1; simpa using this, fun i v' x' hv hx => h.2 (i + 1) v' x' (by simpa using hv) (by simpa using hx)⟩
theorem aP.of_nil {E : Env} {xs : List Value} (h : aP E [] xs) : xs = [] := by
 have := h.1; simp at this; exact List.length_eq_zero_iff.1 this.symm
theorem aP.append {E : Env} {vs us : List V} {xs ys : List Value} (h : aP E vs xs) (k : aP E us ys) : aP E (vs ++ us) (xs ++ ys) := by
 refine ⟨by simp [h.1, k.1], fun i v x hv hx => ?_⟩
 by_cases hi : i < vs.length
 ·rw [List.getElem?_append_left hi] at hv; rw [List.getElem?_append_left (h.1 ▸ hi)] at hx; exact h.2 i v x hv hx
 ·rw [List.getElem?_append_right (by omega)] at hv; rw [List.getElem?_append_right (by have := h.1; omega), ← h.1] at hx; exact k.2 _ v x hv hx
theorem aP.get {E : Env} {vs : List V} {xs : List Value} (h : aP E vs xs) {i : Nat} {v : V} (hv : vs[i]? = some v) : ∃ x, xs[i]? = some x ∧ aW E v x := by
 have hi : i < xs.length := by rw [← h.1]; exact (List.getElem?_eq_some_iff.1 hv).1
 exact ⟨xs[i], List.getElem?_eq_getElem hi, h.2 i v _ hv (List.getElem?_eq_getElem hi)⟩
theorem aP.drop {E : Env} {vs : List V} {xs : List Value} (h : aP E vs xs) (n : Nat) : aP E (vs.drop n) (xs.drop n) :=
 ⟨by simp [h.1], fun i v x hv hx => h.2 (n + i) v x (by simpa using hv) (by simpa using hx)⟩
theorem aP.take {E : Env} {vs : List V} {xs : List Value} (h : aP E vs xs) (n : Nat) : aP E (vs.take n) (xs.take n) := by
 refine ⟨by simp [h.1], fun i v x hv hx => ?_⟩
 have hi : i < n := by
  by_cases hi : i < n
  ·exact hi
  ·rw [List.getElem?_take] at hv; simp [hi] at hv
 rw [List.getElem?_take_of_lt hi] at hv hx
 exact h.2 i v x hv hx
theorem aP.set {E : Env} {vs : List V} {xs : List Value} (h : aP E vs xs) (n : Nat) {v : V} {x : Value} (hv : aW E v x) : aP E (vs.set n v) (xs.set n x) := by
 refine ⟨by simp [h.1], fun i v' x' rz F9 => ?_⟩
 by_cases hi : n = i
 ·subst hi
  rw [List.getElem?_set] at rz F9
  simp only [if_true] at rz F9
  split at rz
  ·split at F9
   ·simp at rz F9; subst rz; subst F9; exact hv
   ·simp at F9
  ·simp at rz
 ·rw [List.getElem?_set_ne hi] at rz F9; exact h.2 i v' x' rz F9

theorem aW.cells {E : Env} {v : V} {x : Value} (h : aW E v x) (hu : v ≠ .undef) (hs : ∀ y, v = .sc y → ∀ cs, y ≠ .agg cs) : aP E v.cells x.cells.toList := by
 cases h with
 | undef => exact absurd rfl hu
 | sc =>
  have : x.cells = #[x] := by
   have := hs x rfl
   cases x <;> simp [Value.cells] at this ⊢
  simp only [V.cells,this]; exact .cons (.sc _ _) (.nil _)
 | agg _ cs xs hl h => exact ⟨by simpa [V.cells, Value.cells] using hl, fun i c x hc hx => h i c x hc (by simpa [Value.cells] using hx)⟩
 | slice _ rows a cap nE ad xf ha ij hz hF h1 h => exact .cons (.slice _ _ _ _ nE ad xf ha ij hz hF h1 h) (.nil _)
 | ms _ b v s l g e c a cap hb hl h0 hc => exact .cons (.ms _ _ _ _ _ g e c _ _ hb hl h0 hc) (.nil _)
 | cZ _ b v s => exact .cons (.cZ _ _ _ _) (.nil _)
 | ptr _ b o g e c hb => exact .cons (.ptr _ _ _ g e c hb) (.nil _)
 | dd _ b v i o g e c hb => exact .cons (.dd _ _ _ _ _ g e c hb) (.nil _)
 | cg _ cs ad xf hF h => exact .cons (.cg _ _ _ xf hF h) (.nil _)
 | fQ _ f first cap xs ys hx hy h1 h2 => exact .cons (.fQ _ _ _ _ _ _ hx hy h1 h2) (.nil _)
 | im _ b l e c hb => exact .cons (.im _ _ l e c hb) (.nil _)
 | mp _ b l e c hb => exact .cons (.mp _ _ l e c hb) (.nil _)
 | gn => exact .cons (.gn _) (.nil _)
 | full _ rows a h => exact .cons (.full _ _ _ h) (.nil _)
 | bN _ vs xs hl h => exact .cons (.bN _ _ _ hl h) (.nil _)
end Go.Eng
end

section
namespace Go.Eng
variable [aH]

structure Ti where
 size : Nat
 agg : Bool
 zero : List Value
 bx : List (Nat × Nat) := []
 elem : Option TypeId := none
 bytes : Nat := 0
 deriving Inhabited

abbrev Table := TypeId → Option Ti

structure TT (P : Program) (tt : Table) : Prop where
 size : ∀ t i, tt t = some i → ∃ info, P.info? t = some info ∧ info.size = i.size ∧ info.bytes = i.bytes ∧ ∃ z, info.zero = some z ∧ z.cells.toList = i.zero
 desc : ∀ t i, tt t = some i → ∃ d, P.underlying t = some d ∧ (i.agg = true ↔ ((∃ fs, d = .struct fs) ∨ ∃ n e, d = .array n e)) ∧
  (∀ e, i.elem = some e → d = .slice e) ∧
  (∀ (f off sz : Nat), i.bx[f]? = some (off, sz) → ∃ fs fd inf, d = .struct fs ∧ fs.size = i.bx.length ∧ fs[f]? = some fd ∧ fd.offset = off ∧ P.info? fd.type = some inf ∧ inf.size = sz ∧ sz ≠ 0)

def aG {α : Type} (P : Program) : Sem α → Option α
 | .pure a => some a
 | .program k => aG P (k P)
 | .mark _ k => aG P k
 | _ => none

theorem cA {α : Type} {P : Program} (s : Sem α) {v : α} (h : aG P s = some v) (w : World) : s.run P w = .ok v w := by
 induction s with
 | pure a => simp [aG] at h; subst h; rfl
 | program k ih => exact ih P h
 | mark m k ih => exact ih h
 | _ => simp [aG] at h

def dx : Value → V
 | .agg cs => .agg (cs.toList.map V.sc)
 | .tuple vs => .bN (vs.toList.map V.sc)
 | v => .sc v

theorem iz (E : Env) (cs : Array Value) (i : Nat) (c : V) (x : Value) (hc : (cs.toList.map V.sc)[i]? = some c) (hx : cs[i]? = some x) : aW E c x := by
 simp only [List.getElem?_map,Array.getElem?_toList,hx,Option.map_some,Option.some.injEq] at hc
 subst hc; exact .sc _ _
theorem fy (E : Env) (v : Value) : aW E (dx v) v := by
 cases v with
 | agg cs => exact .agg _ _ _ (by simp) (iz E cs)
 | tuple cs => exact .bN _ _ _ (by simp) (iz E cs)
 | _ => exact .sc _ _

inductive aw where
 | hole
 | dead
 | box (cs : List V)
 | rows (v e : Nat) (rs : List V)
 | mX (v e : Nat) (rs : List V)
 | loop (s : LoopState) (jx : Option Code) (fr : List V) (params : Array Tmp) (assign body : Code)
 | map (aY : List (Value × Nat × V)) (clock : Nat)
 | dF (m since : Nat) (seen : List Nat) (last : Nat)
 | ia (s : ByteArray) (pos : Nat)
 | iA
 deriving Inhabited

structure St where
 fr : List V
 mem : List aw

def St.eval (st : St) : Operand → V
 | .tmp t => st.fr.getD t .undef
 | .const v => dx v
 | .global g => if aH.g = some g then .cg [.gn] else match aH.NU g with | some cs => .cg (cs.map V.sc) | none => .undef
 | .func f => .sc (.func (.func f) #[] #[])

def St.put (st : St) (dst : Option Tmp) (v : V) : St :=
 match dst with
 | some d => { st with fr := st.fr.set d v }
 | none => st

def fA (E : Env) (e : Nat) (rs : List V) (at_ : Nat → Option Value) : Prop :=
 ∀ (i : Nat) (row : V), rs[i]? = some row → row.cells.length = e ∧ ∀ (j : Nat) (c : V), row.cells[j]? = some c → ∃ x, at_ (i * e + j) = some x ∧ x.oneCell' = true ∧ aW E c x

def cx (E : Env) (aY : List (Value × Nat × V)) (es : List MapEntry) : Prop :=
 aY.length = es.length ∧ ∀ (i : Nat) (k : Value × Nat × V) (e : MapEntry), aY[i]? = some k → es[i]? = some e → e.key = k.1 ∧ e.born = k.2.1 ∧ aW E k.2.2 e.val
theorem cx.mono {E E' : Env} {aY : List (Value × Nat × V)} {es : List MapEntry} (h : cx E aY es) (hle : E.le E') : cx E' aY es :=
 ⟨h.1, fun i k e hk he => let ⟨h1, h2, h3⟩ := h.2 i k e hk he; ⟨h1, h2, h3.mono hle⟩⟩

def iB (E : Env) (w : World) (k : Nat) : aw → Prop
 | .hole => ∀ v, E.aI k v = none
 | .dead => True
 | .box cs => ∃ g T xs, E.aI k 0 = some (g, 0, 0) ∧ w.heap[g]? = some (.cells xs T (0, 0)) ∧ aP E cs xs.toList ∧ ∀ o, E.F ⟨g, o, none⟩ = none
 | .rows v e rs => (rs = [] ∧ E.aI k v = none) ∨ ∃ g T xs c, E.aI k v = some (g, e, c) ∧ w.heap[g]? = some (.cells xs T (0, 0)) ∧ xs.size = c * e ∧ rs.length ≤ c ∧ fA E.pure e rs (fun o => xs[o]?) ∧ ∀ o, E.F ⟨g, o, none⟩ = none
 | .mX v e rs => (rs = [] ∧ E.aI k v = none) ∨ ∃ g c, E.aI k v = some (g, e, c) ∧ rs.length ≤ c ∧ fA E.pure e rs (fun o => E.F ⟨g, o, none⟩)
 | .loop s jx fr params assign body => ∃ l fn tmps db, E.aI k 0 = some (l, 0, 0) ∧ w.heap[l]? = some (.loop { state := s, pending := jx, fn := fn, tmps := tmps, params := params, assign := assign, body := body, defers := db }) ∧ aP E fr tmps.toList ∧ ∀ o, E.F ⟨l, o, none⟩ = none

 | .map aY clock => ∃ g es, E.aI k 0 = some (g, 0, 0) ∧ w.heap[g]? = some (.map es clock) ∧ cx E aY es.toList ∧ ∀ o, E.F ⟨g, o, none⟩ = none
 | .dF m since seen last => ∃ g gm e c, E.aI k 0 = some (g, 0, 0) ∧ E.aI m 0 = some (gm, e, c) ∧ w.heap[g]? = some (.mapIter (some gm) since seen.toArray last) ∧ ∀ o, E.F ⟨g, o, none⟩ = none
 | .ia s pos => ∃ g, E.aI k 0 = some (g, 0, 0) ∧ w.heap[g]? = some (.stringIter s pos) ∧ ∀ o, E.F ⟨g, o, none⟩ = none
 | .iA => ∃ g, E.aI k 0 = some (g, 0, 0) ∧ w.heap[g]? = some (.mapIter none 0 #[] 0) ∧ ∀ o, E.F ⟨g, o, none⟩ = none

def aw.aC : aw → Nat
 | .rows v _ _ => v
 | .mX v _ _ => v
 | _ => 0
def aw.held : aw → Bool
 | .hole | .dead => false
 | _ => true

structure bc (E : Env) (w : World) (a : Act) (st : St) : Prop where
 F : ∀ ad x, E.F ad = some x → w.cell? ad = some x
 lt : ∀ k v g e c, E.aI k v = some (g, e, c) → g < w.heap.size
 mem : ∀ k B, st.mem[k]? = some B → iB E w k B
 top : ∀ k, st.mem.length ≤ k → ∀ v, E.aI k v = none
 aC : ∀ k B, st.mem[k]? = some B → ∀ v, B.aC < v → E.aI k v = none
 apart : ∀ k k' v v' g e c e' c', E.aI k v = some (g, e, c) → E.aI k' v' = some (g, e', c') → k = k'
 fr : aP E st.fr a.tmps.toList

theorem bc.eval {E : Env} {w : World} {a : Act} {st : St} (h : bc E w a st) (x : Operand) : aW E (st.eval x) (a.eval x) := by
 cases x with
 | tmp t =>
  simp only [St.eval,Act.eval]
  cases hv : st.fr[t]? with
  | none => rw [List.getD_eq_getElem?_getD, hv]; exact .undef _ _
  | some v =>
   obtain ⟨x, hx, hr⟩ := h.fr.get hv
   rw [List.getD_eq_getElem?_getD, hv, Array.getD_eq_getD_getElem?]
   simp only [Array.getElem?_toList] at hx
   rw [hx]; exact hr
 | const v => exact fy E v
 | global g =>
  simp only [St.eval,Act.eval]
  split
  ·rename_i hg
   refine .cg _ _ _ (fun _ => .int .i64 aH.n) (fun j c hc => ?_) fun j c hc => ?_
   ·match j with
    | 0 => exact E.gl.n g hg
    | j + 1 => simp at hc
   ·match j with
    | 0 => simp at hc; subst hc; exact .gn _
    | j + 1 => simp at hc
  ·split
   ·rename_i cs rA
    refine .cg _ _ _ (fun j => (cs[j]?).getD undef) (fun j c hc => ?_) fun j c hc => ?_
    ·simp only [List.getElem?_map,Option.map_eq_some_iff] at hc
     obtain ⟨x, hx, rfl⟩ := hc
     have h1 : (Addr.mk g 0 none).add j = ⟨g, j, none⟩ := by unfold Addr.add; by_cases hj : j = 0 <;> simp [hj]
     rw [h1, hx]
     exact E.gl.t g cs j x rA hx
    ·simp only [List.getElem?_map,Option.map_eq_some_iff] at hc
     obtain ⟨x, hx, rfl⟩ := hc
     rw [hx]; exact .sc _ _
   ·exact .undef _ _
 | func f => exact .sc _ _

structure dt (E : Env) (w : World) (E' : Env) (w' : World) : Prop where
 le : E.le E'
 aI : ∀ k v g e c, E'.aI k v = some (g, e, c) → (∃ k0 v0 e0 c0, E.aI k0 v0 = some (g, e0, c0)) ∨ w.heap.size ≤ g
 F : ∀ ad x, E'.F ad = some x → E.F ad = some x ∨ w.heap.size ≤ ad.block ∨ ∃ k0 v0 e0 c0, E.aI k0 v0 = some (ad.block, e0, c0)
 os : w'.os = w.os
 tape : w'.tape = w.tape
 output : w'.output = w.output
 size : w.heap.size ≤ w'.heap.size
 heap : ∀ b, b < w.heap.size → (∀ k v e c, E.aI k v ≠ some (b, e, c)) → w'.heap[b]? = w.heap[b]?

theorem dt.refl (E : Env) (w : World) : dt E w E w :=
 ⟨E.le_refl, fun k v g e c h => .inl ⟨k, v, e, c, h⟩, fun _ _ h => .inl h, rfl, rfl, rfl, Nat.le_refl _, fun _ _ _ => rfl⟩
theorem dt.trans {E E1 E2 : Env} {w w1 w2 : World} (h : dt E w E1 w1) (k : dt E1 w1 E2 w2) : dt E w E2 w2 := by
 refine ⟨Env.le_trans h.le k.le, ?_, ?_, k.os.trans h.os, k.tape.trans h.tape, k.output.trans h.output, Nat.le_trans h.size k.size, ?_⟩
 ·intro q v g e c hq
  rcases k.aI q v g e c hq with ⟨k0, v0, e0, c0, h0⟩ | h0
  ·exact h.aI _ _ _ _ _ h0
  ·exact .inr (Nat.le_trans h.size h0)
 ·intro ad x hx
  rcases k.F ad x hx with h0 | h0 | ⟨k0, v0, e0, c0, h0⟩
  ·exact h.F _ _ h0
  ·exact .inr (.inl (Nat.le_trans h.size h0))
  ·rcases h.aI _ _ _ _ _ h0 with h1 | h1
   ·exact .inr (.inr h1)
   ·exact .inr (.inl h1)
 ·intro b hb bH
  rw [k.heap b (Nat.lt_of_lt_of_le hb h.size) ?_, h.heap b hb bH]
  intro q v e c hq
  rcases h.aI _ _ _ _ _ hq with ⟨k0, v0, e0, c0, h0⟩ | h0
  ·exact bH _ _ _ _ h0
  ·omega
theorem dt.drew (E : Env) (w : World) : dt E w E w.drew :=
 ⟨E.le_refl, fun k v g e c h => .inl ⟨k, v, e, c, h⟩, fun _ _ h => .inl h, rfl, rfl, rfl, Nat.le_refl _, fun _ _ _ => rfl⟩
theorem bc.drew {E : Env} {w : World} {a : Act} {st : St} (h : bc E w a st) : bc E w.drew a st :=
 ⟨h.F, h.lt, fun k B hB => by have := h.mem k B hB; cases B <;> exact this, h.top, h.aC, h.apart, h.fr⟩

theorem bc.put {E : Env} {w : World} {a : Act} {st : St} (h : bc E w a st) (dst : Option Tmp) {v : V} {x : Value} (hr : aW E v x) : bc E w (a.put dst x) (st.put dst v) := by
 cases dst with
 | none => exact h
 | some d => exact ⟨h.F, h.lt, h.mem, h.top, h.aC, h.apart, by simpa [St.put, Act.put] using h.fr.set d hr⟩
end Go.Eng
end

section
namespace Go.Eng
variable [aH]

def dy (tt : Table) (T : TypeId) (cs : List V) : Option V :=
 match tt T with
 | some i => if i.agg then (if i.size ≤ cs.length then some (.agg (cs.take i.size)) else none) else cs.head?
 | none => none

def rowOf (mem : List aw) (b v i : Nat) : Option V :=
 match mem[b]? with
 | some (.rows v' _ rs) => if v' = v then rs[i]? else none
 | some (.mX v' _ rs) => if v' = v then rs[i]? else none
 | _ => none

def kW (tt : Table) (mem : List aw) (T : TypeId) : V → Option V
 | .ptr b o => match mem[b]? with | some (.box cs) => dy tt T (cs.drop o) | _ => none
 | .dd b v i o => match rowOf mem b v i with | some row => dy tt T (row.cells.drop o) | none => none
 | .cg cs => dy tt T cs
 | _ => none

def JX (tt : Table) (S : TypeId) (f : Nat) : Option Nat := match tt S with | some i => (match i.bx[f]? with | some p => some p.1 | none => none) | none => none
def dG (tt : Table) (T : TypeId) : Option TypeId := match tt T with | some i => i.elem | none => none
def jh (tt : Table) (T : TypeId) : Option Nat := match tt T with | some i => some i.size | none => none

def fieldAt (off : Nat) : V → Option V
 | .ptr b o => some (.ptr b (o + off))
 | .dd b v i o => some (.dd b v i (o + off))
 | .cg cs => some (.cg (cs.drop off))
 | _ => none
def wi (tt : Table) (S : TypeId) (f : Nat) (x : V) : Option V := match JX tt S f with | some off => fieldAt off x | none => none

def eM (mem : List aw) (b v : Nat) : Option Nat :=
 match mem[b]? with
 | some (.rows v' e _) => if v' = v then some e else none
 | some (.mX v' e _) => if v' = v then some e else none
 | _ => none

def indexAt (mem : List aw) (size : Nat) (n : Int) : V → Option V
 | .slice rows => if 0 ≤ n then (match rows[n.toNat]? with | some row => if row.cells.length = size then some (.cg row.cells) else none | none => none) else none
 | .ms b v s l => if 0 ≤ n ∧ n < l ∧ eM mem b v = some size then some (.dd b v (s + n.toNat) 0) else none
 | _ => none
def iC (tt : Table) (mem : List aw) (T : TypeId) (x i : V) : Option V :=
 match i with
 | .sc (.int _ n) => match dG tt T with
  | some e => match jh tt e with
   | some size => indexAt mem size n x
   | none => none
  | none => none
 | _ => none

theorem add_add (a : Addr) (m n : Nat) : (a.add m).add n = a.add (m + n) := by
 unfold Addr.add
 by_cases hm : m = 0 <;> by_cases hn : n = 0 <;> simp [hm, hn, Nat.add_assoc]
theorem add_lit (b o n : Nat) : (Addr.mk b o none).add n = ⟨b, o + n, none⟩ := by
 unfold Addr.add; by_cases hn : n = 0 <;> simp [hn]

theorem aq {P : Program} {t : TypeId} {d : TypeDesc} (h : P.underlying t = some d) (w : World) : (underlying t).run P w = .ok d w := by
 simp [underlying, h]
theorem cE {P : Program} {t : TypeId} {i : TypeInfo} (h : P.info? t = some i) (w : World) : (typeInfo t).run P w = .ok i w := by
 simp [typeInfo, h]
theorem de {P : Program} {t : TypeId} {i : TypeInfo} (h : P.info? t = some i) (w : World) : (sizeOf t).run P w = .ok i.size w := by
 simp [sizeOf, cE h]
theorem TT.isAgg {P : Program} {tt : Table} (h : TT P tt) {t : TypeId} {i : Ti} (ht : tt t = some i) (w : World) : (isAgg t).run P w = .ok i.agg w := by
 obtain ⟨d, hd, ha, -⟩ := h.desc t i ht
 simp only [Go.isAgg,Sem.run_bind,aq hd,Result.andThen_ok]
 cases hi : i.agg with
 | true =>
  rcases ha.1 hi with ⟨fs, rfl⟩ | ⟨n, e, rfl⟩ <;> rfl
 | false =>
  have : ¬ ((∃ fs, d = .struct fs) ∨ ∃ n e, d = .array n e) := fun hh => by rw [ha.2 hh] at hi; cases hi
  cases d <;> first | rfl | (exfalso; apply this; first | exact .inl ⟨_, rfl⟩ | exact .inr ⟨_, _, rfl⟩)
theorem TT.sizeOf {P : Program} {tt : Table} (h : TT P tt) {t : TypeId} {i : Ti} (ht : tt t = some i) (w : World) : (Go.sizeOf t).run P w = .ok i.size w := by
 obtain ⟨info, h1, h2, -⟩ := h.size t i ht
 rw [de h1, h2]

def ji (E : Env) (w : World) (ad : Addr) (cs : List V) : Prop := ∀ (j : Nat) (c : V), cs[j]? = some c → ∃ x, w.cell? (ad.add j) = some x ∧ aW E c x
theorem ji.drop {E : Env} {w : World} {ad : Addr} {cs : List V} (h : ji E w ad cs) (n : Nat) : ji E w (ad.add n) (cs.drop n) := fun j c hc => by
 rw [add_add]; exact h _ _ (by simpa using hc)

theorem rB {P : Program} {tt : Table} (ht : TT P tt) {E : Env} {w : World} {ad : Addr} {cs : List V} {T : TypeId} {v : V} (h : ji E w ad cs) (hp : dy tt T cs = some v) :
  ∃ x, (loadVar T ad).run P w = .ok x w ∧ aW E v x := by
 unfold dy at hp
 cases hi : tt T with
 | none => rw [hi] at hp; simp at hp
 | some i =>
  rw [hi] at hp; simp only at hp
  cases ha : i.agg with
  | false =>
   simp only [ha,Bool.false_eq_true,if_false] at hp
   obtain ⟨x, hx, hr⟩ := h 0 v (by simpa [List.head?_eq_getElem?] using hp)
   have h0 : ad.add 0 = ad := by simp [Addr.add]
   rw [h0] at hx
   refine ⟨x, ?_, hr⟩
   simp [loadVar, ht.isAgg hi, ha, hx]
  | true =>
   simp only [ha,if_true] at hp
   split at hp
   ·rename_i hle
    simp only [Option.some.injEq] at hp; subst hp
    have hx : ∀ j, j < i.size → ∃ x, w.cell? (ad.add j) = some x ∧ ∀ c, cs[j]? = some c → aW E c x := fun j hj => by
     have qD : j < cs.length := by omega
     obtain ⟨x, hx, hr⟩ := h j _ (List.getElem?_eq_getElem qD)
     exact ⟨x, hx, fun c hc => by rw [List.getElem?_eq_getElem qD] at hc; cases hc; exact hr⟩
    let f : Nat → Value := fun j => (w.cell? (ad.add j)).getD default
    have hf : ∀ j, j < i.size → w.cell? (ad.add j) = some (f j) := fun j hj => by
     obtain ⟨x, hx, -⟩ := hx j hj
     simp [f, hx]
    refine ⟨.agg ((List.range i.size).map f).toArray, ?_, ?_⟩
    ·simp only [loadVar,Sem.run_bind,ht.isAgg hi,Result.andThen_ok,ha,if_true,ht.sizeOf hi]
     rw [run_loadCells w ad i.size f hf]
     simp
    ·refine .agg _ _ _ (by simp; omega) fun j c x hc X1 => ?_
     have hj : j < i.size := by
      by_cases hj : j < i.size
      ·exact hj
      ·rw [List.getElem?_take] at hc; simp [hj] at hc
     rw [List.getElem?_take_of_lt hj] at hc
     obtain ⟨y, hy, hr⟩ := hx j hj
     simp [hj] at X1
     rw [← X1]
     have : f j = y := by simp [f, hy]
     rw [this]; exact hr c hc
   ·simp at hp

theorem AU {E : Env} {w : World} (hF : ∀ ad x, E.F ad = some x → w.cell? ad = some x) {cs : List V} {x : Value} (h : aW E (.cg cs) x) : ∃ ad, x = .pointer (some ad) ∧ ji E w ad cs := by
 cases h with
 | cg _ _ ad xf hf hr => exact ⟨ad, rfl, fun j c hc => ⟨xf j, hF _ _ (hf j c hc), (hr j c hc).mono E.ml⟩⟩

theorem ik {w : World} {g : Nat} {xs : Array Value} {T : TypeId} {fz : Nat × Nat} (h : w.heap[g]? = some (.cells xs T fz)) (o : Nat) : w.cell? ⟨g, o, none⟩ = xs[o]? := by
 simp [World.cell?, h]

theorem Ep {E : Env} {w : World} {a : Act} {st : St} (hs : bc E w a st) {b o : Nat} {cs : List V} (hm : st.mem[b]? = some (.box cs)) {x : Value} (h : aW E (.ptr b o) x) :
  ∃ ad, x = .pointer (some ad) ∧ ji E w ad (cs.drop o) := by
 cases h with
 | ptr _ _ _ g e c hb =>
  obtain ⟨g', T, xs, ey, hh, hr, -⟩ := hs.mem b _ hm
  rw [hb] at ey; cases ey
  refine ⟨_, rfl, fun j c hc => ?_⟩
  rw [add_lit, ik hh]
  obtain ⟨y, hy, AV⟩ := hr.get (i := o + j) (by simpa using hc)
  exact ⟨y, by simpa using hy, AV⟩

theorem AW {E : Env} {w : World} {a : Act} {st : St} (hs : bc E w a st) {b v i o : Nat} {row : V} (hm : rowOf st.mem b v i = some row) {x : Value} (h : aW E (.dd b v i o) x) :
  ∃ ad, x = .pointer (some ad) ∧ ji E w ad (row.cells.drop o) := by
 cases h with
 | dd _ _ _ _ _ g e c hb =>
  refine ⟨_, rfl, fun j cc hc => ?_⟩
  rw [add_lit]
  have JY : row.cells[o + j]? = some cc := by simpa using hc
  unfold rowOf at hm
  split at hm
  ·rename_i v' e' rs hk
   split at hm
   ·rename_i hv
    subst hv
    rcases hs.mem b _ hk with ⟨rfl, -⟩ | ⟨g', T, xs, c', ey, hh, -, -, hr, -⟩
    ·simp at hm
    rw [hb] at ey; cases ey
    obtain ⟨-, h2⟩ := hr i row hm
    obtain ⟨y, hy, -, AV⟩ := h2 _ _ JY
    exact ⟨y, by rw [ik hh, Nat.add_assoc]; exact hy, AV.mono E.ml⟩
   ·cases hm
  ·rename_i v' e' rs hk
   split at hm
   ·rename_i hv
    subst hv
    rcases hs.mem b _ hk with ⟨rfl, -⟩ | ⟨g', c', ey, -, hr⟩
    ·simp at hm
    rw [hb] at ey; cases ey
    obtain ⟨-, h2⟩ := hr i row hm
    obtain ⟨y, hy, -, AV⟩ := h2 _ _ JY
    exact ⟨y, hs.F _ _ (by rw [Nat.add_assoc]; exact hy), AV.mono E.ml⟩
   ·cases hm
  ·simp at hm

theorem qE {P : Program} {tt : Table} (ht : TT P tt) {E : Env} {w : World} {a : Act} {st : St} (hs : bc E w a st) {T : TypeId} {p v : V} {x : Value} (hr : aW E p x) (h : kW tt st.mem T p = some v) :
  ∃ y, (Instr.loadAt T x).run P w = .ok y w ∧ aW E v y := by
 have key : ∃ ad cs, x = .pointer (some ad) ∧ ji E w ad cs ∧ dy tt T cs = some v := by
  unfold kW at h
  split at h
  ·split at h
   ·rename_i hm
    obtain ⟨ad, h1, h2⟩ := Ep hs hm hr
    exact ⟨ad, _, h1, h2, h⟩
   ·simp at h
  ·split at h
   ·rename_i hm
    obtain ⟨ad, h1, h2⟩ := AW hs hm hr
    exact ⟨ad, _, h1, h2, h⟩
   ·simp at h
  ·obtain ⟨ad, h1, h2⟩ := AU hs.F hr
   exact ⟨ad, _, h1, h2, h⟩
  ·simp at h
 obtain ⟨ad, cs, rfl, hc, hp⟩ := key
 obtain ⟨y, hy, AV⟩ := rB ht hc hp
 exact ⟨y, by simp [Instr.loadAt, Instr.sureAddr, hy], AV⟩

theorem wj {P : Program} {tt : Table} (ht : TT P tt) {E : Env} {S : TypeId} {f : Nat} {p v : V} {x : Value} (hr : aW E p x) (h : wi tt S f p = some v) (w : World) :
  ∃ y, (Instr.fieldAt S x f).run P w = .ok y w ∧ aW E v y := by
 unfold wi JX at h
 cases hi : tt S with
 | none => rw [hi] at h; simp at h
 | some i =>
  rw [hi] at h; simp only at h
  cases ho : i.bx[f]? with
  | none => rw [ho] at h; simp at h
  | some off =>
   rw [ho] at h; simp only at h
   obtain ⟨d, hd, -, -, Vk⟩ := ht.desc S i hi
   obtain ⟨fs, fd, inf, rfl, -, hf, QX, gJ, jd, fR⟩ := Vk f off.1 off.2 ho
   have jH : inf.size ≠ 0 := by omega
   obtain ⟨off, sz⟩ := off
   dsimp only at QX
   subst QX
   have run : ∀ ad, (Instr.fieldAt S (.pointer (some ad)) f).run P w = .ok (.pointer (some (ad.add fd.offset))) w := fun ad => by
    simp [Instr.fieldAt, aq hd, hf, Instr.sureAddr, fieldPlace, de gJ, jH]
   unfold Eng.fieldAt at h
   split at h
   ·simp only [Option.some.injEq] at h; subst h
    cases hr with
    | ptr _ _ _ g e c hb => exact ⟨_, run _, by rw [add_lit]; exact .ptr _ _ _ g e c hb⟩
   ·simp only [Option.some.injEq] at h; subst h
    cases hr with
    | dd _ _ _ _ _ g e c hb => exact ⟨_, run _, by rw [add_lit, Nat.add_assoc]; exact .dd _ _ _ _ _ g e c hb⟩
   ·simp only [Option.some.injEq] at h; subst h
    cases hr with
    | cg _ _ ad xf hf hr => exact ⟨_, run _, .cg _ _ _ (fun j => xf (fd.offset + j)) (fun j c hc => by rw [add_add]; exact hf _ _ (by simpa using hc)) fun j c hc => hr _ _ (by simpa using hc)⟩
   ·simp at h

theorem xV {E : Env} {w : World} {a : Act} {st : St} (hs : bc E w a st) {b v size g e c : Nat} (h : eM st.mem b v = some size) (hb : E.aI b v = some (g, e, c)) : e = size := by
 unfold eM at h
 split at h
 ·rename_i hk
  split at h
  ·rename_i hv
   subst hv
   rcases hs.mem b _ hk with ⟨-, hn⟩ | ⟨g', T', xs, c', ey, -⟩
   ·rw [hb] at hn; cases hn
   rw [hb] at ey; cases ey; simpa using h
  ·cases h
 ·rename_i hk
  split at h
  ·rename_i hv
   subst hv
   rcases hs.mem b _ hk with ⟨-, hn⟩ | ⟨g', c', ey, -⟩
   ·rw [hb] at hn; cases hn
   rw [hb] at ey; cases ey; simpa using h
  ·cases h
 ·simp at h

theorem wk {P : Program} {tt : Table} (ht : TT P tt) {E : Env} {w : World} {a : Act} {st : St} (hs : bc E w a st) {T : TypeId} {p i v : V} {x y : Value} (hp : aW E p x) (hi : aW E i y) (h : iC tt st.mem T p i = some v) :
  ∃ z, (Instr.indexAt T x y).run P w = .ok z w ∧ aW E v z := by
 unfold iC at h
 split at h
 ·rename_i k n
  cases hi with
  | sc =>
  unfold dG jh at h
  cases hT : tt T with
  | none => rw [hT] at h; simp at h
  | some iT =>
   rw [hT] at h; simp only at h
   cases he : iT.elem with
   | none => rw [he] at h; simp at h
   | some e =>
    rw [he] at h; simp only at h
    cases hE : tt e with
    | none => rw [hE] at h; simp at h
    | some ie =>
     rw [hE] at h; simp only at h
     obtain ⟨d, hd, -, ki, -⟩ := ht.desc T iT hT
     obtain rfl := ki e he
     have run : ∀ (ad : Addr) (len cap : Nat), 0 ≤ n → n < len → (Instr.indexAt T (.slice (some ad) len cap) (.int k n)).run P w = .ok (.pointer (some (ad.add (n.toNat * ie.size)))) w := fun ad len cap h0 h1 => by
      simp [Instr.indexAt, asIntOf, aq hd, ht.sizeOf hE, h0, h1]
     unfold Eng.indexAt at h
     split at h
     ·rename_i rows
      split at h
      ·rename_i h0
       split at h
       ·rename_i row b8
        split at h
        ·rename_i hlen
         simp only [Option.some.injEq] at h; subst h
         cases hp with
         | slice _ _ aa cap nE ad xf ha ij hz hF h1 hR =>
          have aD : n.toNat < rows.length := (List.getElem?_eq_some_iff.1 b8).1
          have bH : rows ≠ [] := by rintro rfl; simp at aD
          obtain rfl := ha bH
          have Vl : nE = ie.size := by rw [← hz _ _ b8, hlen]
          subst Vl
          exact ⟨_, run ad _ cap h0 (by omega), .cg _ _ _ (fun j => xf n.toNat j) (fun j c hc => by rw [add_add]; exact hF _ _ _ _ b8 hc) fun j c hc => hR _ _ _ _ b8 hc⟩
        ·simp at h
       ·simp at h
      ·simp at h
     ·rename_i b v s l
      split at h
      ·rename_i h0
       obtain ⟨h0, h1, h2⟩ := h0
       simp only [Option.some.injEq] at h; subst h
       cases hp with
       | cZ => simp at h1; omega
       | ms _ _ _ _ _ g e' c aa cap hb hl Gj hc =>
        obtain rfl := hl (by omega)
        have Y0 : e' = ie.size := xV hs h2 hb
        subst Y0
        refine ⟨_, run _ _ cap h0 h1, ?_⟩
        have := aW.dd E b v (s + n.toNat) 0 g ie.size c hb
        rw [add_lit, ← Nat.add_mul]
        simpa using this
      ·simp at h
     ·simp at h
 ·simp at h
end Go.Eng
end

section
namespace Go.Eng
variable [aH]

def ni : List V → Option (List Value)
 | [] => some []
 | .sc v :: r => match ni r with | some l => some (v :: l) | none => none
 | _ :: _ => none

def bA : V → Option Value
 | .sc v => some v
 | .agg cs => match ni cs with | some l => some (.agg l.toArray) | none => none
 | _ => none

theorem u0 {E : Env} : ∀ {vs : List V} {xs : List Value} {l : List Value}, aP E vs xs → ni vs = some l → xs = l
 | [], xs, l, h, hl => by simp [ni] at hl; subst hl; exact h.of_nil
 | v :: vs, xs, l, h, hl => by
  obtain ⟨x, ys, rfl, h1, h2⟩ := h.of_cons
  cases v with
  | sc v =>
   simp only [ni] at hl
   split at hl
   ·rename_i l' AI
    simp only [Option.some.injEq] at hl; subst hl
    cases h1
    rw [u0 h2 AI]
   ·simp at hl
  | _ => simp [ni] at hl

theorem eN {E : Env} {v : V} {x y : Value} (h : aW E v x) (hv : bA v = some y) : x = y := by
 cases v with
 | sc v => cases h; simpa [bA] using hv
 | agg cs =>
  simp only [bA] at hv
  split at hv
  ·rename_i l hl
   simp only [Option.some.injEq] at hv; subst hv
   cases h with
   | agg _ _ xs hlen hr =>
    have := u0 (E := E) (xs := xs.toList) ⟨by simpa using hlen, fun i c x hc hx => hr i c x hc (by simpa using hx)⟩ hl
    rw [← this]
  ·simp at hv
 | _ => simp [bA] at hv

def nj (P : Program) (f : Value → Sem Value) (x : V) : Option V :=
 match bA x with
 | some a => match aG P (f a) with | some v => some (dx v) | none => none
 | none => none
def aQ (P : Program) (f : Value → Value → Sem Value) (x y : V) : Option V :=
 match bA x with
 | some a => match bA y with
  | some b => match aG P (f a b) with | some v => some (dx v) | none => none
  | none => none
 | none => none

theorem lu {P : Program} {f : Value → Sem Value} {E : Env} {w : World} {x v : V} {a : Value} (hx : aW E x a) (h : nj P f x = some v) : ∃ y, (f a).run P w = .ok y w ∧ aW E v y := by
 unfold nj at h
 split at h
 ·rename_i a' ha
  cases eN hx ha
  split at h
  ·rename_i y hy
   simp only [Option.some.injEq] at h; subst h
   exact ⟨y, cA _ hy w, fy E y⟩
  ·simp at h
 ·simp at h
theorem gM {P : Program} {f : Value → Value → Sem Value} {E : Env} {w : World} {x y v : V} {a b : Value} (hx : aW E x a) (hy : aW E y b) (h : aQ P f x y = some v) :
  ∃ z, (f a b).run P w = .ok z w ∧ aW E v z := by
 unfold aQ at h
 split at h
 ·rename_i a' ha
  cases eN hx ha
  split at h
  ·rename_i b' hb
   cases eN hy hb
   split at h
   ·rename_i z hz
    simp only [Option.some.injEq] at h; subst h
    exact ⟨z, cA _ hz w, fy E z⟩
   ·simp at h
  ·simp at h
 ·simp at h

def NY : V → Option V
 | .ptr b o => some (.ptr b o)
 | .dd b v i o => some (.dd b v i o)
 | .cg cs => some (.cg cs)
 | .fQ (.func f) a b => some (.fQ (.func f) a b)
 | .sc (.func (.func f) a b) => some (.sc (.func (.func f) a b))
 | _ => none

def bY (rows : List V) (l size : Nat) : Bool := match rows[l]? with | some row => row.cells.length == size | none => true

def cutAt (mem : List aw) (size : Nat) (l : Int) (h : Option Int) : V → Option V
 | .slice rows =>
  if 0 ≤ l ∧ l ≤ h.getD rows.length ∧ h.getD rows.length ≤ rows.length ∧ bY rows l.toNat size = true then some (.slice ((rows.drop l.toNat).take (h.getD rows.length - l).toNat)) else none
 | .ms b v s n =>
  if 0 ≤ l ∧ l ≤ h.getD n ∧ h.getD n ≤ n ∧ eM mem b v = some size then some (.ms b v (s + l.toNat) (h.getD n - l).toNat) else none
 | _ => none

def xW : V → Option Int
 | .sc (.int _ n) => some n
 | _ => none

def sk (P : Program) (tt : Table) (mem : List aw) (T : TypeId) (x : V) (lo hi : Option V) : Option V :=
 match x with
 | .sc a => match lo with
  | none => match hi with
   | none => nj P (fun a => Instr.sliceAt T a none none none) (.sc a)
   | some h => aQ P (fun a h => Instr.sliceAt T a none (some h) none) (.sc a) h
  | some l => match hi with
   | none => aQ P (fun a l => Instr.sliceAt T a (some l) none none) (.sc a) l
   | some h => match bA h with
    | some h => aQ P (fun a l => Instr.sliceAt T a (some l) (some h) none) (.sc a) l
    | none => none
 | x => match dG tt T with
  | none => none
  | some e => match jh tt e with
   | none => none
   | some size => match lo with
    | none => match hi with
     | none => cutAt mem size 0 none x
     | some h => match xW h with | some h => cutAt mem size 0 (some h) x | none => none
    | some l => match xW l with
     | none => none
     | some l => match hi with
      | none => cutAt mem size l none x
      | some h => match xW h with | some h => cutAt mem size l (some h) x | none => none

theorem lv {E : Env} {v : V} {x : Value} {n : Int} (h : aW E v x) (hv : xW v = some n) : ∃ k, x = .int k n := by
 unfold xW at hv
 split at hv
 ·cases h; simp at hv; subst hv; exact ⟨_, rfl⟩
 ·simp at hv

theorem jj {E : Env} {w : World} {a : Act} {st : St} (hs : bc E w a st) {size : Nat} {l : Int} {h : Option Int} {x v : V} {y : Value} (hx : aW E x y) (hc : cutAt st.mem size l h x = some v) :
  ∃ aa len cap, y = .slice aa len cap ∧ 0 ≤ l ∧ l ≤ h.getD len ∧ h.getD len ≤ len ∧ len ≤ cap ∧
   aW E v (.slice (if cap = l.toNat then aa else aa.map (·.add (l.toNat * size))) (h.getD len - l).toNat (cap - l.toNat)) := by
 unfold cutAt at hc
 split at hc
 ·rename_i rows
  split at hc
  ·rename_i hh
   obtain ⟨h0, h1, h2, h3⟩ := hh
   simp only [Option.some.injEq] at hc; subst hc
   cases hx with
   | slice _ _ aa cap nE ad xf ha ij hz hF kn hR =>
    refine ⟨aa, rows.length, cap, rfl, h0, h1, h2, ij, ?_⟩
    have hlen : ((rows.drop l.toNat).take (h.getD rows.length - l).toNat).length = (h.getD rows.length - l).toNat := by simp; omega
    have hg : ∀ (i : Nat) (row : V), ((rows.drop l.toNat).take (h.getD rows.length - l).toNat)[i]? = some row → rows[l.toNat + i]? = some row := fun i row hi => by
     rw [List.getElem?_take] at hi
     split at hi
     ·simpa using hi
     ·simp at hi
    suffices xX : aW E (.slice ((rows.drop l.toNat).take (h.getD rows.length - l).toNat)) (.slice (if cap = l.toNat then aa else aa.map (·.add (l.toNat * size))) ((rows.drop l.toNat).take (h.getD rows.length - l).toNat).length (cap - l.toNat)) by
     rw [hlen] at xX; exact xX
    refine .slice _ _ _ (cap - l.toNat) nE (ad.add (l.toNat * nE)) (fun i j => xf (l.toNat + i) j) (fun bH => ?_) (by rw [hlen]; omega) (fun i row hi => hz _ _ (hg i row hi))
     (fun i row j c hi hj => by rw [add_add, ← Nat.add_assoc, ← Nat.add_mul]; exact hF _ _ _ _ (hg i row hi) hj) (fun i row j c hi hj => kn _ _ _ _ (hg i row hi) hj) fun i row j c hi hj => hR _ _ _ _ (hg i row hi) hj
    have aD : l.toNat < rows.length := by
     rcases Nat.lt_or_ge l.toNat rows.length with aD | c5
     ·exact aD
     ·exact absurd (by rw [List.drop_eq_nil_of_le c5]; simp) bH
    have Gk : rows ≠ [] := by rintro rfl; simp at aD
    rw [if_neg (by omega), ha Gk]
    unfold bY at h3
    rw [List.getElem?_eq_getElem aD] at h3
    simp only [beq_iff_eq] at h3
    rw [← h3, hz _ _ (List.getElem?_eq_getElem aD)]
    rfl
  ·simp at hc
 ·rename_i b v s n
  split at hc
  ·rename_i hh
   obtain ⟨h0, h1, h2, h3⟩ := hh
   simp only [Option.some.injEq] at hc; subst hc
   cases hx with
   | cZ =>
    refine ⟨none, 0, 0, rfl, h0, h1, h2, Nat.le_refl _, ?_⟩
    have e1 : l.toNat = 0 := by have : ((0 : Nat) : Int) = 0 := rfl; omega
    have e2 : (h.getD (0 : Nat) - l).toNat = 0 := by have : ((0 : Nat) : Int) = 0 := rfl; omega
    rw [e1, e2]
    exact .cZ _ _ _ _
   | ms _ _ _ _ _ g e c aa cap hb hl Gj CX =>
    obtain rfl := xV hs h3 hb
    refine ⟨aa, n, cap, rfl, h0, h1, h2, CX.1, ?_⟩
    refine .ms _ _ _ _ _ g e c _ _ hb (fun hp => ?_) (fun hz => ?_) ⟨by omega, by omega, fun hp => by
     rw [if_neg (by omega), CX.2.2 (by omega)]
     simp only [Option.map_some,add_lit,← Nat.add_mul]⟩
    ·rw [if_neg (by omega), hl (by omega)]
     simp only [Option.map_some,add_lit,← Nat.add_mul]
    ·obtain ⟨h5, h6⟩ := Gj (by omega)
     have : l.toNat = 0 := by omega
     rw [this, h5]
     refine ⟨?_, by omega⟩
     split
     ·rfl
     ·simp [Addr.add]
  ·simp at hc
 ·simp at hc

theorem jk {P : Program} {tt : Table} (ht : TT P tt) {T e : TypeId} {size : Nat} (he : dG tt T = some e) (hz : jh tt e = some size) (w : World) (aa : Option Addr) (len cap : Nat) (lo hi : Option Value)
  (l : Int) (h : Option Int) (kX : (lo = none ∧ l = 0) ∨ ∃ k, lo = some (.int k l)) (ou : (hi = none ∧ h = none) ∨ ∃ k n, hi = some (.int k n) ∧ h = some n)
  (h0 : 0 ≤ l) (h1 : l ≤ h.getD len) (h2 : h.getD len ≤ len) (h3 : len ≤ cap) :
  (Instr.sliceAt T (.slice aa len cap) lo hi none).run P w = .ok (.slice (if cap = l.toNat then aa else aa.map (·.add (l.toNat * size))) (h.getD len - l).toNat (cap - l.toNat)) w := by
 unfold dG at he
 unfold jh at hz
 cases hT : tt T with
 | none => rw [hT] at he; simp at he
 | some iT =>
  rw [hT] at he; simp only at he
  cases hE : tt e with
  | none => rw [hE] at hz; simp at hz
  | some ie =>
   rw [hE] at hz; simp only [Option.some.injEq] at hz; subst hz
   obtain ⟨d, hd, -, ki, -⟩ := ht.desc T iT hT
   obtain rfl := ki e he
   have dT : ∀ m : Int, (m - l).toNat = m.toNat - l.toNat := fun m => by omega
   rcases kX with ⟨rfl, rfl⟩ | ⟨k, rfl⟩ <;> rcases ou with ⟨rfl, rfl⟩ | ⟨k', n, rfl, rfl⟩ <;>
    simp only [Option.getD_some,Option.getD_none] at h1 h2 ⊢ <;>
    simp only [Instr.sliceAt,Instr.slice,Sem.run_bind,aq hd,Result.andThen_ok,Instr.sliceBounds,Instr.sliceBound,asIntOf,Sem.run_pure,ht.sizeOf hE,Option.isSome_none]
   ·simp
   ·rw [if_pos ⟨by omega, by omega⟩]; simp
   ·rw [if_pos ⟨by omega, by omega⟩]; simp; omega
   ·rw [if_pos ⟨by omega, by omega⟩]
    simp only [Sem.run_pure,Result.andThen_ok]
    rw [if_pos ⟨by omega, by omega⟩]
    simp; omega
end Go.Eng
end

section
namespace Go.Eng
variable [aH]

def dU (kind : TypeDesc) (k : Value) : List (Value × Nat × V) → Nat → Option (Option (Nat × V))
 | [], _ => some none
 | e :: r, i => match Instr.sameNow kind k e.1 with
  | some true => some (some (i, e.2.2))
  | some false => dU kind k r (i + 1)
  | none => none
def iD (P : Program) (T : TypeId) (k : Value) : List (Value × Nat × V) → Nat → Option (Option (Nat × V))
 | [], _ => some none
 | e :: r, i => match aG P (Op.equal T k e.1) with
  | some true => some (some (i, e.2.2))
  | some false => iD P T k r (i + 1)
  | none => none
def kY (P : Program) (T : TypeId) (k : Value) (aY : List (Value × Nat × V)) : Option (Option (Nat × V)) :=
 match P.underlying T with
 | some d => match dU d k aY 0 with
  | some r => some r
  | none => iD P T k aY 0
 | none => none

def Found (E : Env) (aY : List (Value × Nat × V)) (es : List MapEntry) : Option (Nat × V) → Option (Nat × Value) → Prop
 | none, none => True
 | some (i, v), some (j, x) => i = j ∧ aW E v x ∧ ∃ kb e, aY[i]? = some kb ∧ es[i]? = some e ∧ kb.2.2 = v ∧ e.val = x
 | _, _ => False

theorem cx.get {E : Env} {aY : List (Value × Nat × V)} {es : List MapEntry} (h : cx E aY es) {i : Nat} {kb : Value × Nat × V} (hk : aY[i]? = some kb) : ∃ e, es[i]? = some e ∧ e.key = kb.1 ∧ e.born = kb.2.1 ∧ aW E kb.2.2 e.val := by
 have hi : i < es.length := by rw [← h.1]; exact (List.getElem?_eq_some_iff.1 hk).1
 exact ⟨es[i], List.getElem?_eq_getElem hi, h.2 i kb _ hk (List.getElem?_eq_getElem hi)⟩
theorem cx.drop {E : Env} {aY : List (Value × Nat × V)} {es : List MapEntry} (h : cx E aY es) (n : Nat) : cx E (aY.drop n) (es.drop n) :=
 ⟨by simp [h.1], fun i k e hk he => h.2 (n + i) k e (by simpa using hk) (by simpa using he)⟩
theorem cx.of_nil {E : Env} {es : List MapEntry} (h : cx E [] es) : es = [] := by have := h.1; simp at this; exact List.length_eq_zero_iff.1 this.symm
theorem cx.of_cons {E : Env} {k : Value × Nat × V} {r : List (Value × Nat × V)} {es : List MapEntry} (h : cx E (k :: r) es) : ∃ e es', es = e :: es' ∧ e.key = k.1 ∧ e.born = k.2.1 ∧ aW E k.2.2 e.val ∧ cx E r es' := by
 cases es with
 | nil => have := h.1; simp at this
 | cons e es' =>
  obtain ⟨h1, h2, h3⟩ := h.2 0 k e rfl rfl
  exact ⟨e, es', rfl, h1, h2, h3, by have := h.1; simpa using this, fun i k' e' hk he => h.2 (i + 1) k' e' (by simpa using hk) (by simpa using he)⟩

theorem sm {E : Env} {kind : TypeDesc} {k : Value} {aY : List (Value × Nat × V)} {es : List MapEntry} (h : cx E aY es) : ∀ (n : Nat) {r : Option (Nat × V)}, dU kind k (aY.drop n) n = some r →
  ∃ r', Instr.findNow kind k (es.drop n) n = some r' ∧ Found E aY es r r' := by
 intro n
 generalize hl : aY.length - n = m
 induction m generalizing n with
 | zero =>
  intro r hr
  have h1 : aY.drop n = [] := List.drop_eq_nil_of_le (by omega)
  have h2 : es.drop n = [] := List.drop_eq_nil_of_le (by have := h.1; omega)
  rw [h1] at hr; rw [h2]
  simp only [dU,Option.some.injEq] at hr; subst hr
  exact ⟨none, rfl, trivial⟩
 | succ m ih =>
  intro r hr
  have hn : n < aY.length := by omega
  have ME : n < es.length := by have := h.1; omega
  rw [List.drop_eq_getElem_cons hn] at hr
  rw [List.drop_eq_getElem_cons ME]
  have hk := List.getElem?_eq_getElem hn
  have he := List.getElem?_eq_getElem ME
  obtain ⟨h1, h2, h3⟩ := h.2 n _ _ hk he
  simp only [dU] at hr
  simp only [Instr.findNow,h1]
  split at hr
  ·rename_i hs; rw [hs]; simp only [Option.some.injEq] at hr; subst hr
   exact ⟨_, rfl, rfl, h3, _, _, hk, he, rfl, rfl⟩
  ·rename_i hs; rw [hs]; exact ih (n + 1) (by omega) hr
  ·cases hr
theorem uB {E : Env} {kind : TypeDesc} {k : Value} {aY : List (Value × Nat × V)} {es : List MapEntry} (h : cx E aY es) : ∀ (n : Nat), dU kind k (aY.drop n) n = none → Instr.findNow kind k (es.drop n) n = none := by
 intro n
 generalize hl : aY.length - n = m
 induction m generalizing n with
 | zero =>
  intro hr
  have h1 : aY.drop n = [] := List.drop_eq_nil_of_le (by omega)
  rw [h1] at hr
  simp [dU] at hr
 | succ m ih =>
  intro hr
  have hn : n < aY.length := by omega
  have ME : n < es.length := by have := h.1; omega
  rw [List.drop_eq_getElem_cons hn] at hr
  rw [List.drop_eq_getElem_cons ME]
  obtain ⟨h1, h2, h3⟩ := h.2 n _ _ (List.getElem?_eq_getElem hn) (List.getElem?_eq_getElem ME)
  simp only [dU] at hr
  simp only [Instr.findNow,h1]
  split at hr
  ·cases hr
  ·rename_i hs; rw [hs]; exact ih (n + 1) (by omega) hr
  ·rename_i hs; rw [hs]
theorem sn {P : Program} {E : Env} {T : TypeId} {k : Value} {aY : List (Value × Nat × V)} {es : List MapEntry} (h : cx E aY es) (w : World) : ∀ (n : Nat) {r : Option (Nat × V)}, iD P T k (aY.drop n) n = some r →
  ∃ r', (Instr.findAsking T k (es.drop n) n).run P w = .ok r' w ∧ Found E aY es r r' := by
 intro n
 generalize hl : aY.length - n = m
 induction m generalizing n with
 | zero =>
  intro r hr
  have h1 : aY.drop n = [] := List.drop_eq_nil_of_le (by omega)
  have h2 : es.drop n = [] := List.drop_eq_nil_of_le (by have := h.1; omega)
  rw [h1] at hr; rw [h2]
  simp only [iD,Option.some.injEq] at hr; subst hr
  exact ⟨none, rfl, trivial⟩
 | succ m ih =>
  intro r hr
  have hn : n < aY.length := by omega
  have ME : n < es.length := by have := h.1; omega
  rw [List.drop_eq_getElem_cons hn] at hr
  rw [List.drop_eq_getElem_cons ME]
  have hk := List.getElem?_eq_getElem hn
  have he := List.getElem?_eq_getElem ME
  obtain ⟨h1, h2, h3⟩ := h.2 n _ _ hk he
  simp only [iD] at hr
  simp only [Instr.findAsking,h1,Sem.run_bind]
  split at hr
  ·rename_i hs; rw [cA _ hs w]; simp only [Option.some.injEq] at hr; subst hr
   exact ⟨_, rfl, rfl, h3, _, _, hk, he, rfl, rfl⟩
  ·rename_i hs; rw [cA _ hs w]
   simpa using ih (n + 1) (by omega) hr
  ·cases hr
theorem df {P : Program} {E : Env} {T : TypeId} {k : Value} {aY : List (Value × Nat × V)} {es : Array MapEntry} (h : cx E aY es.toList) (w : World) {r : Option (Nat × V)} (hr : kY P T k aY = some r) :
  ∃ r', (Instr.findKey T k es.toList).run P w = .ok r' w ∧ Found E aY es.toList r r' := by
 unfold kY at hr
 split at hr
 ·rename_i d hd
  simp only [Instr.findKey,Sem.run_bind,aq hd,Result.andThen_ok]
  split at hr
  ·rename_i r1 h1
   simp only [Option.some.injEq] at hr; subst hr
   obtain ⟨r', h2, h3⟩ := sm h 0 (r := r1) (by simpa using h1)
   simp only [List.drop_zero] at h2
   rw [h2]
   exact ⟨r', rfl, h3⟩
  ·rename_i h1
   have h2 := uB h 0 (by simpa using h1)
   simp only [List.drop_zero] at h2
   rw [h2]
   simpa using sn h w 0 (r := r) (by simpa using hr)
 ·cases hr

def nk (P : Program) (T : TypeId) (k : Value) : Bool :=
 match P.underlying T with
 | some (.int _) => true
 | some .string => true
 | some .bool => true
 | _ => match aG P (Instr.checkKey false 10000 T k), aG P (Instr.checkKey true 10000 T k) with
  | some _, some _ => true
  | _, _ => false
theorem jl {P : Program} {T : TypeId} {k : Value} (h : nk P T k = true) (b : Bool) (w : World) : (Instr.checkKey b 10000 T k).run P w = .ok () w := by
 unfold nk at h
 have NZ : ∀ d, P.underlying T = some d → (∀ m, d ≠ .interface m) → (∀ n e, d ≠ .array n e) → (∀ fs, d ≠ .struct fs) → (Instr.checkKey b 10000 T k).run P w = .ok () w := by
  intro d hd h1 h2 h3
  show (Instr.checkKey b (9999 + 1) T k).run P w = _
  rw [Instr.checkKey]
  simp only [Sem.run_bind,aq hd,Result.andThen_ok]
  cases d <;> first | (cases k <;> rfl) | exact absurd rfl (h1 _) | exact absurd rfl (h2 _ _) | exact absurd rfl (h3 _)
 split at h
 ·rename_i hd; exact NZ _ hd (by simp) (by simp) (by simp)
 ·rename_i hd; exact NZ _ hd (by simp) (by simp) (by simp)
 ·rename_i hd; exact NZ _ hd (by simp) (by simp) (by simp)
 ·split at h
  ·rename_i h1 h2
   cases b
   ·exact cA _ h1 w
   ·exact cA _ h2 w
  ·cases h

def zeroV (P : Program) (T : TypeId) : Option V :=
 match P.info? T with
 | some i => match i.zero with | some z => some (dx z) | none => none
 | none => none
theorem lx {P : Program} {T : TypeId} {v : V} (h : zeroV P T = some v) (E : Env) (w : World) : ∃ z, (zeroValue T).run P w = .ok z w ∧ aW E v z := by
 unfold zeroV at h
 split at h
 ·rename_i i hi
  split at h
  ·rename_i z hz
   cases h
   exact ⟨z, by simp [zeroValue, cE hi, hz], fy E z⟩
  ·cases h
 ·cases h
def cU (P : Program) (T : TypeId) : Option (TypeId × TypeId) := match P.underlying T with | some (.map k e) => some (k, e) | _ => none
theorem fc {P : Program} {T kt et : TypeId} (h : cU P T = some (kt, et)) : P.underlying T = some (.map kt et) := by
 unfold cU at h
 split at h
 ·rename_i hd; cases h; exact hd
 ·cases h

def QY (ok b : Bool) (v : V) : V := if ok = true then .bN [v, .sc (.bool b)] else v
theorem wm {E : Env} {v : V} {x : Value} (h : aW E v x) (ok b : Bool) : aW E (QY ok b v) (if ok = true then .tuple #[x, .bool b] else x) := by
 unfold QY
 split
 ·refine .bN _ _ _ rfl fun i c y hc hy => ?_
  match i with
  | 0 => simp at hc hy; subst hc; subst hy; exact h
  | 1 => simp at hc hy; subst hc; subst hy; exact .sc _ _
  | i + 2 => simp at hc
 ·exact h
def ov (P : Program) (mem : List aw) (kt et : TypeId) (m : V) (key : Value) (ok : Bool) : Option V :=
 match m with
 | .mp b => match mem[b]? with
  | some (.map aY _) => match kY P kt key aY with
   | some (some (_, v)) => some (QY ok true v)
   | some none => match zeroV P et with | some z => some (QY ok false z) | none => none
   | none => none
  | _ => none
 | .sc (.map none) => match kY P kt key [] with
  | some none => match zeroV P et with | some z => some (QY ok false z) | none => none
  | _ => none
 | _ => none
def dg (P : Program) (mem : List aw) (T : TypeId) (m i : V) (ok : Bool) : Option V :=
 match cU P T with
 | some (kt, et) => match bA i with
  | some key => if nk P kt key = true then ov P mem kt et m key ok else none
  | none => none
 | none => none

theorem nF {E : Env} {b : Nat} {x : Value} (h : aW E (.mp b) x) : ∃ g e c, x = .map (some g) ∧ E.aI b 0 = some (g, e, c) := by
 cases h with | mp _ _ l e c hb => exact ⟨l, e, c, rfl, hb⟩
theorem gA {E : Env} {w : World} {a : Act} {st : St} (hs : bc E w a st) {b : Nat} {aY : List (Value × Nat × V)} {clock : Nat} (hm : st.mem[b]? = some (.map aY clock)) {g e c : Nat} (hb : E.aI b 0 = some (g, e, c)) :
  ∃ es, w.heap[g]? = some (.map es clock) ∧ cx E aY es.toList ∧ (∀ o, E.F ⟨g, o, none⟩ = none) ∧ (e, c) = (0, 0) := by
 obtain ⟨g', es, h1, h2, h3, h4⟩ := hs.mem b _ hm
 rw [hb] at h1; cases h1
 exact ⟨es, h2, h3, h4, rfl⟩
theorem cb {P : Program} {w : World} {g : Nat} {es : Array MapEntry} {clock : Nat} (h : w.heap[g]? = some (.map es clock)) : (getObj g).run P w = .ok (.map es clock) w := by simp [getObj, Sem.run, h]
theorem dL {P : Program} {w : World} {g : Nat} {o o' : Obj} (h : w.heap[g]? = some o) (hc : ∀ a b c, o ≠ .cells a b c) : (setObj g o').run P w = .ok () { w with heap := w.heap.setIfInBounds g o' } := by
 unfold setObj
 rw [Sem.run, h]
 cases o <;> first | rfl | exact absurd rfl (hc _ _ _)

theorem mm {E : Env} {v y : Value} (h : aW E (.sc v) y) : y = v := by cases h; rfl
theorem uC {P : Program} {E : Env} {w : World} {a : Act} {st : St} (hs : bc E w a st) {T : TypeId} {m i v : V} {ok : Bool} {x y : Value} (hm : aW E m x) (hi : aW E i y) (h : dg P st.mem T m i ok = some v) :
  ∃ z, (Instr.lookup T x y ok).run P w = .ok z w ∧ aW E v z := by
 unfold dg at h
 split at h
 ·rename_i kt et hd
  have hd := fc hd
  split at h
  ·rename_i key b9
   cases eN hi b9
   split at h
   ·rename_i bK
    have AX := fun b => jl bK b w
    unfold ov at h
    split at h
    ·rename_i b
     obtain ⟨g, e, c, rfl, hb⟩ := nF hm
     split at h
     ·rename_i aY clock hB
      obtain ⟨es, hh, hr, -⟩ := gA hs hB hb
      split at h
      ·rename_i j u hf
       obtain ⟨r', h1, h2⟩ := df hr w hf
       match r', h2 with
       | some (j', z), h2 =>
        cases h
        exact ⟨_, by simp [Instr.lookup, aq hd, cb hh, AX, h1], wm h2.2.1 ok true⟩
      ·rename_i hf
       obtain ⟨r', h1, h2⟩ := df hr w hf
       match r', h2 with
       | none, h2 =>
        split at h
        ·rename_i z hz
         cases h
         obtain ⟨z', h3, h4⟩ := lx hz E w
         exact ⟨_, by simp [Instr.lookup, aq hd, cb hh, AX, h1, h3], wm h4 ok false⟩
        ·cases h
      ·cases h
     ·cases h
    ·obtain rfl := mm hm
     split at h
     ·rename_i hf
      obtain ⟨r', h1, h2⟩ := df (E := E) (es := #[]) ⟨rfl, fun i k e h => by simp at h⟩ w hf
      match r', h2 with
      | none, h2 =>
       split at h
       ·rename_i z hz
        cases h
        obtain ⟨z', h3, h4⟩ := lx hz E w
        exact ⟨_, by simp at h1; simp [Instr.lookup, aq hd, AX, h1, h3], wm h4 ok false⟩
       ·cases h
     ·cases h
    ·cases h
   ·cases h
  ·cases h
 ·cases h
def ow (mem : List aw) (ts : Array TypeId) (P : Program) : List V → Option V
 | [.mp b] => match mem[b]? with
  | some (.map aY _) => match ts[0]? with
   | some T => match cU P T with | some _ => some (.sc (.int .i64 aY.length)) | none => none
   | none => none
  | _ => none
 | _ => none
theorem AY {P : Program} {E : Env} {w : World} {a : Act} {st : St} (hs : bc E w a st) {ts : Array TypeId} {ty : TypeId} {xs : List V} {v : V} {ys : Array Value} (hx : aP E xs ys.toList) (h : ow st.mem ts P xs = some v) :
  ∃ z, (Builtin.len_ ts ty ys).run P w = .ok z w ∧ aW E v z := by
 unfold ow at h
 split at h
 ·rename_i b
  split at h
  ·rename_i aY clock hB
   split at h
   ·rename_i T h0
    split at h
    ·rename_i p hp
     cases h
     obtain ⟨kt, et⟩ := p
     have hd := fc hp
     obtain ⟨x, r, hy, h1, h2⟩ := hx.of_cons
     have := h2.of_nil; subst this
     obtain rfl : ys = #[x] := by rw [← Array.toArray_toList (xs := ys), hy]
     obtain ⟨g, e, c, rfl, hb⟩ := nF h1
     obtain ⟨es, hh, hr, -⟩ := gA hs hB hb
     refine ⟨.int .i64 es.size, by simp [Builtin.len_, h0, aq hd, cb hh, goInt], ?_⟩
     have : aY.length = es.size := by simpa using hr.1
     rw [this]; exact .sc _ _
    ·cases h
   ·cases h
  ·cases h
 ·cases h
def xY (mem : List aw) (it : V) : Option V :=
 match it with
 | .ptr b 0 => match mem[b]? with
  | some (.dF m _ seen last) => match mem[m]? with
   | some (.map aY clock) => if clock = last then (match seen.getLast? with
    | some xZ => match aY.find? (fun e => e.2.1 == xZ) with
     | some e => some (.bN [dx e.1, e.2.2])
     | none => none
    | none => none) else none
   | _ => none
  | _ => none
 | _ => none
theorem cx.find {E : Env} (p : Nat → Bool) : ∀ {aY : List (Value × Nat × V)} {es : List MapEntry} {k : Value × Nat × V}, cx E aY es → aY.find? (fun e => p e.2.1) = some k → ∃ e, es.find? (fun e => p e.born) = some e ∧ e.key = k.1 ∧ aW E k.2.2 e.val
 | [], es, k, h, hf => by simp at hf
 | c :: r, es, k, h, hf => by
  obtain ⟨e, es', rfl, h1, h2, h3, h4⟩ := h.of_cons
  rw [List.find?_cons] at hf ⊢
  rw [h2]
  split at hf
  ·rename_i hp; cases hf; exact ⟨e, rfl, h1, h3⟩
  ·exact cx.find p h4 hf
theorem AZ {P : Program} {E : Env} {w : World} {a : Act} {st : St} (hs : bc E w a st) {it v : V} {x : Value} (hi : aW E it x) (h : xY st.mem it = some v) : ∃ z, (Instr.entry x).run P w = .ok z w ∧ aW E v z := by
 unfold xY at h
 split at h
 ·rename_i b
  split at h
  ·rename_i m since seen last hB
   split at h
   ·rename_i aY clock hM
    split at h
    ·rename_i ko
     split at h
     ·rename_i xZ iq
      split at h
      ·rename_i e he
       cases h
       obtain ⟨g, gm, em, cm, hb, JF, hh, hf⟩ := hs.mem b _ hB
       obtain ⟨es, Vm, hr, Y1, h0⟩ := gA hs hM JF
       cases hi with
       | ptr _ _ _ g' e' c' ey =>
       rw [hb] at ey; cases ey
       have eW : (getObj g).run P w = .ok (.mapIter (some gm) since seen.toArray last) w := by simp [getObj, Sem.run, hh]
       obtain ⟨en, h1, h2, h3⟩ := cx.find (fun n => n == xZ) hr he
       have RD : seen.toArray.back? = some xZ := by simpa using iq
       have x9 : es.find? (fun e => e.born == xZ) = some en := by
        rw [← List.find?_toArray, Array.toArray_toList] at h1; exact h1
       refine ⟨.tuple #[en.key, en.val], ?_, ?_⟩
       ·subst ko
        simp only [Instr.entry,Sem.run_bind,eW,Result.andThen_ok,RD,cb Vm,bne_self_eq_false,Bool.false_eq_true,if_false,x9]
        rfl
       ·refine .bN _ _ _ rfl fun i c y hc hy => ?_
        match i with
        | 0 => simp at hc hy; subst hc; subst hy; rw [h2]; exact fy E _
        | 1 => simp at hc hy; subst hc; subst hy; exact h3
        | i + 2 => simp at hc
      ·cases h
     ·cases h
    ·cases h
   ·cases h
  ·cases h
 ·cases h
end Go.Eng
end

section
namespace Go.Eng
variable [aH]

theorem bR {E : Env} {v y : Value} (h : aW E (.sc v) y) : y = v := by cases h; rfl

theorem A0 {P : Program} {tt : Table} (ht : TT P tt) {E : Env} {w : World} {a : Act} {st : St} (hs : bc E w a st) {T : TypeId} {x v : V} {lo hi : Option Operand} {y : Value} (hx : aW E x y)
  (h : sk P tt st.mem T x (lo.map st.eval) (hi.map st.eval) = some v) : ∃ z, (Instr.sliceAt T y (lo.map a.eval) (hi.map a.eval) none).run P w = .ok z w ∧ aW E v z := by
 unfold sk at h
 split at h
 ·cases lo with
  | none =>
   cases hi with
   | none => exact lu hx h
   | some hi => exact gM (f := fun a h => Instr.sliceAt T a none (some h) none) hx (hs.eval hi) h
  | some lo =>
   cases hi with
   | none => exact gM (f := fun a l => Instr.sliceAt T a (some l) none none) hx (hs.eval lo) h
   | some hi =>
    simp only [Option.map_some] at h ⊢
    split at h
    ·rename_i hv Ux
     rw [eN (hs.eval hi) Ux]
     exact gM (f := fun a l => Instr.sliceAt T a (some l) (some hv) none) hx (hs.eval lo) h
    ·simp at h
 ·split at h
  ·simp at h
  ·rename_i e he
   split at h
   ·simp at h
   ·rename_i size hz
    cases lo with
    | none =>
     cases hi with
     | none =>
      obtain ⟨aa, len, cap, rfl, h0, h1, h2, h3, hr⟩ := jj hs hx h
      exact ⟨_, jk ht he hz w aa len cap none none 0 none (.inl ⟨rfl, rfl⟩) (.inl ⟨rfl, rfl⟩) h0 h1 h2 h3, hr⟩
     | some hi =>
      simp only [Option.map_some,Option.map_none] at h ⊢
      split at h
      ·rename_i n hn
       obtain ⟨k, hk⟩ := lv (hs.eval hi) hn
       obtain ⟨aa, len, cap, rfl, h0, h1, h2, h3, hr⟩ := jj hs hx h
       exact ⟨_, jk ht he hz w aa len cap none _ 0 (some n) (.inl ⟨rfl, rfl⟩) (.inr ⟨k, n, by rw [hk], rfl⟩) h0 h1 h2 h3, hr⟩
      ·simp at h
    | some lo =>
     simp only [Option.map_some] at h ⊢
     split at h
     ·simp at h
     ·rename_i l hl
      obtain ⟨k, hk⟩ := lv (hs.eval lo) hl
      cases hi with
      | none =>
       simp only [Option.map_none] at h ⊢
       obtain ⟨aa, len, cap, rfl, h0, h1, h2, h3, hr⟩ := jj hs hx h
       exact ⟨_, jk ht he hz w aa len cap _ none l none (.inr ⟨k, by rw [hk]⟩) (.inl ⟨rfl, rfl⟩) h0 h1 h2 h3, hr⟩
      | some hi =>
       simp only [Option.map_some] at h ⊢
       split at h
       ·rename_i n hn
        obtain ⟨k', eS⟩ := lv (hs.eval hi) hn
        obtain ⟨aa, len, cap, rfl, h0, h1, h2, h3, hr⟩ := jj hs hx h
        exact ⟨_, jk ht he hz w aa len cap _ _ l (some n) (.inr ⟨k, by rw [hk]⟩) (.inr ⟨k', n, by rw [eS], rfl⟩) h0 h1 h2 h3, hr⟩
       ·simp at h

def jy : List V → Option (List Value)
 | [] => some []
 | v :: r => match bA v with
  | some x => match jy r with | some l => some (x :: l) | none => none
  | none => none
theorem nG {E : Env} : ∀ {vs : List V} {xs l : List Value}, aP E vs xs → jy vs = some l → xs = l
 | [], xs, l, h, hl => by simp [jy] at hl; subst hl; exact h.of_nil
 | v :: vs, xs, l, h, hl => by
  obtain ⟨x, ys, rfl, h1, h2⟩ := h.of_cons
  simp only [jy] at hl
  split at hl
  ·rename_i x' F9
   split at hl
   ·rename_i l' AI
    simp only [Option.some.injEq] at hl; subst hl
    rw [eN h1 F9, nG h2 AI]
   ·simp at hl
  ·simp at hl

def cH (P : Program) (f : Array Value → Sem Value) (xs : List V) : Option V :=
 match jy xs with
 | some l => match aG P (f l.toArray) with | some v => some (dx v) | none => none
 | none => none

theorem bc.jK {E : Env} {w : World} {a : Act} {st : St} (hs : bc E w a st) (xs : Array Operand) : aP E (xs.toList.map st.eval) (xs.map a.eval).toList := by
 refine ⟨by simp, fun i v x hv hx => ?_⟩
 simp only [List.getElem?_map,Array.toList_map,Option.map_eq_some_iff] at hv hx
 obtain ⟨o, ho, rfl⟩ := hv
 obtain ⟨o', MF, rfl⟩ := hx
 rw [ho] at MF; cases MF
 exact hs.eval o

def rC (P : Program) (tt : Table) (ts : Array TypeId) (ty : TypeId) : List V → Option V
 | [.slice rows] => match ts[0]? with
  | some t => match dG tt t with | some _ => some (.sc (.int .i64 rows.length)) | none => none
  | none => none
 | [.ms _ _ _ l] => match ts[0]? with
  | some t => match dG tt t with | some _ => some (.sc (.int .i64 l)) | none => none
  | none => none
 | xs => cH P (Builtin.len_ ts ty) xs

def X2 (tt : Table) (S : TypeId) (f : Nat) (T : TypeId) (x : V) : Option V :=
 match x with
 | .agg cs => match JX tt S f with
  | some off => dy tt T (cs.drop off)
  | none => none
 | _ => none

def Er (k : Int) : Bool := match aH.κ k with | some b => b | none => decide (k ≤ aH.n)
theorem wo (k : Int) : Er k = decide (k ≤ aH.n) := by
 unfold Er
 split
 ·rename_i b h; exact (aH.ok k b h).symm
 ·rfl
def CY (op : BinOp) (x y : V) : Option V :=
 match y with
 | .gn => match op, x with
  | .leq, .sc (.int .i64 k) => some (.sc (.bool (Er k)))
  | .gtr, .sc (.int .i64 k) => some (.sc (.bool (!Er k)))
  | _, _ => none
 | _ => none
theorem ya {P : Program} {E : Env} {w : World} {op : BinOp} {T : TypeId} {x y v : V} {a b : Value} (xo yo : Operand) (hx : aW E x a) (hy : aW E y b) (h : CY op x y = some v) :
  ∃ z, (do eqGuard op T xo yo a b; binOp op T a b : Sem Value).run P w = .ok z w ∧ aW E v z := by
 unfold CY at h
 split at h
 ·cases hy
  split at h
  ·rename_i k
   cases h
   cases hx
   refine ⟨.bool (decide (k ≤ aH.n)), by simp [binOp, Op.intCmp, eqGuard], by rw [wo]; exact .sc _ _⟩
  ·rename_i k
   cases h
   cases hx
   refine ⟨.bool (decide (k > aH.n)), by simp [binOp, Op.intCmp, eqGuard], ?_⟩
   have : (!Er k) = decide (k > aH.n) := by
    rw [wo]
    by_cases h : k ≤ aH.n
    ·rw [decide_eq_true h, decide_eq_false (by omega)]; rfl
    ·rw [decide_eq_false h, decide_eq_true (by omega)]; rfl
   rw [this]; exact .sc _ _
  ·cases h
 ·cases h
def pK (P : Program) (op : BinOp) (T : TypeId) (y : V) : Option V :=
 match y with
 | .sc (.pointer none) => match P.underlying T with
  | some (.pointer _) => match op with
   | .eql => some (.sc (.bool false))
   | .neq => some (.sc (.bool true))
   | _ => none
  | _ => none
 | _ => none
def wq (P : Program) (op : BinOp) (T : TypeId) (x y : V) : Option V :=
 match x with
 | .cg _ => pK P op T y
 | .ptr _ _ => pK P op T y
 | .dd _ _ _ _ => pK P op T y
 | _ => none
theorem wu {P : Program} {E : Env} {w : World} {op : BinOp} {T : TypeId} {x y v : V} {a b : Value} (xo yo : Operand) (hx : aW E x a) (hy : aW E y b) (h : wq P op T x y = some v) :
  ∃ z, (do eqGuard op T xo yo a b; binOp op T a b : Sem Value).run P w = .ok z w ∧ aW E v z := by
 have key : ∀ ad : Addr, a = .pointer (some ad) → pK P op T y = some v → ∃ z, (do eqGuard op T xo yo a b; binOp op T a b : Sem Value).run P w = .ok z w ∧ aW E v z := by
  rintro ad rfl h
  unfold pK at h
  split at h
  ·split at h
   ·rename_i e hT
    cases hy
    have he : (Op.equal T (.pointer (some ad)) (.pointer none)).run P w = .ok false w := by
     show (Op.equalIn (9999 + 1) T _ _).run P w = _
     unfold Op.equalIn
     simp [aq hT]
    split at h
    ·cases h
     exact ⟨.bool false, by simp [binOp, eqGuard, he], .sc _ _⟩
    ·cases h
     exact ⟨.bool true, by simp [binOp, eqGuard, he], .sc _ _⟩
    ·cases h
   ·cases h
  ·cases h
 unfold wq at h
 split at h
 ·cases hx with
  | cg _ _ ad xf hF hR => exact key ad rfl h
 ·cases hx with
  | ptr _ _ _ g e c hb => exact key _ rfl h
 ·cases hx with
  | dd _ _ _ _ _ g e c hb => exact key _ rfl h
 ·cases h
def ez : List V → Option (List Int)
 | [] => some []
 | .sc (.int .u8 n) :: r => match ez r with | some l => some (n :: l) | none => none
 | _ => none
def jz (P : Program) (s d : TypeId) (rows : List V) : Option V :=
 match P.underlying s with
 | some (.slice e) => match P.underlying e with
  | some (.int .u8) => match P.underlying d with
   | some .string => match ez rows with | some ns => some (.sc (.string (strOfNums ns))) | none => none
   | _ => none
  | _ => none
 | _ => none
def kZ (P : Program) (mem : List aw) (s d : TypeId) : V → Option V
 | .slice rows => jz P s d rows
 | .ms b v o l => match mem[b]? with
  | some (.rows v' e rs) => if v' = v ∧ e = 1 ∧ o + l ≤ rs.length then jz P s d ((rs.drop o).take l) else none
  | some (.mX v' e rs) => if v' = v ∧ e = 1 ∧ o + l ≤ rs.length then jz P s d ((rs.drop o).take l) else none
  | _ => none
 | x => nj P (convert s d) x
theorem Gm (P : Program) (mem : List aw) (s d : TypeId) (x : Value) : kZ P mem s d (.sc x) = nj P (convert s d) (.sc x) := rfl
theorem yb {P : Program} {mem : List aw} {s d e : TypeId} {rows : List V} {ns : List Int} (hs : P.underlying s = some (.slice e)) (he : P.underlying e = some (.int .u8)) (hd : P.underlying d = some .string) (hb : ez rows = some ns) :
  kZ P mem s d (.slice rows) = some (.sc (.string (strOfNums ns))) := by simp only [kZ,jz,hs,he,hd,hb]
theorem k6 : ∀ {rows : List V} {ns : List Int}, ez rows = some ns → ns.length = rows.length
 | [], ns, h => by simp [ez] at h; subst h; rfl
 | r :: rs, ns, h => by
  unfold ez at h
  split at h
  ·rename_i heq; exact absurd heq (by simp)
  ·rename_i n l heq
   cases heq
   split at h
   ·rename_i l' hl
    cases h
    simp [k6 hl]
   ·cases h
  ·cases h
theorem il : ∀ {rows : List V} {ns : List Int}, ez rows = some ns → ∀ (i : Nat) (r : V), rows[i]? = some r → r = .sc (.int .u8 (ns.getD i 0))
 | [], ns, h, i, r, hr => by simp at hr
 | r0 :: rs, ns, h, i, r, hr => by
  unfold ez at h
  split at h
  ·rename_i heq; exact absurd heq (by simp)
  ·rename_i n l heq
   cases heq
   split at h
   ·rename_i l' hl
    cases h
    cases i with
    | zero => simp at hr; subst hr; rfl
    | succ i => exact il hl i r (by simpa using hr)
   ·cases h
  ·cases h
theorem kp {P : Program} {w : World} {E : Env} {s d : TypeId} {rows : List V} {v : V} {aa : Option Addr} {cap : Nat} (h : jz P s d rows = some v) (hn : rows ≠ [] → ∃ g o, aa = some ⟨g, o, none⟩ ∧ ∀ (i : Nat) (r : V), rows[i]? = some r → ∃ x, w.cell? ⟨g, o + i, none⟩ = some x ∧ aW E r x) :
  ∃ y, (convert s d (.slice aa rows.length cap)).run P w = .ok y w ∧ aW E v y := by
 unfold jz at h
 split at h
 ·rename_i e hs
  split at h
  ·rename_i he
   split at h
   ·rename_i hd
    split at h
    ·rename_i ns hb
     cases h
     refine ⟨_, ?_, .sc _ _⟩
     have hl := k6 hb
     cases rows with
     | nil =>
      have : ns = [] := List.length_eq_zero_iff.1 hl
      subst this
      rw [run_convert_bytes_string w s d e aa _ cap hs he hd]
      cases aa with
      | none => simp [Conv.bytesToString]; rfl
      | some a0 =>
       have := run_bytesToString (P := P) w a0 0 cap [] (by simp [loadCells, loadCellsFrom])
       have e0 : strOfNums [] = ByteArray.empty := rfl
       rw [e0]
       simpa using this
     | cons r0 rr =>
      obtain ⟨g, o, rfl, hc⟩ := hn (by simp)
      refine run_convert_bytes_arg w s e hs he g o _ cap ns hl (fun i hi => ?_) d hd
      obtain ⟨x, hx, hr⟩ := hc i _ (List.getElem?_eq_getElem hi)
      rw [hx, il hb i _ (List.getElem?_eq_getElem hi)] at *
      rw [bR hr]
    ·cases h
   ·cases h
  ·cases h
 ·cases h
theorem qF {P : Program} {s d : TypeId} {rows : List V} {v : V} (h : jz P s d rows = some v) : ∃ ns, ez rows = some ns := by
 unfold jz at h
 split at h
 ·split at h
  ·split at h
   ·split at h
    ·rename_i ns hb; exact ⟨ns, hb⟩
    ·cases h
   ·cases h
  ·cases h
 ·cases h
theorem Es {w : World} {ad : Addr} {x : Value} (h : w.cell? ad = some x) : ad.spot = none := by
 unfold World.cell? at h
 split at h
 ·split at h
  ·simp at h
  ·rename_i h1; cases hs : ad.spot with | none => rfl | some s => simp [hs] at h1
 ·simp at h
theorem yc {P : Program} {E : Env} {w : World} {a : Act} {st : St} (hs : bc E w a st) {s d : TypeId} {x v : V} {y : Value} (hx : aW E x y) (h : kZ P st.mem s d x = some v) : ∃ z, (convert s d y).run P w = .ok z w ∧ aW E v z := by
 have ms : ∀ (b v' o l e : Nat) (rs : List V), aW E (.ms b v' o l) y → e = 1 → o + l ≤ rs.length → (∀ g e' c, E.aI b v' = some (g, e', c) → e' = e ∧ fA E.pure e rs (fun k => w.cell? ⟨g, k, none⟩)) →
   jz P s d ((rs.drop o).take l) = some v → ∃ z, (convert s d y).run P w = .ok z w ∧ aW E v z := by
  intro b v' o l e rs hr he hl eA hb
  obtain ⟨ns, Vn⟩ := qF hb
  have hlen : ((rs.drop o).take l).length = l := by simp; omega
  cases hr with
  | cZ =>
   have h0 : (rs.drop o).take 0 = [] := List.take_zero
   rw [h0] at hb
   exact kp (aa := none) (cap := 0) (w := w) (E := E) hb (fun bH => absurd rfl bH)
  | ms _ _ _ _ _ g e' c aa cap eX MG Gj CX =>
   have ey := hb
   rw [← hlen]
   refine kp hb fun bH => ?_
   have MH : 0 < l := by
    rcases Nat.eq_zero_or_pos l with h0 | h0
    ·subst h0; exact absurd List.take_zero bH
    ·exact h0
   obtain ⟨Y2, N0⟩ := eA g e' c eX
   subst he
   subst Y2
   refine ⟨g, o * 1, MG MH, fun i r hi => ?_⟩
   have Uy : rs[o + i]? = some r := by
    rw [List.getElem?_take] at hi
    split at hi
    ·simpa using hi
    ·simp at hi
   obtain ⟨-, h2⟩ := N0 _ r Uy
   have A1 := il Vn i r hi
   obtain ⟨x, hx, -, Gn⟩ := h2 0 r (by rw [A1]; rfl)
   refine ⟨x, ?_, Gn.mono (Env.ml E)⟩
   have : (o + i) * 1 + 0 = o * 1 + i := by omega
   rw [← this]; exact hx
 unfold kZ at h
 split at h
 ·rename_i rows
  obtain ⟨ns, Vn⟩ := qF h
  cases hx with
  | slice _ _ aa cap nE ad xf ha ij hz hF kn hR =>
   refine kp h fun bH => ?_
   have key : ∀ (i : Nat) (r : V), rows[i]? = some r → ∃ x, w.cell? (ad.add i) = some x ∧ aW E r x := fun i r hi => by
    have A1 := il Vn i r hi
    have hc : r.cells = [r] := by rw [A1]; rfl
    have he : nE = 1 := by rw [← hz i r hi, hc]; rfl
    have h1 := hF i r 0 r hi (by rw [hc]; rfl)
    have h2 := hR i r 0 r hi (by rw [hc]; rfl)
    rw [he, Nat.mul_one, Nat.add_zero] at h1
    exact ⟨_, hs.F _ _ h1, h2.mono (Env.ml E)⟩
   obtain ⟨r0, h0⟩ : ∃ r0, rows[0]? = some r0 := by
    cases rows with
    | nil => exact absurd rfl bH
    | cons r0 rr => exact ⟨r0, rfl⟩
   obtain ⟨x0, nH, -⟩ := key 0 r0 h0
   have RF : ad.add 0 = ad := by simp [Addr.add]
   have uo := Es nH
   rw [RF] at uo
   obtain ⟨g, o, sp⟩ := ad
   obtain rfl : sp = none := uo
   refine ⟨g, o, ha bH, fun i r hi => ?_⟩
   obtain ⟨x, hx, hr⟩ := key i r hi
   exact ⟨x, by rw [← hx]; congr 1; unfold Addr.add; by_cases h0 : i = 0 <;> simp [h0], hr⟩
 ·rename_i b v' o l
  split at h
  ·rename_i v1 e rs hm
   split at h
   ·rename_i hc
    obtain ⟨rfl, rfl, hl⟩ := hc
    refine ms b v1 o l 1 rs hx rfl hl (fun g e' c eX => ?_) h
    rcases hs.mem b _ hm with ⟨A2, hn⟩ | ⟨g', T, xs, c', ey, hh, -, -, eA, -⟩
    ·rw [hn] at eX; cases eX
    ·rw [ey] at eX; cases eX
     refine ⟨rfl, fun i row hi => ?_⟩
     obtain ⟨h1, h2⟩ := eA i row hi
     refine ⟨h1, fun j cc hj => ?_⟩
     obtain ⟨x, hx, h3⟩ := h2 j cc hj
     exact ⟨x, (ik hh _).trans hx, h3⟩
   ·cases h
  ·rename_i v1 e rs hm
   split at h
   ·rename_i hc
    obtain ⟨rfl, rfl, hl⟩ := hc
    refine ms b v1 o l 1 rs hx rfl hl (fun g e' c eX => ?_) h
    rcases hs.mem b _ hm with ⟨A2, hn⟩ | ⟨g', c', ey, -, eA⟩
    ·rw [hn] at eX; cases eX
    ·rw [ey] at eX; cases eX
     refine ⟨rfl, fun i row hi => ?_⟩
     obtain ⟨h1, h2⟩ := eA i row hi
     refine ⟨h1, fun j cc hj => ?_⟩
     obtain ⟨x, hx, h3⟩ := h2 j cc hj
     exact ⟨x, hs.F _ _ hx, h3⟩
   ·cases h
  ·cases h
 ·exact lu hx h
def fC (op : BinOp) (T : TypeId) (x y : Operand) : Value → Value → Sem Value := fun u v => do eqGuard op T x y u v; binOp op T u v
def so (P : Program) (tt : Table) (T : TypeId) (x i : V) : Option V :=
 match x with
 | .ptr b o => match i with
  | .sc (.int _ n) => match P.underlying T with
   | some (.array len e) => match jh tt e with
    | some size => if 0 ≤ n ∧ n < len then some (.ptr b (o + n.toNat * size)) else none
    | none => none
   | _ => none
  | _ => none
 | _ => none
theorem yd {P : Program} {tt : Table} (ht : TT P tt) {E : Env} {T : TypeId} {p i v : V} {x y : Value} (hp : aW E p x) (hi : aW E i y) (h : so P tt T p i = some v) (w : World) :
  ∃ z, (Instr.indexAt T x y).run P w = .ok z w ∧ aW E v z := by
 unfold so jh at h
 split at h
 ·rename_i b o
  split at h
  ·rename_i k n
   split at h
   ·rename_i len e hd
    cases hE : tt e with
    | none => rw [hE] at h; simp at h
    | some ie =>
     rw [hE] at h; simp only at h
     split at h
     ·rename_i h0
      cases h
      cases hi with
      | sc =>
      cases hp with
      | ptr _ _ _ g e' c hb =>
      refine ⟨.pointer (some ⟨g, o + n.toNat * ie.size, none⟩), ?_, .ptr _ _ _ g e' c hb⟩
      simp [Instr.indexAt, asIntOf, aq hd, Instr.sureAddr, ht.sizeOf hE, h0, add_lit]
     ·cases h
   ·cases h
  ·cases h
 ·cases h
def MI (rows : List V) : Bool → V
 | true => .full rows
 | false => .slice rows
def CZ (tt : Table) (T : TypeId) (x h m : V) : Option V :=
 match x with
 | .slice rows => match xW h with
  | some a => match xW m with
   | some b => match dG tt T with
    | some e => match jh tt e with
     | some _ => if 0 ≤ a ∧ a ≤ b ∧ b ≤ rows.length then some (MI (rows.take a.toNat) (decide (a = b))) else none
     | none => none
    | none => none
   | none => none
  | none => none
 | _ => none
theorem ye {P : Program} {tt : Table} (ht : TT P tt) {E : Env} {T : TypeId} {x h m v : V} {y z u : Value} (hx : aW E x y) (hh : aW E h z) (hm : aW E m u) (hc : CZ tt T x h m = some v) (w : World) :
  ∃ q, (Instr.sliceAt T y none (some z) (some u)).run P w = .ok q w ∧ aW E v q := by
 unfold CZ at hc
 split at hc
 ·rename_i rows
  split at hc
  ·rename_i a ha
   split at hc
   ·rename_i b hb
    obtain ⟨k1, rfl⟩ := lv hh ha
    obtain ⟨k2, rfl⟩ := lv hm hb
    unfold dG jh at hc
    cases hT : tt T with
    | none => rw [hT] at hc; simp at hc
    | some iT =>
     rw [hT] at hc; simp only at hc
     cases he : iT.elem with
     | none => rw [he] at hc; simp at hc
     | some e =>
      rw [he] at hc; simp only at hc
      cases hE : tt e with
      | none => rw [hE] at hc; simp at hc
      | some ie =>
       rw [hE] at hc; simp only at hc
       obtain ⟨d, hd, -, ki, -⟩ := ht.desc T iT hT
       obtain rfl := ki e he
       split at hc
       ·rename_i iE
        obtain ⟨h0, h1, h2⟩ := iE
        cases hc
        cases hx with
        | slice _ _ aa cap nE ad xf Vo ij hz hF kn hR =>
        have hlen : (rows.take a.toNat).length = a.toNat := by rw [List.length_take]; omega
        have cJ : (Instr.sliceAt T (.slice aa rows.length cap) none (some (.int k1 a)) (some (.int k2 b))).run P w = .ok (.slice aa a.toNat b.toNat) w := by
         simp only [Instr.sliceAt,Instr.slice,Sem.run_bind,aq hd,Result.andThen_ok,Instr.sliceBounds,Instr.sliceBound,asIntOf,Sem.run_pure,ht.sizeOf hE,Option.isSome_some]
         rw [if_pos ⟨by omega, by omega⟩]
         simp only [Sem.run_pure,Result.andThen_ok]
         rw [if_pos ⟨by omega, by omega⟩]
         simp [Addr.add]
        refine ⟨_, cJ, ?_⟩
        have hg : ∀ (i : Nat) (row : V), (rows.take a.toNat)[i]? = some row → rows[i]? = some row := fun i row hi => by
         rw [List.getElem?_take] at hi
         split at hi
         ·exact hi
         ·cases hi
        have := aW.slice E (rows.take a.toNat) aa b.toNat nE ad xf (fun bH => Vo fun h => bH (by rw [h, List.take_nil])) (by omega) (fun i row hi => hz _ _ (hg i row hi)) (fun i row j c hi hj => hF _ _ _ _ (hg i row hi) hj) (fun i row j c hi hj => kn _ _ _ _ (hg i row hi) hj) fun i row j c hi hj => hR _ _ _ _ (hg i row hi) hj
        rw [hlen] at this
        by_cases JZ : a = b
        ·rw [decide_eq_true JZ]
         have Y3 : b.toNat = (rows.take a.toNat).length := by rw [hlen, JZ]
         have h4 : (Value.slice aa a.toNat b.toNat) = .slice aa (rows.take a.toNat).length (rows.take a.toNat).length := by rw [← Y3, ← JZ]
         rw [h4]
         exact .full _ _ _ (by rw [← h4]; exact this)
        ·rw [decide_eq_false JZ]
         exact this
       ·cases hc
   ·cases hc
  ·cases hc
 ·cases hc
def ox (P : Program) (tt : Table) (S : TypeId) (f : Nat) (x : V) : Option V :=
 match x with
 | .agg cs => match P.underlying S with
  | some (.struct fs) => match fs[f]? with
   | some fd => dy tt fd.type (cs.drop fd.offset)
   | none => none
  | _ => none
 | _ => none
theorem uD {P : Program} {tt : Table} (ht : TT P tt) {E : Env} {S : TypeId} {f : Nat} {x v : V} {y : Value} (hx : aW E x y) (h : ox P tt S f x = some v) (w : World) : ∃ z, (Instr.field S y f).run P w = .ok z w ∧ aW E v z := by
 unfold ox at h
 split at h
 ·rename_i cs
  split at h
  ·rename_i fs hu
   split at h
   ·rename_i fd hf
    cases hx with
    | agg _ _ xs hl hr =>
     simp only [Instr.field,Sem.run_bind,aq hu,Result.andThen_ok,hf]
     unfold dy at h
     cases hi : tt fd.type with
     | none => rw [hi] at h; simp at h
     | some i =>
      rw [hi] at h; simp only at h
      cases ha : i.agg with
      | false =>
       simp only [ha,Bool.false_eq_true,if_false] at h
       have h0 : cs[fd.offset]? = some v := by simpa [List.head?_eq_getElem?] using h
       have aD : fd.offset < xs.size := by rw [← hl]; exact (List.getElem?_eq_some_iff.1 h0).1
       refine ⟨xs[fd.offset], ?_, hr _ _ _ h0 (Array.getElem?_eq_getElem aD)⟩
       simp [part, asAgg, ht.isAgg hi, ha, Array.getElem?_eq_getElem aD]
      | true =>
       simp only [ha,if_true] at h
       split at h
       ·rename_i hle
        simp only [Option.some.injEq] at h; subst h
        rw [List.length_drop] at hle
        refine ⟨.agg (xs.extract fd.offset (fd.offset + i.size)), ?_, .agg _ _ _ (by simp; omega) fun j c z hc hz => ?_⟩
        ·simp [part, asAgg, ht.isAgg hi, ha, ht.sizeOf hi]
        ·have hj : j < i.size := by
          by_cases hj : j < i.size
          ·exact hj
          ·rw [List.getElem?_take] at hc; simp [hj] at hc
         rw [List.getElem?_take_of_lt hj, List.getElem?_drop] at hc
         refine hr (fd.offset + j) c z hc ?_
         rw [Array.getElem?_extract] at hz
         split at hz
         ·exact hz
         ·cases hz
       ·cases h
   ·cases h
  ·cases h
 ·cases h
def fO (P : Program) (tt : Table) (st : St) (o : Oper) : Option V :=
 match o.op with
 | .move x => some (st.eval x)
 | .assign x => some (st.eval x)
 | .pick c a b => match st.eval c with | .sc (.bool t) => some (if t = true then st.eval a else st.eval b) | _ => none
 | .load T x => kW tt st.mem T (st.eval x)
 | .nilCheck x => NY (st.eval x)
 | .binOp op T x y _ => match CY op (st.eval x) (st.eval y) with
  | some v => some v
  | none => match wq P op T (st.eval x) (st.eval y) with
   | some v => some v
   | none => aQ P (fC op T x y) (st.eval x) (st.eval y)
 | .unOp op _ x => nj P (Op.unary op) (st.eval x)
 | .convert s d x => kZ P st.mem s d (st.eval x)
 | .makeFunc fn first cap => some (.fQ fn (first.toList.map st.eval) (cap.toList.map st.eval))
 | .slice T x lo hi none => sk P tt st.mem T (st.eval x) (lo.map st.eval) (hi.map st.eval)
 | .fieldAddr S x f => wi tt S f (st.eval x)
 | .field S x f => ox P tt S f (st.eval x)
 | .slice T x none (some h) (some m) => CZ tt T (st.eval x) (st.eval h) (st.eval m)
 | .indexAddr T x i => match iC tt st.mem T (st.eval x) (st.eval i) with
  | some v => some v
  | none => so P tt T (st.eval x) (st.eval i)
 | .index T x i => aQ P (Instr.index T) (st.eval x) (st.eval i)
 | .extract t i => match st.eval t with | .bN vs => vs[i]? | _ => none
 | .lookup T x i ok => dg P st.mem T (st.eval x) (st.eval i) ok
 | .entry it => xY st.mem (st.eval it)
 | .call { callee := .builtin .len, args := xs, argTypes := ts } => match ow st.mem ts P (xs.toList.map st.eval) with
  | some v => some v
  | none => rC P tt ts o.type (xs.toList.map st.eval)
 | .call { callee := .builtin .max, args := xs, argTypes := ts } => cH P (Builtin.max_ ts o.type) (xs.toList.map st.eval)
 | .call { callee := .builtin .min, args := xs, argTypes := ts } => cH P (Builtin.min_ ts o.type) (xs.toList.map st.eval)
 | _ => none

theorem ly {P : Program} {f : Array Value → Sem Value} {E : Env} {w : World} {xs : List V} {v : V} {ys : Array Value} (hx : aP E xs ys.toList) (h : cH P f xs = some v) : ∃ z, (f ys).run P w = .ok z w ∧ aW E v z := by
 unfold cH at h
 split at h
 ·rename_i l hl
  have := nG hx hl
  split at h
  ·rename_i z hz
   simp only [Option.some.injEq] at h; subst h
   subst this
   exact ⟨z, cA _ (by simpa using hz) w, fy E z⟩
  ·simp at h
 ·simp at h

theorem wv {P : Program} {tt : Table} (ht : TT P tt) {ts : Array TypeId} {ty t e : TypeId} (h0 : ts[0]? = some t) (he : dG tt t = some e) (w : World) (aa : Option Addr) (len cap : Nat) :
  (Builtin.len_ ts ty #[.slice aa len cap]).run P w = .ok (.int .i64 len) w := by
 unfold dG at he
 cases hT : tt t with
 | none => rw [hT] at he; simp at he
 | some iT =>
  rw [hT] at he; simp only at he
  obtain ⟨d, hd, -, ki, -⟩ := ht.desc t iT hT
  obtain rfl := ki e he
  simp [Builtin.len_, h0, aq hd, goInt]

theorem A3 {P : Program} {tt : Table} (ht : TT P tt) {E : Env} {w : World} {ts : Array TypeId} {ty : TypeId} {xs : List V} {v : V} {ys : Array Value} (hx : aP E xs ys.toList) (h : rC P tt ts ty xs = some v) :
  ∃ z, (Builtin.len_ ts ty ys).run P w = .ok z w ∧ aW E v z := by
 unfold rC at h
 split at h
 ·split at h
  ·rename_i t h0
   split at h
   ·rename_i e he
    simp only [Option.some.injEq] at h; subst h
    obtain ⟨x, r, hy, h1, h2⟩ := hx.of_cons
    have := h2.of_nil; subst this
    obtain rfl : ys = #[x] := by rw [← Array.toArray_toList (xs := ys), hy]
    cases h1 with
    | slice _ _ aa cap nE ad xf ha ij hz hF kn hR => exact ⟨_, wv ht h0 he w aa _ cap, .sc _ _⟩
   ·simp at h
  ·simp at h
 ·split at h
  ·rename_i t h0
   split at h
   ·rename_i e he
    simp only [Option.some.injEq] at h; subst h
    obtain ⟨x, r, hy, h1, h2⟩ := hx.of_cons
    have := h2.of_nil; subst this
    obtain rfl : ys = #[x] := by rw [← Array.toArray_toList (xs := ys), hy]
    cases h1 with
    | cZ => exact ⟨_, wv ht h0 he w none _ 0, .sc _ _⟩
    | ms _ _ _ _ _ g e' c aa cap hb hl Gj CX => exact ⟨_, wv ht h0 he w aa _ cap, .sc _ _⟩
   ·simp at h
  ·simp at h
 ·exact ly hx h

theorem bf {P : Program} {s : Sem Value} {w : World} {x : Value} (h : s.run P w = .ok x w) : (do pure (Next.value (← s)) : Sem Next).run P w = .ok (.value x) w := by
 simp [h]

theorem mo {P : Program} {tt : Table} (ht : TT P tt) {E : Env} {w : World} {a : Act} {st : St} (hs : bc E w a st) {o : Oper} {v : V} (h : fO P tt st o = some v) :
  ∃ x, (execOp a.eval o).run P w = .ok (.value x) w ∧ aW E v x := by
 obtain ⟨dst, op, type, pos, after, guard⟩ := o
 unfold fO at h
 dsimp only at h
 split at h
 ·simp only [Option.some.injEq] at h; subst h; exact ⟨_, rfl, hs.eval _⟩
 ·simp only [Option.some.injEq] at h; subst h; exact ⟨_, rfl, hs.eval _⟩
 ·rename_i c x y
  split at h
  ·rename_i t hc
   simp only [Option.some.injEq] at h; subst h
   have := hs.eval c
   rw [hc] at this
   refine ⟨if t = true then a.eval x else a.eval y, ?_, ?_⟩
   ·simp [execOp, bR this, asBool]
   ·cases t <;> exact hs.eval _
  ·simp at h
 ·obtain ⟨y, h1, h2⟩ := qE ht hs (hs.eval _) h
  exact ⟨y, bf h1, h2⟩
 ·rename_i x
  have hx := hs.eval x
  generalize hy : a.eval x = y at hx
  have cJ : ∀ z, (∀ m f c, z ≠ .func (.method m) f c) → z ≠ .pointer none → z ≠ .nilIface → z ≠ .nilFunc → a.eval x = z → (execOp a.eval { dst, op := .nilCheck x, type, pos, after, guard }).run P w = .ok (.value z) w := by
   intro z h1 h2 h3 h4 he
   simp only [execOp,he]
   rfl
  unfold NY at h
  split at h <;> simp only [Option.some.injEq,reduceCtorEq] at h <;> subst h <;> rename_i hv <;> rw [hv] at hx
  ·cases hx with
   | ptr _ _ _ g e c hb => exact ⟨_, cJ _ (by simp) (by simp) (by simp) (by simp) hy, .ptr _ _ _ g e c hb⟩
  ·cases hx with
   | dd _ _ _ _ _ g e c hb => exact ⟨_, cJ _ (by simp) (by simp) (by simp) (by simp) hy, .dd _ _ _ _ _ g e c hb⟩
  ·cases hx with
   | cg _ _ ad xf hF hr => exact ⟨_, cJ _ (by simp) (by simp) (by simp) (by simp) hy, .cg _ _ _ xf hF hr⟩
  ·cases hx with
   | fQ _ f first cap xs ys h1 h2 h3 h4 => exact ⟨_, cJ _ (by simp) (by simp) (by simp) (by simp) hy, .fQ _ _ _ _ _ _ h1 h2 h3 h4⟩
  ·have := bR hx
   subst this
   exact ⟨_, cJ _ (by simp) (by simp) (by simp) (by simp) hy, .sc _ _⟩
 ·rename_i op T x y _
  split at h
  ·rename_i hg
   cases h
   obtain ⟨z, h1, h2⟩ := ya (P := P) (w := w) (T := T) x y (hs.eval x) (hs.eval y) hg
   exact ⟨z, bf h1, h2⟩
  ·split at h
   ·rename_i hg
    cases h
    obtain ⟨z, h1, h2⟩ := wu (P := P) (w := w) (T := T) x y (hs.eval x) (hs.eval y) hg
    exact ⟨z, bf h1, h2⟩
   ·obtain ⟨z, h1, h2⟩ := gM (w := w) (hs.eval x) (hs.eval y) h
    exact ⟨z, bf h1, h2⟩
 ·obtain ⟨z, h1, h2⟩ := lu (w := w) (hs.eval _) h
  exact ⟨z, bf h1, h2⟩
 ·obtain ⟨z, h1, h2⟩ := yc (w := w) hs (hs.eval _) h
  exact ⟨z, bf h1, h2⟩
 ·rename_i fn first cap
  simp only [Option.some.injEq] at h; subst h
  have h1 := hs.jK first
  have h2 := hs.jK cap
  exact ⟨_, bf rfl, .fQ _ _ _ _ _ _ (by simp) (by simp) (fun i c x hc hx => h1.2 i c x hc (by simpa using hx)) fun i c x hc hx => h2.2 i c x hc (by simpa using hx)⟩
 ·obtain ⟨z, h1, h2⟩ := A0 ht hs (hs.eval _) h
  exact ⟨z, bf h1, h2⟩
 ·obtain ⟨z, h1, h2⟩ := wj ht (hs.eval _) h w
  exact ⟨z, bf h1, h2⟩
 ·obtain ⟨z, h1, h2⟩ := uD ht (hs.eval _) h w
  exact ⟨z, bf h1, h2⟩
 ·obtain ⟨z, h1, h2⟩ := ye ht (hs.eval _) (hs.eval _) (hs.eval _) h w
  exact ⟨z, bf h1, h2⟩
 ·split at h
  ·rename_i hv
   cases h
   obtain ⟨z, h1, h2⟩ := wk ht hs (hs.eval _) (hs.eval _) hv
   exact ⟨z, bf h1, h2⟩
  ·obtain ⟨z, h1, h2⟩ := yd ht (hs.eval _) (hs.eval _) h w
   exact ⟨z, bf h1, h2⟩
 ·obtain ⟨z, h1, h2⟩ := gM (w := w) (hs.eval _) (hs.eval _) h
  exact ⟨z, bf h1, h2⟩
 ·rename_i t i
  split at h
  ·rename_i vs hv
   have := hs.eval t
   rw [hv] at this
   generalize hy : a.eval t = y at this
   cases this with
   | bN _ _ xs hl hr =>
    have hi : i < xs.size := by rw [← hl]; exact (List.getElem?_eq_some_iff.1 h).1
    exact ⟨xs[i], bf (by simp [hy, Instr.extract, Array.getElem?_eq_getElem hi]), hr i v _ h (Array.getElem?_eq_getElem hi)⟩
  ·simp at h
 ·obtain ⟨z, h1, h2⟩ := uC hs (hs.eval _) (hs.eval _) h
  exact ⟨z, bf h1, h2⟩
 ·obtain ⟨z, h1, h2⟩ := AZ hs (hs.eval _) h
  exact ⟨z, bf h1, h2⟩
 ·split at h
  ·rename_i hl
   cases h
   obtain ⟨z, h1, h2⟩ := AY hs (hs.jK _) hl
   exact ⟨z, bf h1, h2⟩
  ·obtain ⟨z, h1, h2⟩ := A3 ht (w := w) (hs.jK _) h
   exact ⟨z, bf h1, h2⟩
 ·obtain ⟨z, h1, h2⟩ := ly (w := w) (hs.jK _) h
  exact ⟨z, bf h1, h2⟩
 ·obtain ⟨z, h1, h2⟩ := ly (w := w) (hs.jK _) h
  exact ⟨z, bf h1, h2⟩
 ·simp at h
end Go.Eng
end

section
namespace Go.Eng
variable [aH]
open Go.RowKit (Below)

def ba (mem : List aw) (key : Nat) (B : aw) : List aw := if key < mem.length then mem.set key B else mem ++ [B]
def dM (mem : List aw) (key : Nat) : Prop := mem[key]? = some .hole ∨ key = mem.length
def Env.with (E : Env) (key aC : Nat) (t : Nat × Nat × Nat) : Env := { F := E.F, aI := fun k v => if k = key ∧ v = aC then some t else E.aI k v, gl := E.gl }

theorem kq {mem : List aw} {key : Nat} (h : key ≤ mem.length) (B : aw) (k : Nat) : (ba mem key B)[k]? = if k = key then some B else mem[k]? := by
 unfold ba
 split
 ·rename_i aD
  rw [List.getElem?_set]
  by_cases hk : key = k
  ·subst hk; simp [aD]
  ·rw [if_neg hk, if_neg (fun e => hk e.symm)]
 ·rename_i c5
  have b9 : key = mem.length := by omega
  by_cases hk : k = key
  ·subst hk; rw [if_pos rfl, b9]; simp
  ·rw [if_neg hk, List.getElem?_append]
   split
   ·rfl
   ·rw [List.getElem?_eq_none (by simp; omega), List.getElem?_eq_none (by omega)]
theorem nn {mem : List aw} {key : Nat} (h : key ≤ mem.length) (B : aw) : mem.length ≤ (ba mem key B).length ∧ key < (ba mem key B).length := by
 unfold ba
 split <;> simp <;> omega
theorem dM.le {mem : List aw} {key : Nat} (h : dM mem key) : key ≤ mem.length := by
 rcases h with h | h
 ·exact Nat.le_of_lt (List.getElem?_eq_some_iff.1 h).1
 ·omega
theorem bc.free {E : Env} {w : World} {a : Act} {st : St} (hs : bc E w a st) {key : Nat} (h : dM st.mem key) : ∀ v, E.aI key v = none := by
 rcases h with h | h
 ·exact hs.mem _ _ h
 ·exact hs.top _ (by omega)
theorem Env.gC {E : Env} {key aC : Nat} (h : E.aI key aC = none) (t : Nat × Nat × Nat) : E.le (E.with key aC t) :=
 ⟨fun _ _ h => h, fun b v u hb => by
  show (if b = key ∧ v = aC then some t else E.aI b v) = some u
  rw [if_neg (fun e => by rw [e.1, e.2, h] at hb; cases hb)]; exact hb⟩

theorem iB.mono {E E' : Env} {w w' : World} {k : Nat} {B : aw} (h : iB E w k B) (hle : E.le E') (Gp : ∀ v, E.aI k v = none → E'.aI k v = none)
  (lz : ∀ g e c, E.aI k B.aC = some (g, e, c) → w'.heap[g]? = w.heap[g]?) (hF : ∀ g e c o, E.aI k B.aC = some (g, e, c) → E.F ⟨g, o, none⟩ = none → E'.F ⟨g, o, none⟩ = none) : iB E' w' k B := by
 have eA : ∀ {e rs} {f f' : Nat → Option Value}, (∀ o x, f o = some x → f' o = some x) → fA E.pure e rs f → fA E'.pure e rs f' := fun hf hr i row hi => by
  obtain ⟨h1, h2⟩ := hr i row hi
  exact ⟨h1, fun j c hj => let ⟨x, hx, h1, hr⟩ := h2 j c hj; ⟨x, hf _ _ hx, h1, hr.mono (Env.fw hle)⟩⟩
 cases B with
 | hole => exact fun v => Gp v (h v)
 | dead => trivial
 | box cs =>
  obtain ⟨g, T, xs, hb, hh, hr, hf⟩ := h
  exact ⟨g, T, xs, hle.aI _ _ _ hb, (lz _ _ _ hb).trans hh, hr.mono hle, fun o => hF _ _ _ o hb (hf o)⟩
 | rows v e rs =>
  rcases h with ⟨h1, h2⟩ | ⟨g, T, xs, c, hb, hh, jH, hl, hr, hf⟩
  ·exact .inl ⟨h1, Gp _ h2⟩
  ·exact .inr ⟨g, T, xs, c, hle.aI _ _ _ hb, (lz _ _ _ hb).trans hh, jH, hl, eA (fun _ _ h => h) hr, fun o => hF _ _ _ o hb (hf o)⟩
 | loop s jx fr params assign body =>
  obtain ⟨l, fn, tmps, db, hb, hh, hr, hf⟩ := h
  exact ⟨l, fn, tmps, db, hle.aI _ _ _ hb, (lz _ _ _ hb).trans hh, hr.mono hle, fun o => hF _ _ _ o hb (hf o)⟩
 | map aY clock =>
  obtain ⟨g, es, hb, hh, hr, hf⟩ := h
  exact ⟨g, es, hle.aI _ _ _ hb, (lz _ _ _ hb).trans hh, hr.mono hle, fun o => hF _ _ _ o hb (hf o)⟩
 | dF m since seen last =>
  obtain ⟨g, gm, e, c, hb, hm, hh, hf⟩ := h
  exact ⟨g, gm, e, c, hle.aI _ _ _ hb, hle.aI _ _ _ hm, (lz _ _ _ hb).trans hh, fun o => hF _ _ _ o hb (hf o)⟩
 | ia s pos =>
  obtain ⟨g, hb, hh, hf⟩ := h
  exact ⟨g, hle.aI _ _ _ hb, (lz _ _ _ hb).trans hh, fun o => hF _ _ _ o hb (hf o)⟩
 | iA =>
  obtain ⟨g, hb, hh, hf⟩ := h
  exact ⟨g, hle.aI _ _ _ hb, (lz _ _ _ hb).trans hh, fun o => hF _ _ _ o hb (hf o)⟩
 | mX v e rs =>
  rcases h with ⟨h1, h2⟩ | ⟨g, c, hb, hl, hr⟩
  ·exact .inl ⟨h1, Gp _ h2⟩
  ·exact .inr ⟨g, c, hle.aI _ _ _ hb, hl, eA (fun _ _ h => hle.F _ _ h) hr⟩

theorem bc.new {E : Env} {w : World} {a : Act} {st : St} (hs : bc E w a st) {key : Nat} (hk : dM st.mem key) {obj : Obj} {B : aw} {e c : Nat} (Ga : B.aC = 0)
  (hB : iB (E.with key 0 (w.heap.size, e, c)) (w.alloc obj) key B) :
  bc (E.with key 0 (w.heap.size, e, c)) (w.alloc obj) a { st with mem := ba st.mem key B } ∧ dt E w (E.with key 0 (w.heap.size, e, c)) (w.alloc obj) := by
 have MJ := hs.free hk
 have hle := Env.gC (MJ 0) (w.heap.size, e, c)
 have hblk : ∀ k v, ¬ (k = key ∧ v = 0) → (E.with key 0 (w.heap.size, e, c)).aI k v = E.aI k v := fun k v bH => if_neg bH
 have b9 : (E.with key 0 (w.heap.size, e, c)).aI key 0 = some (w.heap.size, e, c) := if_pos ⟨rfl, rfl⟩
 have JG : ∀ k v, k ≠ key → (E.with key 0 (w.heap.size, e, c)).aI k v = E.aI k v := fun k v bH => hblk k v fun h => bH h.1
 refine ⟨⟨fun ad x hx => ?_, fun k v g e' c' hb => ?_, fun k B' oj => ?_, fun k eS v => ?_, fun k B' oj v hv => ?_, ?_, hs.fr.mono hle⟩, hle, fun k v g e' c' hb => ?_, fun ad x hx => .inl hx, rfl, rfl, rfl, by simp, fun b hb _ => Go.RowKit.Below.heap_alloc w _ b hb⟩
 ·rw [World.cell?_alloc_lt w _ ad (World.block_lt_of_cell? w ad (hs.F ad x hx))]; exact hs.F ad x hx
 ·by_cases bX : k = key ∧ v = 0
  ·obtain ⟨rfl, rfl⟩ := bX; rw [b9] at hb; cases hb; simp
  ·rw [hblk k v bX] at hb; have := hs.lt _ _ _ _ _ hb; simp; omega
 ·rw [kq hk.le] at oj
  split at oj
  ·rename_i bX; subst bX; cases oj; exact hB
  ·rename_i bX
   exact (hs.mem k B' oj).mono hle (fun v h => by rw [JG k v bX]; exact h) (fun g e' c' hb => Go.RowKit.Below.heap_alloc w _ g (hs.lt _ _ _ _ _ hb)) fun _ _ _ o _ h => h
 ·have := nn hk.le B
  dsimp only at eS
  rw [JG k v (by omega)]; exact hs.top k (by omega) v
 ·dsimp only at oj
  rw [kq hk.le] at oj
  split at oj
  ·rename_i bX; subst bX; cases oj; rw [hblk k v (by omega)]; exact MJ v
  ·rename_i bX; rw [JG k v bX]; exact hs.aC k B' oj v hv
 ·intro k k' v v' g e1 c1 e2 c2 h5 h6
  by_cases bX : k = key ∧ v = 0 <;> by_cases wx : k' = key ∧ v' = 0
  ·rw [bX.1, wx.1]
  ·obtain ⟨rfl, rfl⟩ := bX; rw [b9] at h5; cases h5; rw [hblk k' _ wx] at h6; have := hs.lt _ _ _ _ _ h6; omega
  ·obtain ⟨rfl, rfl⟩ := wx; rw [b9] at h6; cases h6; rw [hblk k _ bX] at h5; have := hs.lt _ _ _ _ _ h5; omega
  ·rw [hblk k _ bX] at h5; rw [hblk k' _ wx] at h6
   exact hs.apart _ _ _ _ _ _ _ _ _ h5 h6
 ·by_cases bX : k = key ∧ v = 0
  ·obtain ⟨rfl, rfl⟩ := bX; rw [b9] at hb; cases hb; exact .inr (Nat.le_refl _)
  ·rw [hblk k v bX] at hb; exact .inl ⟨_, _, _, _, hb⟩

theorem bc.Gq {E : Env} {w : World} {a : Act} {st : St} (hs : bc E w a st) {key : Nat} (hk : dM st.mem key) {xs : Array Value} {cs : List V} (hr : aP E cs xs.toList) (T : TypeId) :
  ∃ E', bc E' (w.alloc (.cells xs T (0, 0))) a { st with mem := ba st.mem key (.box cs) } ∧ dt E w E' (w.alloc (.cells xs T (0, 0))) ∧ aW E' (.ptr key 0) (.pointer (some ⟨w.heap.size, 0, none⟩)) := by
 have hle := Env.gC (hs.free hk 0) (w.heap.size, 0, 0)
 have := hs.new (obj := .cells xs T (0, 0)) (B := .box cs) (e := 0) (c := 0) hk rfl ⟨w.heap.size, T, xs, if_pos ⟨rfl, rfl⟩, heap_alloc_new w _, hr.mono hle, fun o => ?_⟩
 ·exact ⟨_, this.1, this.2, .ptr _ _ _ _ 0 0 (if_pos ⟨rfl, rfl⟩)⟩
 ·show E.F _ = none
  cases hx : E.F ⟨w.heap.size, o, none⟩ with
  | none => rfl
  | some x => have := World.block_lt_of_cell? w _ (hs.F _ _ hx); simp at this

theorem bc.oy {E : Env} {w : World} {a : Act} {st : St} (hs : bc E w a st) {key : Nat} (hk : dM st.mem key) {xs : Array Value} {rs : List V} {e c : Nat} (T : TypeId) (jH : xs.size = c * e) (hl : rs.length ≤ c)
  (hr : fA E.pure e rs (fun o => xs[o]?)) :
  ∃ E', bc E' (w.alloc (.cells xs T (0, 0))) a { st with mem := ba st.mem key (.rows 0 e rs) } ∧ dt E w E' (w.alloc (.cells xs T (0, 0))) ∧ aW E' (.ms key 0 0 rs.length) (.slice (some ⟨w.heap.size, 0, none⟩) rs.length c) := by
 have hle := Env.gC (hs.free hk 0) (w.heap.size, e, c)
 have := hs.new (obj := .cells xs T (0, 0)) (B := .rows 0 e rs) (e := e) (c := c) hk rfl (.inr ⟨w.heap.size, T, xs, c, if_pos ⟨rfl, rfl⟩, heap_alloc_new w _, jH, hl, fun i row hi => ?_, fun o => ?_⟩)
 ·exact ⟨_, this.1, this.2, .ms _ _ _ _ _ w.heap.size e c _ _ (if_pos ⟨rfl, rfl⟩) (fun _ => by simp) (fun _ => ⟨rfl, rfl⟩) ⟨hl, Nat.zero_add _, fun _ => by simp⟩⟩
 ·obtain ⟨h1, h2⟩ := hr i row hi
  exact ⟨h1, fun j c' hj => let ⟨x, hx, h1, hr⟩ := h2 j c' hj; ⟨x, hx, h1, hr.mono (Env.fw hle)⟩⟩
 ·show E.F _ = none
  cases hx : E.F ⟨w.heap.size, o, none⟩ with
  | none => rfl
  | some x => have := World.block_lt_of_cell? w _ (hs.F _ _ hx); simp at this

theorem bc.J0 {E : Env} {w : World} {a : Act} {st : St} (hs : bc E w a st) {key : Nat} (hk : dM st.mem key) (e : Nat) : bc E w a { st with mem := ba st.mem key (.rows 0 e []) } := by
 have hn := hs.free hk
 refine ⟨hs.F, hs.lt, fun k B hB => ?_, fun k eS => hs.top k ?_, fun k B hB v hv => ?_, hs.apart, hs.fr⟩
 ·rw [kq hk.le] at hB
  split at hB
  ·rename_i bX; subst bX; cases hB; exact .inl ⟨rfl, hn 0⟩
  ·exact hs.mem k B hB
 ·have := nn hk.le (.rows 0 e []); dsimp only at eS; omega
 ·dsimp only at hB
  rw [kq hk.le] at hB
  split at hB
  ·rename_i bX; subst bX; exact hn v
  ·exact hs.aC k B hB v hv
end Go.Eng
end

section
namespace Go.Eng
variable [aH]
open Go.RowKit (Below)

def eh (xs : Array Value) (o : Nat) : List Value → Array Value
 | [] => xs
 | v :: r => eh (xs.setIfInBounds o v) (o + 1) r
def cB (cs : List V) (o : Nat) : List V → List V
 | [] => cs
 | v :: r => cB (cs.set o v) (o + 1) r

theorem fE (vs : List Value) : ∀ (xs : Array Value) (o : Nat), (eh xs o vs).size = xs.size := by
 induction vs with
 | nil => intro xs o; rfl
 | cons v r ih => intro xs o; simp [eh, ih]
theorem sr (vs : List V) : ∀ (cs : List V) (o : Nat), (cB cs o vs).length = cs.length := by
 induction vs with
 | nil => intro cs o; rfl
 | cons v r ih => intro cs o; simp [cB, ih]
theorem qG {E : Env} (vs : List V) : ∀ (ys : List Value) (cs : List V) (xs : Array Value) (o : Nat), aP E vs ys → aP E cs xs.toList → aP E (cB cs o vs) (eh xs o ys).toList := by
 induction vs with
 | nil => intro ys cs xs o h k; have := h.of_nil; subst this; exact k
 | cons v r ih =>
  intro ys cs xs o h k
  obtain ⟨y, ys, rfl, h1, h2⟩ := h.of_cons
  exact ih ys _ _ _ h2 (by simpa using k.set o h1)
theorem eB (vs : List Value) : ∀ (xs : Array Value) (o k : Nat), o + vs.length ≤ xs.size → (eh xs o vs)[k]? = if o ≤ k ∧ k < o + vs.length then vs[k - o]? else xs[k]? := by
 induction vs with
 | nil => intro xs o k _; simp [eh]; intro h1 h2; omega
 | cons v r ih =>
  intro xs o k h
  simp only [List.length_cons] at h
  rw [eh, ih _ _ _ (by simp; omega)]
  by_cases h1 : o + 1 ≤ k ∧ k < o + 1 + r.length
  ·rw [if_pos h1, if_pos ⟨by omega, by simp; omega⟩]
   have : k - o = (k - (o + 1)) + 1 := by omega
   rw [this, List.getElem?_cons_succ]
  ·rw [if_neg h1]
   by_cases h2 : k = o
   ·subst h2
    rw [if_pos ⟨Nat.le_refl _, by simp⟩]
    simp only [Nat.sub_self,List.getElem?_cons_zero]
    rw [Array.getElem?_setIfInBounds_self_of_lt (by omega)]
   ·rw [if_neg (by simp only [List.length_cons]; omega), Array.getElem?_setIfInBounds_ne (fun e => h2 e.symm)]
theorem yf (vs : List V) : ∀ (cs : List V) (o k : Nat), o + vs.length ≤ cs.length → (cB cs o vs)[k]? = if o ≤ k ∧ k < o + vs.length then vs[k - o]? else cs[k]? := by
 induction vs with
 | nil => intro xs o k _; simp [cB]; intro h1 h2; omega
 | cons v r ih =>
  intro xs o k h
  simp only [List.length_cons] at h
  rw [cB, ih _ _ _ (by simp; omega)]
  by_cases h1 : o + 1 ≤ k ∧ k < o + 1 + r.length
  ·rw [if_pos h1, if_pos ⟨by omega, by simp; omega⟩]
   have : k - o = (k - (o + 1)) + 1 := by omega
   rw [this, List.getElem?_cons_succ]
  ·rw [if_neg h1]
   by_cases h2 : k = o
   ·subst h2
    rw [if_pos ⟨Nat.le_refl _, by simp⟩]
    simp only [Nat.sub_self,List.getElem?_cons_zero]
    rw [List.getElem?_set]; simp; omega
   ·rw [if_neg (by simp only [List.length_cons]; omega), List.getElem?_set_ne (fun e => h2 e.symm)]

structure oz (w w' : World) (g : Nat) : Prop where
 os : w'.os = w.os
 tape : w'.tape = w.tape
 output : w'.output = w.output
 size : w'.heap.size = w.heap.size
 heap : ∀ b, b ≠ g → w'.heap[b]? = w.heap[b]?

theorem fe {P : Program} {g : Nat} {T : TypeId} (o : Nat) : ∀ (vs : List Value) (i : Nat) (w : World) (xs : Array Value), w.heap[g]? = some (.cells xs T (0, 0)) → o + i + vs.length ≤ xs.size →
  (∀ v ∈ vs, v.oneCell' = true) → ∃ w', (storeCells ⟨g, o, none⟩ vs i).run P w = .ok () w' ∧ w'.heap[g]? = some (.cells (eh xs (o + i) vs) T (0, 0)) ∧ oz w w' g := by
 intro vs
 induction vs with
 | nil => intro i w xs hh _ _; exact ⟨w, rfl, hh, rfl, rfl, rfl, rfl, fun _ _ => rfl⟩
 | cons v r ih =>
  intro i w xs hh hl h1
  simp only [List.length_cons] at hl
  have hc : w.cell? ⟨g, o + i, none⟩ = some (xs[o + i]'(by omega)) := by rw [ik hh, Array.getElem?_eq_getElem]
  have hf : w.frozen? ⟨g, o + i, none⟩ = false := by simp [World.frozen?, hh]
  have JH : (w.setCell ⟨g, o + i, none⟩ v).heap[g]? = some (.cells (xs.setIfInBounds (o + i) v) T (0, 0)) := by
   simp [World.setCell, Array.getElem?_modify, hh]
  obtain ⟨w', h2, h3, h4⟩ := ih (i + 1) _ _ JH (by simp; omega) (fun v hv => h1 v (List.mem_cons_of_mem _ hv))
  refine ⟨w', ?_, by rw [eh]; exact h3, h4.os, h4.tape, h4.output, by rw [h4.size]; simp, fun b hb => (h4.heap b hb).trans (Go.RowKit.Below.heap_setCell w _ v b hb)⟩
  rw [storeCells]
  simp only [Sem.run_bind,add_lit]
  rw [run_store P w _ v .plain (h1 v (List.mem_cons_self ..))]
  simp [stored, hc, hf, h2]

def wy : V → Bool
 | .sc v => v.oneCell'
 | .undef => false
 | .agg _ => false
 | .bN _ => false
 | _ => true
def fF : V → Option (List V)
 | .agg cs => if cs.all wy then some cs else none
 | v => if wy v then some [v] else none

theorem yg {E : Env} {c : V} {x : Value} (h : aW E c x) (ho : wy c = true) : x.oneCell' = true := by
 cases h <;> first | rfl | exact ho | simp [wy] at ho
theorem kr {E : Env} {v : V} {x : Value} {cs : List V} (h : aW E v x) (hc : fF v = some cs) : aP E cs x.cells.toList ∧ ∀ y ∈ x.cells.toList, y.oneCell' = true := by
 have key : ∀ (cs : List V) (xs : List Value), aP E cs xs → cs.all wy = true → ∀ y ∈ xs, y.oneCell' = true := by
  intro cs
  induction cs with
  | nil => intro xs h _ y hy; rw [h.of_nil] at hy; simp at hy
  | cons c r ih =>
   intro xs h ha y hy
   obtain ⟨x, ys, rfl, h1, h2⟩ := h.of_cons
   simp only [List.all_cons,Bool.and_eq_true] at ha
   rcases List.mem_cons.1 hy with rfl | hy
   ·exact yg h1 ha.1
   ·exact ih ys h2 ha.2 y hy
 unfold fF at hc
 split at hc
 ·split at hc
  ·rename_i np bh
   simp only [Option.some.injEq] at hc; subst hc
   have := h.cells (by simp) (by simp)
   exact ⟨this, key _ _ this bh⟩
  ·simp at hc
 ·split at hc
  ·rename_i bH kn
   simp only [Option.some.injEq] at hc; subst hc
   have h1 : x.oneCell' = true := yg h kn
   have hx : x.cells = #[x] := by cases x <;> first | rfl | simp [Value.oneCell'] at h1
   rw [hx]
   exact ⟨.cons h (.nil _), fun y hy => by simp at hy; subst hy; exact h1⟩
  ·simp at hc

theorem bc.wz {E : Env} {w : World} {a : Act} {st : St} (hs : bc E w a st) {g : Nat} (hf : ∀ o, E.F ⟨g, o, none⟩ = none) {ad : Addr} {x : Value} (hx : E.F ad = some x) : ad.block ≠ g := by
 intro he
 have hc := hs.F ad x hx
 have uo : ad.spot = none := by
  unfold World.cell? at hc
  split at hc
  ·split at hc
   ·simp at hc
   ·rename_i h; cases uo : ad.spot with | none => rfl | some s => simp [uo] at h
  ·simp at hc
 have : ad = ⟨g, ad.off, none⟩ := by cases ad; simp_all
 rw [this, hf] at hx
 cases hx

theorem bc.yh {E : Env} {w w' : World} {a : Act} {st : St} (hs : bc E w a st) {b g e c : Nat} {B B' : aw} (hm : st.mem[b]? = some B) (hh : B.held = true) (RG : B'.aC = B.aC) (hb : E.aI b B.aC = some (g, e, c)) (hf : ∀ o, E.F ⟨g, o, none⟩ = none)
  (ho : oz w w' g) (hB : iB E w' b B') : bc E w' a { st with mem := st.mem.set b B' } ∧ dt E w E w' := by
 have aD : b < st.mem.length := (List.getElem?_eq_some_iff.1 hm).1
 refine ⟨⟨fun ad x hx => ?_, fun k v g' e' c' hk => by rw [ho.size]; exact hs.lt _ _ _ _ _ hk, fun k B1 hk => ?_, fun k hk => hs.top k (by simpa using hk), fun k B1 hk v hv => ?_, hs.apart, hs.fr⟩,
  E.le_refl, fun k v g e c h => .inl ⟨k, v, e, c, h⟩, fun _ _ h => .inl h, ho.os, ho.tape, ho.output, by rw [ho.size]; exact Nat.le_refl _, fun b' ey bH => ho.heap b' fun e => by subst e; exact bH _ _ _ _ hb⟩
 ·have bH := hs.wz hf hx
  have : w'.heap[ad.block]? = w.heap[ad.block]? := ho.heap _ bH
  rw [← hs.F ad x hx]; simp [World.cell?, this]
 ·rw [List.getElem?_set] at hk
  by_cases dC : b = k
  ·subst dC; simp only [if_true,aD] at hk; cases hk; exact hB
  ·rw [if_neg dC] at hk
   cases JI : B1.held with
   | false => cases B1 <;> first | exact hs.mem k _ hk | trivial | simp [aw.held] at JI
   | true =>
    refine (hs.mem k B1 hk).mono E.le_refl (fun _ h => h) (fun g' e' c' eX => ho.heap _ fun e => ?_) fun _ _ _ _ _ h => h
    subst e
    exact dC (hs.apart _ _ _ _ _ _ _ _ _ hb eX)
 ·dsimp only at hk
  rw [List.getElem?_set] at hk
  by_cases J1 : b = k
  ·subst J1; simp only [if_true,aD] at hk; cases hk; exact hs.aC b B hm v (by omega)
  ·rw [if_neg J1] at hk; exact hs.aC k B1 hk v hv

def jL : V → Bool
 | .gn => true
 | .sc _ => true
 | .slice _ => true
 | .cg _ => true
 | .undef => true
 | _ => false
theorem wA {E : Env} {v : V} {x : Value} (h : aW E v x) (hp : jL v = true) : aW E.pure v x := by
 cases h with
 | undef => exact .undef _ _
 | gn => exact .gn _
 | sc => exact .sc _ _
 | slice _ rows a cap nE ad xf ha ij hz hF h1 hR => exact .slice _ _ _ _ nE ad xf ha ij hz hF h1 hR
 | cg _ cs ad xf hF hR => exact .cg _ _ _ xf hF hR
 | _ => simp [jL] at hp

def setRow (row : V) (o : Nat) (new : List V) : V :=
 match row with
 | .agg cs => .agg (cB cs o new)
 | r => match o, new with
  | 0, [c] => c
  | _, _ => r

theorem wB {row : V} {o : Nat} {new : List V} (ho : o + new.length ≤ row.cells.length) (kn : new.all wy = true) (bH : new ≠ []) : (setRow row o new).cells = cB row.cells o new := by
 cases row with
 | agg cs => rfl
 | _ =>
  simp only [V.cells,List.length_cons,List.length_nil] at ho ⊢
  match new, bH with
  | [c], _ =>
   obtain rfl : o = 0 := by simp at ho; omega
   simp only [List.all_cons,List.all_nil,Bool.and_true] at kn
   cases c <;> first | rfl | simp [wy] at kn
  | _ :: _ :: _, _ => simp at ho; omega

def gY (tt : Table) (mem : List aw) (T : TypeId) (p v : V) : Option (List aw) :=
 match fF v with
 | none => none
 | some new =>
  if jh tt T = some new.length then
   match p with
   | .ptr b o => match mem[b]? with
    | some (.box cs) => if o + new.length ≤ cs.length then some (mem.set b (.box (cB cs o new))) else none
    | _ => none
   | .dd b v i o => match mem[b]? with
    | some (.rows v' e rs) => match rs[i]? with
     | some row => if v' = v ∧ o + new.length ≤ row.cells.length ∧ new ≠ [] ∧ new.all jL = true ∧ new.all wy = true then some (mem.set b (.rows v' e (rs.set i (setRow row o new)))) else none
     | none => none
    | _ => none
   | _ => none
  else none
instance (new : List V) : Decidable (new ≠ []) := match new with | [] => .isFalse (by simp) | _ :: _ => .isTrue (by simp)

theorem aP.pure {E : Env} : ∀ {vs : List V} {xs : List Value}, aP E vs xs → vs.all jL = true → aP E.pure vs xs
 | [], xs, h, _ => by rw [h.of_nil]; exact .nil _
 | v :: vs, xs, h, hp => by
  obtain ⟨x, ys, rfl, h1, h2⟩ := h.of_cons
  simp only [List.all_cons,Bool.and_eq_true] at hp
  exact .cons (wA h1 hp.1) (aP.pure h2 hp.2)

theorem oA {P : Program} {tt : Table} (ht : TT P tt) {E : Env} {w : World} {a : Act} {st : St} (hs : bc E w a st) {T : TypeId} {p v : V} {x y : Value} {aE : List aw} (hp : aW E p x) (hv : aW E v y)
  (h : gY tt st.mem T p v = some aE) : ∃ w', (Instr.storeAt T x y).run P w = .ok () w' ∧ bc E w' a { st with mem := aE } ∧ dt E w E w' := by
 unfold gY at h
 split at h
 ·simp at h
 ·rename_i new fS
  obtain ⟨hr, kn⟩ := kr hv fS
  split at h
  ·rename_i jH
   have hlen : y.cells.size = new.length := by have := hr.1; simp at this; exact this.symm
   have cJ : ∀ {g o : Nat} {xs : Array Value} {T' : TypeId}, w.heap[g]? = some (.cells xs T' (0, 0)) → o + new.length ≤ xs.size →
     ∃ w', (Instr.storeAt T (.pointer (some ⟨g, o, none⟩)) y).run P w = .ok () w' ∧ w'.heap[g]? = some (.cells (eh xs o y.cells.toList) T' (0, 0)) ∧ oz w w' g := fun {g o xs T'} hh hle => by
    obtain ⟨w', h1, h2, h3⟩ := fe (P := P) o y.cells.toList 0 w xs hh (by have := hr.1; simp at this ⊢; omega) kn
    refine ⟨w', ?_, by simpa using h2, h3⟩
    unfold jh at jH
    split at jH
    ·rename_i i hi
     simp only [Option.some.injEq] at jH
     simp only [Instr.storeAt,Instr.sureAddr,Sem.run_bind,Sem.run_pure,Result.andThen_ok,storeVar,ht.sizeOf hi,hlen,jH,ne_eq,not_true_eq_false,if_false]
     exact h1
    ·simp at jH
   split at h
   ·rename_i b o
    split at h
    ·rename_i cs hm
     split at h
     ·rename_i hle
      simp only [Option.some.injEq] at h; subst h
      cases hp with
      | ptr _ _ _ g e c hb =>
       obtain ⟨g', T', xs, ey, hh, uq, hf⟩ := hs.mem b _ hm
       rw [hb] at ey; cases ey
       obtain ⟨w', h1, h2, h3⟩ := cJ (o := o) hh (by have := uq.1; simp at this; omega)
       exact ⟨w', h1, hs.yh hm rfl rfl hb hf h3 ⟨g, T', _, hb, h2, qG _ _ _ _ _ hr uq, hf⟩⟩
     ·simp at h
    ·simp at h
   ·rename_i b vv i o
    split at h
    ·rename_i v' e rs hm
     split at h
     ·rename_i row b8
      split at h
      ·rename_i oB
       obtain ⟨rfl, hle, bH, u4, RH⟩ := oB
       simp only [Option.some.injEq] at h; subst h
       cases hp with
       | dd _ _ _ _ _ g e' c hb =>
        rcases hs.mem b _ hm with ⟨rfl, -⟩ | ⟨g', T', xs, c', ey, hh, mq, ko, uq, hf⟩
        ·simp at b8
        rw [hb] at ey; cases ey
        obtain ⟨qH, Y4⟩ := uq i row b8
        have hi : i < rs.length := (List.getElem?_eq_some_iff.1 b8).1
        have hmul : i * e + e ≤ xs.size := by
         rw [mq, ← Nat.succ_mul]; exact Nat.mul_le_mul_right e (by omega)
        obtain ⟨w', h1, h2, h3⟩ := cJ (o := i * e + o) hh (by omega)
        refine ⟨w', h1, hs.yh hm rfl rfl hb hf h3 (.inr ⟨g, T', _, c, hb, h2, by rw [fE]; exact mq, by simpa using ko, ?_, hf⟩)⟩
        have N1 : y.cells.toList.length = new.length := hr.1.symm
        intro i' Vp yi
        rw [List.getElem?_set] at yi
        by_cases Vq : i = i'
        ·subst Vq
         simp only [if_true,hi] at yi
         cases yi
         have hc := wB hle RH bH
         refine ⟨by rw [hc, sr]; exact qH, fun j cc hj => ?_⟩
         rw [hc, yf _ _ _ _ hle] at hj
         dsimp only
         rw [eB _ _ _ _ (by rw [N1]; omega), N1]
         by_cases gJ : o ≤ j ∧ j < o + new.length
         ·rw [if_pos gJ] at hj
          rw [if_pos ⟨by omega, by omega⟩]
          obtain ⟨z, hz, Vr⟩ := (hr.pure u4).get hj
          exact ⟨z, by rw [← hz]; congr 1; omega, kn z (List.mem_of_getElem? hz), Vr⟩
         ·rw [if_neg gJ] at hj
          rw [if_neg (by omega)]
          exact Y4 j cc hj
        ·rw [if_neg Vq] at yi
         obtain ⟨h5, h6⟩ := uq i' Vp yi
         refine ⟨h5, fun j cc hj => ?_⟩
         obtain ⟨z, hz, Gr, Vr⟩ := h6 j cc hj
         have qD : j < e := by rw [← h5]; exact (List.getElem?_eq_some_iff.1 hj).1
         refine ⟨z, ?_, Gr, Vr⟩
         dsimp only
         rw [eB _ _ _ _ (by rw [N1]; omega), N1, if_neg ?_]
         ·exact hz
         ·intro gJ
          rcases Nat.lt_or_gt_of_ne Vq with aD | Y5
          ·have : (i + 1) * e ≤ i' * e := Nat.mul_le_mul_right e aD
           rw [Nat.succ_mul] at this
           omega
          ·have : (i' + 1) * e ≤ i * e := Nat.mul_le_mul_right e Y5
           rw [Nat.succ_mul] at this
           omega
      ·simp at h
     ·simp at h
    ·simp at h
   ·simp at h
  ·simp at h
end Go.Eng
end

section
namespace Go.Eng
variable [aH]
open Go.RowKit (Below)

def qI (E : Env) (e : Nat) (rs : List V) (ys : Array Value) : Prop := ys.size = rs.length * e ∧ fA E e rs (fun o => ys[o]?)

theorem su {i n j e : Nat} (hi : i < n) (hj : j < e) : i * e + j < n * e := by
 have : (i + 1) * e ≤ n * e := Nat.mul_le_mul_right e hi
 rw [Nat.succ_mul] at this; omega

theorem u5 {P : Program} {E : Env} {w : World} {ad : Addr} {rows : List V} {size : Nat} (hz : ∀ (i : Nat) (row : V), rows[i]? = some row → row.cells.length = size)
  (h : ∀ (i : Nat) (row : V) (j : Nat) (c : V), rows[i]? = some row → row.cells[j]? = some c → ∃ x, w.cell? (ad.add (i * size + j)) = some x ∧ x.oneCell' = true ∧ aW E c x) :
  ∃ ys : Array Value, (loadCells ad (rows.length * size)).run P w = .ok ys w ∧ qI E size rows ys := by
 let f : Nat → Value := fun k => (w.cell? (ad.add k)).getD default
 have hf : ∀ k, k < rows.length * size → w.cell? (ad.add k) = some (f k) := fun k hk => by
  have hs : 0 < size := Nat.pos_of_ne_zero fun e => by subst e; simp at hk
  have hi : k / size < rows.length := by rwa [Nat.div_lt_iff_lt_mul hs]
  have hj : k % size < size := Nat.mod_lt _ hs
  have b8 := List.getElem?_eq_getElem hi
  have ko := hz _ _ b8
  obtain ⟨x, hx, -⟩ := h _ _ (k % size) _ b8 (List.getElem?_eq_getElem (by rw [ko]; exact hj))
  rw [Nat.mul_comm, Nat.div_add_mod] at hx
  simp [f, hx]
 refine ⟨((List.range (rows.length * size)).map f).toArray, run_loadCells w ad _ f hf, by simp, fun i row hi => ⟨hz i row hi, fun j c hj => ?_⟩⟩
 obtain ⟨x, hx, h1, hr⟩ := h i row j c hi hj
 have rD : i < rows.length := (List.getElem?_eq_some_iff.1 hi).1
 have qD : j < size := by rw [← hz i row hi]; exact (List.getElem?_eq_some_iff.1 hj).1
 refine ⟨x, ?_, h1, hr⟩
 have := su rD qD
 simp [this, f, hx]

def rowsOf (mem : List aw) (size : Nat) : V → Option (List V)
 | .slice rows => if bY rows 0 size = true then some rows else none
 | .ms b v s l => match mem[b]? with
  | some (.rows v' e rs) => if v' = v ∧ e = size ∧ s + l ≤ rs.length then some ((rs.drop s).take l) else none
  | some (.mX v' e rs) => if v' = v ∧ e = size ∧ s + l ≤ rs.length then some ((rs.drop s).take l) else none
  | _ => none
 | .sc (.slice none 0 0) => some []
 | _ => none

theorem rT {rs : List V} {s l i : Nat} {row : V} (h : ((rs.drop s).take l)[i]? = some row) : rs[s + i]? = some row := by
 rw [List.getElem?_take] at h
 split at h
 ·simpa using h
 ·simp at h

theorem dN {P : Program} {E : Env} {w : World} {a : Act} {st : St} (hs : bc E w a st) {size : Nat} {v : V} {x : Value} {rows : List V} (hr : aW E v x) (h : rowsOf st.mem size v = some rows) :
  ∃ aa cap, x = .slice aa rows.length cap ∧ rows.length ≤ cap ∧ ∃ ys : Array Value, (Builtin.firstCells size rows.length x).run P w = .ok ys w ∧ qI E.pure size rows ys := by
 have wC : ∀ n, n = 0 → ∃ ys : Array Value, (Builtin.firstCells size n (.slice none n 0)).run P w = .ok ys w ∧ qI E.pure size [] ys := fun n hn => by
  subst hn
  exact ⟨#[], rfl, by simp, fun i row hi => by simp at hi⟩
 unfold rowsOf at h
 split at h
 ·rename_i iF
  split at h
  ·rename_i pL
   simp only [Option.some.injEq] at h; subst h
   cases hr with
   | slice _ _ aa cap nE ad xf ha ij hz hF kn hR =>
    refine ⟨aa, cap, rfl, ij, ?_⟩
    cases eA : iF with
    | nil =>
     subst eA
     cases aa with
     | none => exact wC 0 rfl
     | some a0 => exact ⟨#[], by simp [Builtin.firstCells, loadCells, loadCellsFrom], by simp, fun i row hi => by simp at hi⟩
    | cons r0 rr =>
     have bH : iF ≠ [] := by simp [eA]
     have he : nE = size := by
      unfold bY at pL
      have h0 : iF[0]? = some r0 := by simp [eA]
      rw [h0] at pL
      simp only [beq_iff_eq] at pL
      rw [← pL, hz 0 _ h0]
     subst he
     obtain rfl := ha bH
     rw [← eA]
     exact u5 (P := P) hz fun i row j c hi hj => ⟨_, hs.F _ _ (hF i row j c hi hj), kn i row j c hi hj, hR i row j c hi hj⟩
  ·simp at h
 ·rename_i b v s l
  have AJ : ∀ (rs : List V), s + l ≤ rs.length → rows = (rs.drop s).take l → (∀ g e c, E.aI b v = some (g, e, c) → e = size ∧ fA E.pure size rs (fun o => w.cell? ⟨g, o, none⟩)) →
    ∃ aa cap, x = .slice aa rows.length cap ∧ rows.length ≤ cap ∧ ∃ ys : Array Value, (Builtin.firstCells size rows.length x).run P w = .ok ys w ∧ qI E.pure size rows ys := by
   intro rs hl eA hb
   have hlen : rows.length = l := by rw [eA]; simp; omega
   cases hr with
   | cZ =>
    have : rows = [] := List.length_eq_zero_iff.1 hlen
    subst this
    exact ⟨none, 0, rfl, Nat.le_refl _, wC 0 rfl⟩
   | ms _ _ _ _ _ g e c aa cap eX MG Gj CX =>
    obtain ⟨rfl, RJ⟩ := hb g e c eX
    rw [← hlen]
    refine ⟨aa, cap, rfl, by omega, ?_⟩
    by_cases MH : 0 < l
    ·obtain rfl := MG MH
     refine u5 (P := P) (fun i row hi => ?_) fun i row j c hi hj => ?_
     ·rw [eA] at hi; exact (RJ _ _ (rT hi)).1
     ·rw [eA] at hi
      obtain ⟨x, hx, h1, h2⟩ := (RJ _ _ (rT hi)).2 j c hj
      exact ⟨x, by rw [add_lit, ← hx]; congr 2; rw [Nat.add_mul]; omega, h1, h2⟩
    ·have : rows = [] := List.length_eq_zero_iff.1 (by omega)
     subst this
     cases aa with
     | none => exact ⟨#[], rfl, by simp, fun i row hi => by simp at hi⟩
     | some a0 => exact ⟨#[], by simp [Builtin.firstCells, loadCells, loadCellsFrom], by simp, fun i row hi => by simp at hi⟩
  split at h
  ·rename_i v' e rs hm
   split at h
   ·rename_i hc
    obtain ⟨rfl, hc⟩ := hc
    simp only [Option.some.injEq] at h
    refine AJ rs hc.2 h.symm fun g e' c hb => ?_
    rcases hs.mem b _ hm with ⟨-, hn⟩ | ⟨g', T', xs, c', ey, hh, -, -, uq, -⟩
    ·rw [hb] at hn; cases hn
    ·rw [hb] at ey; cases ey
     refine ⟨hc.1, ?_⟩
     rw [hc.1] at uq
     intro i row hi
     obtain ⟨h1, h2⟩ := uq i row hi
     exact ⟨h1, fun j c hj => by dsimp only; rw [ik hh]; exact h2 j c hj⟩
   ·simp at h
  ·rename_i v' e rs hm
   split at h
   ·rename_i hc
    obtain ⟨rfl, hc⟩ := hc
    simp only [Option.some.injEq] at h
    refine AJ rs hc.2 h.symm fun g e' c hb => ?_
    rcases hs.mem b _ hm with ⟨-, hn⟩ | ⟨g', c', ey, -, uq⟩
    ·rw [hb] at hn; cases hn
    rw [hb] at ey; cases ey
    refine ⟨hc.1, ?_⟩
    rw [hc.1] at uq
    intro i row hi
    obtain ⟨h1, h2⟩ := uq i row hi
    exact ⟨h1, fun j c hj => let ⟨x, hx, h⟩ := h2 j c hj; ⟨x, hs.F _ _ hx, h⟩⟩
   ·simp at h
  ·simp at h
 ·simp only [Option.some.injEq] at h; subst h
  obtain rfl := bR hr
  exact ⟨none, 0, rfl, Nat.le_refl _, wC 0 rfl⟩
 ·simp at h

def ku : V → V
 | .sc (.slice none 0 0) => .slice []
 | v => v
theorem oC {E : Env} {v : V} {x : Value} (h : aW E v x) : aW E (ku v) x := by
 unfold ku
 split
 ·obtain rfl := bR h
  exact .slice _ [] none 0 0 default (fun _ _ => default) (by simp) (by simp) (by simp) (by simp) (by simp) (by simp)
 ·exact h
def J2 : V → V
 | .agg cs => .agg (cs.map ku)
 | v => ku v
theorem A4 {v : V} {cs : List V} (h : fF v = some cs) : (J2 v).cells = cs.map ku := by
 unfold fF at h
 split at h
 ·split at h
  ·simp only [Option.some.injEq] at h; subst h; rfl
  ·simp at h
 ·rename_i bH
  split at h
  ·simp only [Option.some.injEq] at h; subst h
   cases v <;> first | exact absurd rfl (bH _) | rfl | skip
   rename_i v
   simp only [J2,ku,List.map_cons,List.map_nil]
   split <;> rfl
  ·simp at h
theorem aP.ku {E : Env} : ∀ {vs : List V} {xs : List Value}, aP E vs xs → aP E (vs.map ku) xs
 | [], xs, h => h
 | v :: vs, xs, h => by
  obtain ⟨x, ys, rfl, h1, h2⟩ := h.of_cons
  exact .cons (oC h1) (aP.ku h2)

def mr (size : Nat) : List V → Option (List V)
 | [] => some []
 | v :: r => match fF v with
  | some cs => if cs.length = size ∧ cs.all jL = true then (match mr size r with | some rs => some (J2 v :: rs) | none => none) else none
  | none => none

def lA : Nat → List (Nat × Operand) → Bool
 | _, [] => true
 | k, (i, _) :: r => i == k && lA (k + 1) r

theorem qJ (off : Nat) : ∀ (l : List Value) (n : Nat) (cs : Array Value), (l.zipIdx n).foldl (fun cs (x : Value × Nat) => cs.setIfInBounds (off + x.2) x.1) cs = eh cs (off + n) l := by
 intro l
 induction l with
 | nil => intro n cs; rfl
 | cons v r ih => intro n cs; rw [List.zipIdx_cons, List.foldl_cons, ih, eh, Nat.add_assoc]

theorem Gs {E : Env} {size : Nat} : ∀ (parts : List (Nat × Operand)) (k : Nat) (ev : Operand → V) (av : Operand → Value) (Z : Array Value) (rs : List V), (∀ p ∈ parts, aW E (ev p.2) (av p.2)) → lA k parts = true →
  mr size (parts.map fun p => ev p.2) = some rs → (k + parts.length) * size ≤ Z.size →
  ∃ Z', Instr.fill (fun i => some (i * size, size)) Z (parts.map fun p => (p.1, av p.2)) = some Z' ∧ Z'.size = Z.size ∧ rs.length = parts.length ∧ (∀ o, o < k * size → Z'[o]? = Z[o]?) ∧
   fA E.pure size rs (fun o => Z'[k * size + o]?) := by
 intro parts
 induction parts with
 | nil =>
  intro k ev av Z rs _ _ hl _
  simp only [List.map_nil,mr,Option.some.injEq] at hl; subst hl
  exact ⟨Z, rfl, rfl, rfl, fun _ _ => rfl, fun i row hi => by simp at hi⟩
 | cons p r ih =>
  intro k ev av Z rs oD rE hl jH
  obtain ⟨i, o⟩ := p
  simp only [lA,Bool.and_eq_true,beq_iff_eq] at rE
  obtain ⟨rfl, rE⟩ := rE
  simp only [List.map_cons,mr] at hl
  split at hl
  ·rename_i cs rA
   split at hl
   ·rename_i hc
    split at hl
    ·rename_i rs' N2
     simp only [Option.some.injEq] at hl; subst hl
     obtain ⟨hr, kn⟩ := kr (oD (i, o) (List.mem_cons_self ..)) rA
     have u6 : (av o).cells.size = size := by have := hr.1; simp at this; omega
     simp only [List.length_cons] at jH
     have hmul : i * size + size ≤ Z.size := by
      have : (i + 1) * size ≤ (i + (r.length + 1)) * size := Nat.mul_le_mul_right _ (by omega)
      rw [Nat.succ_mul] at this; omega
     obtain ⟨Z', h1, h2, h3, h4, h5⟩ := ih (i + 1) ev av (eh Z (i * size) (av o).cells.toList) rs' (fun p hp => oD p (List.mem_cons_of_mem _ hp)) rE N2 (by rw [fE]; rw [show i + 1 + r.length = i + (r.length + 1) from by omega]; exact jH)
     have hlen : (av o).cells.toList.length = size := by simpa using u6
     have uo : ∀ q, (eh Z (i * size) (av o).cells.toList)[q]? = if i * size ≤ q ∧ q < i * size + size then (av o).cells.toList[q - i * size]? else Z[q]? := fun q => by
      rw [eB _ _ _ _ (by rw [hlen]; exact hmul), hlen]
     refine ⟨Z', ?_, by rw [h2, fE], by simp [h3], fun q hq => ?_, fun q row hq => ?_⟩
     ·simp only [List.map_cons,Instr.fill,u6]
      rw [if_neg (by simp; omega)]
      rw [← h1]
      congr 1
      rw [← Array.foldl_toList, Array.toList_zipIdx]
      exact qJ (i * size) (av o).cells.toList 0 Z
     ·rw [h4 q (by rw [Nat.succ_mul]; omega), uo, if_neg (by omega)]
     ·cases q with
      | zero =>
       simp only [List.getElem?_cons_zero,Option.some.injEq] at hq; subst hq
       rw [A4 rA]
       refine ⟨by simpa using hc.1, fun j c hj => ?_⟩
       have qD : j < size := by rw [← hc.1]; simpa using (List.getElem?_eq_some_iff.1 hj).1
       obtain ⟨x, hx, Gn⟩ := (hr.pure hc.2).ku.get hj
       refine ⟨x, ?_, kn x (List.mem_of_getElem? hx), Gn⟩
       dsimp only
       rw [Nat.zero_mul, Nat.zero_add, h4 _ (by rw [Nat.succ_mul]; omega), uo, if_pos ⟨by omega, by omega⟩, ← hx]
       congr 1; omega
      | succ q =>
       simp only [List.getElem?_cons_succ] at hq
       obtain ⟨h6, h7⟩ := h5 q row hq
       refine ⟨h6, fun j c hj => ?_⟩
       obtain ⟨x, hx, uE, Gn⟩ := h7 j c hj
       refine ⟨x, ?_, uE, Gn⟩
       dsimp only at hx ⊢
       rw [← hx]
       congr 1
       rw [Nat.succ_mul, Nat.succ_mul]; omega
    ·simp at hl
   ·simp at hl
  ·simp at hl

def pM (tt : Table) (T : TypeId) (len : Nat) (parts : List (Nat × Operand)) (ev : Operand → V) : Option (Nat × List V) :=
 match dG tt T with
 | some e => match jh tt e with
  | some size => if lA 0 parts = true ∧ parts.length = len ∧ len * size ≤ 65536 then (match mr size (parts.map fun p => ev p.2) with | some rs => some (size, rs) | none => none) else none
  | none => none
 | none => none

theorem wD {P : Program} {tt : Table} (ht : TT P tt) {E : Env} {w : World} {a : Act} {ev : Operand → V} {T : TypeId} {len size : Nat} {parts : Array (Nat × Operand)} {rs : List V} (du : ∀ p ∈ parts.toList, aW E (ev p.2) (a.eval p.2))
  (h : pM tt T len parts.toList ev = some (size, rs)) :
  ∃ (Z : Array Value) (e : TypeId), (Instr.buildSlice T len (parts.map fun (i, x) => (i, a.eval x))).run P w = .ok (.slice (some ⟨w.heap.size, 0, none⟩) len len) (w.alloc (.cells Z e (0, 0))) ∧ Z.size = len * size ∧ rs.length = len ∧ fA E.pure size rs (fun o => Z[o]?) := by
 unfold pM dG jh at h
 cases hT : tt T with
 | none => rw [hT] at h; simp at h
 | some iT =>
  rw [hT] at h; simp only at h
  cases he : iT.elem with
  | none => rw [he] at h; simp at h
  | some e =>
   rw [he] at h; simp only at h
   cases hE : tt e with
   | none => rw [hE] at h; simp at h
   | some ie =>
    rw [hE] at h; simp only at h
    split at h
    ·rename_i hc
     obtain ⟨rE, hlen, RL⟩ := hc
     split at h
     ·rename_i rs' Gt
      simp only [Option.some.injEq,Prod.mk.injEq] at h
      obtain ⟨rfl, rfl⟩ := h
      obtain ⟨d, hd, -, ki, -⟩ := ht.desc T iT hT
      obtain rfl := ki e he
      obtain ⟨info, nr, MK, -, z, hz, Et⟩ := ht.size e ie hE
      have hzero : ∀ w' : World, (zeroValue e).run P w' = .ok z w' := fun w' => by simp [zeroValue, cE nr, hz]
      obtain ⟨zc, Uz⟩ : ∃ zc : Array Value, zc = if len * ie.size = 0 then #[] else z.cells := ⟨_, rfl⟩
      obtain ⟨Z', h1, h2, h3, -, h5⟩ := Gs (size := ie.size) parts.toList 0 ev a.eval ((Array.range (len * ie.size)).map (zc[· % zc.size]!)) rs' du rE Gt (by simp [hlen])
      refine ⟨Z', e, ?_, by simpa using h2, by omega, by simpa using h5⟩
      have nI : (parts.map fun (i, x) => (i, a.eval x)).toList = parts.toList.map fun p => (p.1, a.eval p.2) := by simp
      unfold Instr.buildSlice
      simp only [Sem.run_bind,aq hd,Result.andThen_ok,ht.sizeOf hE]
      rw [if_neg (by omega)]
      by_cases h0 : len * ie.size = 0
      ·simp only [h0,if_true,Sem.run_pure,Result.andThen_ok,nI]
       rw [if_pos h0] at Uz
       subst Uz
       rw [h0] at h1
       simp only [Sem.run_bind,Sem.run_pure,Result.andThen_ok,nI]
       simp only [h1]
       simp [newRow]
      ·simp only [h0,if_false,Sem.run_bind,hzero,Sem.run_pure,Result.andThen_ok,nI]
       rw [if_neg h0] at Uz
       subst Uz
       simp only [h1]
       simp [newRow]
     ·simp at h
    ·simp at h
end Go.Eng
end

section
namespace Go.Eng
variable [aH]
open Go.RowKit (Below)

section
variable {P : Program} {w : World}
theorem sv {t u ty e e' : TypeId} {i : TypeInfo} (ht : P.underlying t = some (.slice e)) (hu : P.underlying u = some (.slice e')) (hi : P.info? e = some i) (g lb dV n c : Nat) (aa : Option Addr) (news : Array Value)
  (hf : (Builtin.firstCells i.size n (.slice aa n c)).run P w = .ok news w) (oE : lb + n ≤ dV) {w' : World} (iq : (storeCells ⟨g, lb * i.size, none⟩ news.toList).run P w = .ok () w') :
  (Builtin.append_ #[t, u] ty #[.slice (some ⟨g, 0, none⟩) lb dV, .slice aa n c]).run P w = .ok (.slice (some ⟨g, 0, none⟩) (lb + n) dV) w' := by
 simp [Builtin.append_, aq ht, aq hu, de hi, Builtin.lenOf, oE, hf, add_lit, iq]

theorem ei {t u ty e e' : TypeId} {i : TypeInfo} (ht : P.underlying t = some (.slice e)) (hu : P.underlying u = some (.slice e')) (hi : P.info? e = some i) (c : Nat) (aa : Option Addr) (news : Array Value)
  (hf : (Builtin.firstCells i.size 0 (.slice aa 0 c)).run P w = .ok news w) :
  (Builtin.append_ #[t, u] ty #[.slice none 0 0, .slice aa 0 c]).run P w = .ok (.slice none 0 0) w := by
 simp [Builtin.append_, aq ht, aq hu, de hi, Builtin.lenOf, hf]

theorem fG {t u ty e e' : TypeId} {i : TypeInfo} {z : Value} (ht : P.underlying t = some (.slice e)) (hu : P.underlying u = some (.slice e')) (hi : P.info? e = some i) (hz : i.zero = some z) (base : Option Addr) (lb dV n c : Nat)
  (aa : Option Addr) (RM news : Array Value) (fT : (Builtin.firstCells i.size lb (.slice base lb dV)).run P w.drew = .ok RM w.drew) (hf : (Builtin.firstCells i.size n (.slice aa n c)).run P w.drew = .ok news w.drew)
  (hg : dV < lb + n) (h63 : ((lb + n : Nat) : Int) ≤ 9223372036854775807) (Eu : Builtin.nextslicecap (lb + n) dV * i.bytes ≤ 281474976710656) :
  (Builtin.append_ #[t, u] ty #[.slice base lb dV, .slice aa n c]).run P w =
   .ok (.slice (some ⟨w.heap.size, 0, none⟩) (lb + n) (grownCap w (lb + n) dV e))
    (w.drew.alloc (.cells (RM ++ news ++ Builtin.zeroCells z.cells (grownCap w (lb + n) dV e - (lb + n))) e)) := by
 have hn : ¬ (lb + n ≤ dV) := by omega
 have Vs : ¬ (9223372036854775807 < ((lb : Int) + (n : Int))) := by omega
 have Vt : ¬ (281474976710656 < Builtin.nextslicecap (lb + n) dV * i.bytes) := by omega
 simp [Builtin.append_, aq ht, aq hu, cE hi, de hi, zeroValue, hz, Builtin.lenOf, hn, Vs, Vt, Question.forced, hf, fT, newRow, grownCap]
end

def lB (mem : List aw) (size : Nat) : V → Option (Option (Nat × Nat) × List V)
 | .sc (.slice none 0 0) => some (none, [])
 | .full rows => if bY rows 0 size = true then some (none, rows) else none
 | .ms b v 0 l => match mem[b]? with
  | some (.rows v' e rs) => if v' = v ∧ e = size ∧ rs.length = l then some (some (b, v), rs) else none
  | _ => none
 | _ => none

def yj : V → List V → Bool
 | .full _, [] => false
 | _, _ => true
theorem Gu (b v s l : Nat) (xs : List V) : yj (.ms b v s l) xs = true := rfl
theorem Gv (v : Value) (xs : List V) : yj (.sc v) xs = true := rfl
theorem A5 (v x : V) (xs : List V) : yj v (x :: xs) = true := by cases v <;> rfl
def dv (tt : Table) (mem : List aw) (ts : List TypeId) (s x : V) : Option (Nat × Option (Nat × Nat) × List V) :=
 match ts with
 | [t, u] => match tt t with
  | some it => match it.elem with
   | some e => match dG tt u with
    | some _ => match tt e with
     | some i =>
      if 0 < i.size ∧ i.bytes ≤ 4096 ∧ i.zero.length = i.size then
       match lB mem i.size s with
       | some (nt, rs) => match rowsOf mem i.size x with
        | some xs => if rs.length + xs.length ≤ 34359738368 then (if yj s xs = true then some (i.size, nt, rs ++ xs) else none) else none
        | none => none
       | none => none
      else none
     | none => none
    | none => none
   | none => none
  | none => none
 | _ => none

def cu (mem : List aw) (key size : Nat) (rows : List V) : Option (Nat × Nat) → List aw × V
 | none => (ba mem key (.rows 0 size rows), .ms key 0 0 rows.length)
 | some (b, v) => (mem.set b (.rows (v + 1) size rows), .ms b (v + 1) 0 rows.length)

theorem bc.renew {E : Env} {w w' : World} {a : Act} {st : St} (hs : bc E w a st) {b v e0 g e c : Nat} {rs rows : List V} (hm : st.mem[b]? = some (.rows v e0 rs)) (hF : ∀ ad x, E.F ad = some x → w'.cell? ad = some x) (jH : w.heap.size ≤ w'.heap.size)
  (hg : g < w'.heap.size) (sw : ∀ k B', k ≠ b → st.mem[k]? = some B' → B'.held = true → ∀ g' e' c', E.aI k B'.aC = some (g', e', c') → w'.heap[g']? = w.heap[g']? ∧ g' ≠ g)
  (hB : iB (E.with b (v + 1) (g, e, c)) w' b (.rows (v + 1) e rows)) (UA : ∀ k v' e' c', E.aI k v' = some (g, e', c') → k = b) : bc (E.with b (v + 1) (g, e, c)) w' a { st with mem := st.mem.set b (.rows (v + 1) e rows) } := by
 have hn : ∀ v', v < v' → E.aI b v' = none := fun v' rz => hs.aC b _ hm v' rz
 have hle : E.le (E.with b (v + 1) (g, e, c)) := Env.gC (hn _ (Nat.lt_succ_self v)) _
 have b9 : (E.with b (v + 1) (g, e, c)).aI b (v + 1) = some (g, e, c) := if_pos ⟨rfl, rfl⟩
 have hblk : ∀ k v', ¬ (k = b ∧ v' = v + 1) → (E.with b (v + 1) (g, e, c)).aI k v' = E.aI k v' := fun k v' bH => if_neg bH
 have JG : ∀ k v', k ≠ b → (E.with b (v + 1) (g, e, c)).aI k v' = E.aI k v' := fun k v' bH => hblk k v' fun h => bH h.1
 have aD : b < st.mem.length := (List.getElem?_eq_some_iff.1 hm).1
 have eW : ∀ (k : Nat) (B : aw), (st.mem.set b (.rows (v + 1) e rows))[k]? = some B → (k = b ∧ B = .rows (v + 1) e rows) ∨ (k ≠ b ∧ st.mem[k]? = some B) := fun k B hk => by
  rw [List.getElem?_set] at hk
  by_cases dC : b = k
  ·subst dC; simp only [if_true,aD] at hk; cases hk; exact .inl ⟨rfl, rfl⟩
  ·rw [if_neg dC] at hk; exact .inr ⟨fun e => dC e.symm, hk⟩
 refine ⟨hF, fun k v' g' e' c' hb => ?_, fun k B hk => ?_, fun k hk v' => ?_, fun k B hk v' rz => ?_, fun k k' v1 v2 g' e1 c1 e2 c2 h5 h6 => ?_, hs.fr.mono hle⟩
 ·by_cases hq : k = b ∧ v' = v + 1
  ·obtain ⟨rfl, rfl⟩ := hq; rw [b9] at hb; cases hb; exact hg
  ·rw [hblk k v' hq] at hb; exact Nat.lt_of_lt_of_le (hs.lt _ _ _ _ _ hb) jH
 ·rcases eW k B hk with ⟨rfl, rfl⟩ | ⟨dC, eS⟩
  ·exact hB
  ·cases JI : B.held with
   | false =>
    have := hs.mem k B eS
    cases B with
    | hole => exact fun v' => by rw [JG k v' dC]; exact this v'
    | dead => trivial
    | _ => simp [aw.held] at JI
   | true => exact (hs.mem k B eS).mono hle (fun v' h => by rw [JG k v' dC]; exact h) (fun g' e' c' eX => (sw k B dC eS JI g' e' c' eX).1) fun _ _ _ _ _ h => h
 ·have eS : st.mem.length ≤ k := by simpa using hk
  rw [JG k v' (by omega)]; exact hs.top k eS v'
 ·rcases eW k B hk with ⟨rfl, rfl⟩ | ⟨dC, eS⟩
  ·have : v + 1 < v' := rz
   rw [hblk k v' (by omega)]; exact hn v' (by omega)
  ·rw [JG k v' dC]; exact hs.aC k B eS v' rz
 ·by_cases hq : k = b ∧ v1 = v + 1 <;> by_cases JJ : k' = b ∧ v2 = v + 1
  ·rw [hq.1, JJ.1]
  ·obtain ⟨rfl, rfl⟩ := hq; rw [b9] at h5; cases h5; rw [hblk k' _ JJ] at h6; exact (UA _ _ _ _ h6).symm
  ·obtain ⟨rfl, rfl⟩ := JJ; rw [b9] at h6; cases h6; rw [hblk k _ hq] at h5; exact UA _ _ _ _ h5
  ·rw [hblk k _ hq] at h5; rw [hblk k' _ JJ] at h6
   exact hs.apart _ _ _ _ _ _ _ _ _ h5 h6

theorem bc.yl {E : Env} {w : World} {a : Act} {st : St} (hs : bc E w a st) {b v e0 e : Nat} {rs : List V} (hm : st.mem[b]? = some (.rows v e0 rs)) : bc E w a { st with mem := st.mem.set b (.rows (v + 1) e []) } := by
 have hn : ∀ v', v < v' → E.aI b v' = none := fun v' rz => hs.aC b _ hm v' rz
 have aD : b < st.mem.length := (List.getElem?_eq_some_iff.1 hm).1
 have eW : ∀ (k : Nat) (B : aw), (st.mem.set b (.rows (v + 1) e []))[k]? = some B → (k = b ∧ B = .rows (v + 1) e []) ∨ (k ≠ b ∧ st.mem[k]? = some B) := fun k B hk => by
  rw [List.getElem?_set] at hk
  by_cases dC : b = k
  ·subst dC; simp only [if_true,aD] at hk; cases hk; exact .inl ⟨rfl, rfl⟩
  ·rw [if_neg dC] at hk; exact .inr ⟨fun e => dC e.symm, hk⟩
 refine ⟨hs.F, hs.lt, fun k B hk => ?_, fun k hk v' => hs.top k (by simpa using hk) v', fun k B hk v' rz => ?_, hs.apart, hs.fr⟩
 ·rcases eW k B hk with ⟨rfl, rfl⟩ | ⟨dC, eS⟩
  ·exact .inl ⟨rfl, hn _ (Nat.lt_succ_self v)⟩
  ·exact hs.mem k B eS
 ·rcases eW k B hk with ⟨rfl, rfl⟩ | ⟨dC, eS⟩
  ·exact hn v' (Nat.lt_of_succ_lt rz)
  ·exact hs.aC k B eS v' rz

theorem gD {E : Env} {e : Nat} {rs xs : List V} {A B C : Array Value} (h1 : qI E e rs A) (h2 : qI E e xs B) : fA E e (rs ++ xs) (fun o => (A ++ B ++ C)[o]?) := by
 intro i row hi
 rw [List.getElem?_append] at hi
 split at hi
 ·rename_i aD
  obtain ⟨h3, h4⟩ := h1.2 i row hi
  refine ⟨h3, fun j c hj => ?_⟩
  obtain ⟨x, hx, hr⟩ := h4 j c hj
  dsimp only at hx
  have N3 : i * e + j < A.size := (Array.getElem?_eq_some_iff.1 hx).1
  refine ⟨x, ?_, hr⟩
  dsimp only
  rw [Array.append_assoc, Array.getElem?_append_left N3, hx]
 ·rename_i c5
  obtain ⟨h3, h4⟩ := h2.2 (i - rs.length) row hi
  refine ⟨h3, fun j c hj => ?_⟩
  obtain ⟨x, hx, hr⟩ := h4 j c hj
  dsimp only at hx
  have N3 : (i - rs.length) * e + j < B.size := (Array.getElem?_eq_some_iff.1 hx).1
  refine ⟨x, ?_, hr⟩
  dsimp only
  have hmul : i * e = A.size + (i - rs.length) * e := by
   rw [h1.1, ← Nat.add_mul]; congr 1; omega
  rw [Array.append_assoc, Array.getElem?_append_right (by omega), Array.getElem?_append_left (by omega), ← hx]
  congr 1; omega

theorem wE {E : Env} {b v s l : Nat} {x : Value} (h : aW E (.ms b v s l) x) : (l = 0 ∧ x = .slice none 0 0) ∨
  ∃ g e c a cap, x = .slice a l cap ∧ E.aI b v = some (g, e, c) ∧ (0 < l → a = some ⟨g, s * e, none⟩) ∧ (s = 0 → a = some ⟨g, 0, none⟩ ∧ cap = c) ∧ (l ≤ cap ∧ s + cap = c ∧ (0 < cap → a = some ⟨g, s * e, none⟩)) := by
 cases h with
 | cZ => exact .inl ⟨rfl, rfl⟩
 | ms _ _ _ _ _ g e c a cap hb hl h0 hc => exact .inr ⟨g, e, c, a, cap, rfl, hb, hl, h0, hc⟩

theorem qK {E : Env} {e : Nat} {xs : List V} {A : Array Value} (iG : 0 < e) (h : qI E e xs A) : ∀ v ∈ A.toList, v.oneCell' = true := by
 intro v hv
 obtain ⟨q, hq, rfl⟩ := List.mem_iff_getElem.1 hv
 have JJ : q < xs.length * e := by rw [← h.1]; simpa using hq
 have Y6 : q / e < xs.length := by rwa [Nat.div_lt_iff_lt_mul iG]
 have b8 := List.getElem?_eq_getElem Y6
 obtain ⟨Vu, lC⟩ := h.2 _ _ b8
 obtain ⟨vv, QZ, AK, -⟩ := lC (q % e) _ (List.getElem?_eq_getElem (by rw [Vu]; exact Nat.mod_lt _ iG))
 dsimp only at QZ
 rw [Nat.mul_comm, Nat.div_add_mod] at QZ
 have : A.toList[q] = vv := by
  have N4 : q < A.size := by simpa using hq
  rw [Array.getElem?_eq_getElem N4] at QZ
  simpa using QZ
 rw [this]; exact AK

theorem uF {P : Program} {tt : Table} (ht : TT P tt) {E : Env} {w : World} {a : Act} {st : St} (hs : bc E w a st) {ts : Array TypeId} {ty : TypeId} {s x : V} {y z : Value} {size : Nat} {nt : Option (Nat × Nat)} {rows : List V} {key : Nat}
  (hk : dM st.mem key) (C0 : aW E s y) (Gn : aW E x z) (h : dv tt st.mem ts.toList s x = some (size, nt, rows)) :
  ∃ v w' E', (Builtin.append_ ts ty #[y, z]).run P w = .ok v w' ∧ bc E' w' a { st with mem := (cu st.mem key size rows nt).1 } ∧ dt E w E' w' ∧ aW E' (cu st.mem key size rows nt).2 v := by
 unfold dv at h
 split at h
 ·rename_i t u Vv
  obtain rfl : ts = #[t, u] := by rw [← Array.toArray_toList (xs := ts), Vv]
  split at h
  ·rename_i it hT
   split at h
   ·rename_i e he
    split at h
    ·rename_i e' Q0
     split at h
     ·rename_i i hE
      split at h
      ·rename_i hc
       obtain ⟨iG, sx, Et⟩ := hc
       split at h
       ·rename_i Y7 rs ib
        split at h
        ·rename_i xs mq
         split at h
         ·rename_i hlen
          split at h
          case isFalse => cases h
          rename_i Vw
          simp only [Option.some.injEq,Prod.mk.injEq] at h
          obtain ⟨rfl, rfl, rfl⟩ := h
          obtain ⟨d, hd, -, ki, -⟩ := ht.desc t it hT
          obtain rfl := ki e he
          have C1 : ∃ e1, P.underlying u = some (.slice e1) := by
           unfold dG at Q0
           split at Q0
           ·rename_i iu hU
            obtain ⟨d, hd, -, ki, -⟩ := ht.desc u iu hU
            exact ⟨e', by rw [hd, ki e' Q0]⟩
           ·simp at Q0
          obtain ⟨e1, C1⟩ := C1
          obtain ⟨info, nr, MK, RO, z0, N5, Gr⟩ := ht.size e i hE
          have J3 : z0.cells.size = info.size := by rw [MK, ← Et, ← Gr]; simp
          rw [← MK] at mq ib iG ⊢
          rw [← RO] at sx
          have AL : bc E w.drew a st := hs.drew
          obtain ⟨xa, xc, rfl, Y8, xA, uE, xQ⟩ := dN (P := P) hs Gn mq
          obtain ⟨Y9, Za, heq, -, xB, J4, Gw⟩ := dN (P := P) AL Gn mq
          simp only [Value.slice.injEq] at heq
          obtain ⟨rfl, -, rfl⟩ := heq
          have Eu : ∀ dV, dV < rs.length + xs.length → Builtin.nextslicecap (rs.length + xs.length) dV * info.bytes ≤ 281474976710656 := fun dV aD =>
           growslice_fits aD (Nat.le_trans (Nat.mul_le_mul hlen sx) (by decide))
          have qH : (rs ++ xs).length = rs.length + xs.length := by simp
          have c5 : ∀ dV, rs.length + xs.length ≤ grownCap w (rs.length + xs.length) dV e := fun dV => grownCap_ge w (rs.length + xs.length) dV e
          have lD : ∀ (dV : Nat) (A : Array Value), qI E.pure info.size rs A → (A ++ xB ++ Builtin.zeroCells z0.cells (grownCap w (rs.length + xs.length) dV e - (rs.length + xs.length))).size = grownCap w (rs.length + xs.length) dV e * info.size := fun dV A Zb => by
           simp only [Array.size_append,size_zeroCells,J3,Zb.1,Gw.1,← Nat.add_mul]
           congr 1; have := c5 dV; omega
          unfold lB at ib
          split at ib
          ·-- nil
           simp only [Option.some.injEq,Prod.mk.injEq] at ib
           obtain ⟨rfl, rfl⟩ := ib
           obtain rfl := bR C0
           by_cases h0 : xs.length = 0
           ·have RQ : xs = [] := List.length_eq_zero_iff.1 h0
            subst RQ
            exact ⟨_, w, E, ei (ty := ty) hd C1 nr xc xa xA uE, hs.J0 hk info.size, dt.refl E w, .cZ _ _ _ _⟩
           ·have cJ := fG (ty := ty) hd C1 nr N5 none 0 0 xs.length xc xa #[] xB rfl J4 (by omega) (by omega) (Eu 0 (by simp; omega))
            obtain ⟨E', h5, h6, h7⟩ := bc.oy AL (key := key) hk (xs := #[] ++ xB ++ Builtin.zeroCells z0.cells (grownCap w (([] : List V).length + xs.length) 0 e - (([] : List V).length + xs.length))) (rs := [] ++ xs) (e := info.size)
             (c := grownCap w (([] : List V).length + xs.length) 0 e) e (lD 0 #[] ⟨by simp, fun i row hi => by simp at hi⟩) (by rw [qH]; exact c5 0) (gD ⟨by simp, fun i row hi => by simp at hi⟩ Gw)
            refine ⟨_, _, E', cJ, h5, (dt.drew E w).trans h6, ?_⟩
            simp only [cu]
            rw [qH] at h7 ⊢
            exact h7
          ·-- rows C2 room
           rename_i iF
           split at ib
           case isFalse => cases ib
           rename_i pL
           simp only [Option.some.injEq,Prod.mk.injEq] at ib
           obtain ⟨rfl, rfl⟩ := ib
           have nH : 0 < xs.length := by
            cases xs with
            | nil => simp [yj] at Vw
            | cons _ _ => simp
           cases C0 with
           | full _ _ sa C0 =>
           have N0 : rowsOf st.mem info.size (.slice iF) = some iF := by simp only [rowsOf]; rw [if_pos pL]
           obtain ⟨X3, sc, heq, jI, A, J5, C3⟩ := dN (P := P) AL C0 N0
           simp only [Value.slice.injEq] at heq
           obtain ⟨rfl, -, rfl⟩ := heq
           have cJ := fG (ty := ty) hd C1 nr N5 sa iF.length iF.length xs.length xc xa A xB J5 J4 (by omega) (by omega) (Eu _ (by omega))
           obtain ⟨E', h5, h6, h7⟩ := bc.oy AL (key := key) hk (xs := A ++ xB ++ Builtin.zeroCells z0.cells (grownCap w (iF.length + xs.length) iF.length e - (iF.length + xs.length))) (rs := iF ++ xs) (e := info.size)
            (c := grownCap w (iF.length + xs.length) iF.length e) e (lD iF.length A C3) (by rw [qH]; exact c5 _) (gD C3 Gw)
           refine ⟨_, _, E', cJ, h5, (dt.drew E w).trans h6, ?_⟩
           simp only [cu]
           rw [qH] at h7 ⊢
           exact h7
          ·rename_i b v l
           split at ib
           ·rename_i v' eb rs' hm
            split at ib
            ·rename_i ML
             obtain ⟨rfl, rfl, Q1⟩ := ML
             simp only [Option.some.injEq,Prod.mk.injEq] at ib
             obtain ⟨rfl, rfl⟩ := ib
             have N0 : rowsOf st.mem info.size (.ms b v' 0 l) = some rs' := by
              simp [rowsOf, hm, Q1]
              rw [← Q1]; simp
             obtain ⟨sa, sc, rfl, jI, A, J5, C3⟩ := dN (P := P) AL C0 N0
             simp only [cu]
             by_cases oE : rs'.length + xs.length ≤ sc
             ·-- there is room
              rcases wE C0 with ⟨MH, lE⟩ | ⟨g, UB, c, X3, Zc, lE, hb, hl, Gj, CX⟩
              ·simp only [Value.slice.injEq] at lE
               obtain ⟨rfl, Vx, rfl⟩ := lE
               have nH : xs = [] := List.length_eq_zero_iff.1 (by omega)
               have N6 : rs' = [] := List.length_eq_zero_iff.1 (by omega)
               subst nH; subst N6
               exact ⟨_, w, E, ei (ty := ty) hd C1 nr xc xa xA uE, hs.yl hm, dt.refl E w, .cZ _ _ _ _⟩
              ·simp only [Value.slice.injEq] at lE
               obtain ⟨rfl, -, rfl⟩ := lE
               obtain ⟨rfl, Zd⟩ := Gj rfl
               have Vy := Zd.symm
               subst Vy
               rcases hs.mem b _ hm with ⟨-, hn⟩ | ⟨g', T', cur, c', ey, hh, rA, ko, uq, hf⟩
               ·rw [hb] at hn; cases hn
               rw [hb] at ey; cases ey
               have sy : rs'.length * info.size + xA.toList.length ≤ cur.size := by
                have := xQ.1
                simp only [Array.length_toList]
                rw [this, rA, ← Nat.add_mul]; exact Nat.mul_le_mul_right _ oE
               obtain ⟨w', iq, JH, wF⟩ := fe (P := P) (g := g) (T := T') (rs'.length * info.size) xA.toList 0 w cur hh (by simpa using sy) (qK iG xQ)
               have cJ := sv (ty := ty) hd C1 nr g rs'.length c xs.length xc xa xA uE oE iq
               have hle : E.le (E.with b (v' + 1) (g, info.size, c)) := Env.gC (hs.aC b _ hm _ (Nat.lt_succ_self v')) _
               have b9 : (E.with b (v' + 1) (g, info.size, c)).aI b (v' + 1) = some (g, info.size, c) := if_pos ⟨rfl, rfl⟩
               refine ⟨_, w', E.with b (v' + 1) (g, info.size, c), cJ, hs.renew hm (fun ad y hy => ?_) (by rw [wF.size]; exact Nat.le_refl _) (by rw [wF.size]; exact hs.lt _ _ _ _ _ hb) (fun k B' dC eS MM g' e' c' eX => ?_) ?_ (fun k v2 e2 c2 h => hs.apart _ _ _ _ _ _ _ _ _ h hb),
                ⟨hle, fun k q g' e' c' dC => ?_, fun ad y hy => .inl hy, wF.os, wF.tape, wF.output, by rw [wF.size]; exact Nat.le_refl _, fun b' ey bH => wF.heap b' fun e => by subst e; exact bH _ _ _ _ hb⟩, ?_⟩
               ·have bH := hs.wz hf hy
                rw [← hs.F ad y hy]; simp [World.cell?, wF.heap _ bH]
               ·have RR : g' ≠ g := fun e => by
                 subst e
                 exact dC (hs.apart _ _ _ _ _ _ _ _ _ eX hb)
                exact ⟨wF.heap _ RR, RR⟩
               ·refine .inr ⟨g, T', _, c, b9, JH, by rw [fE]; exact rA, by rw [qH]; exact oE, ?_, hf⟩
                intro q row hq
                simp only [Nat.add_zero]
                have ym : xA.toList.length = xs.length * info.size := by simpa using xQ.1
                rw [List.getElem?_append] at hq
                split at hq
                ·rename_i aD
                 obtain ⟨h3, h4⟩ := uq q row hq
                 refine ⟨h3, fun j cc hj => ?_⟩
                 obtain ⟨v, hv, AK, Ev⟩ := h4 j cc hj
                 have qD : j < info.size := by rw [← h3]; exact (List.getElem?_eq_some_iff.1 hj).1
                 refine ⟨v, ?_, AK, Ev⟩
                 rw [eB _ _ _ _ sy, if_neg (by have := su aD qD; omega)]
                 exact hv
                ·rename_i Vz
                 obtain ⟨h3, h4⟩ := xQ.2 _ row hq
                 refine ⟨h3, fun j cc hj => ?_⟩
                 obtain ⟨v, hv, AK, Ev⟩ := h4 j cc hj
                 have qD : j < info.size := by rw [← h3]; exact (List.getElem?_eq_some_iff.1 hj).1
                 have RS : q - rs'.length < xs.length := (List.getElem?_eq_some_iff.1 hq).1
                 have hmul : q * info.size = rs'.length * info.size + (q - rs'.length) * info.size := by rw [← Nat.add_mul]; congr 1; omega
                 refine ⟨v, ?_, AK, Ev⟩
                 rw [eB _ _ _ _ sy, if_pos (by have := su RS qD; omega)]
                 dsimp only at hv
                 rw [← hv, Array.getElem?_toList]
                 congr 1; omega
               ·by_cases hq : k = b ∧ q = v' + 1
                ·obtain ⟨rfl, rfl⟩ := hq; rw [b9] at dC; cases dC; exact .inl ⟨_, _, _, _, hb⟩
                ·have : (E.with b (v' + 1) (g, info.size, c)).aI k q = E.aI k q := if_neg hq
                 rw [this] at dC; exact .inl ⟨_, _, _, _, dC⟩
               ·rw [qH]
                exact .ms _ _ _ _ _ g info.size c _ _ b9 (fun _ => by simp) (fun _ => ⟨rfl, rfl⟩) ⟨oE, Nat.zero_add _, fun _ => by simp⟩
             ·-- a new block
              have aD : sc < rs'.length + xs.length := by omega
              have cJ := fG (ty := ty) hd C1 nr N5 sa rs'.length sc xs.length xc xa A xB J5 J4 aD (by omega) (Eu sc aD)
              have hle : E.le (E.with b (v' + 1) (w.heap.size, info.size, grownCap w (rs'.length + xs.length) sc e)) := Env.gC (hs.aC b _ hm _ (Nat.lt_succ_self v')) _
              have b9 : (E.with b (v' + 1) (w.heap.size, info.size, grownCap w (rs'.length + xs.length) sc e)).aI b (v' + 1) = some (w.heap.size, info.size, grownCap w (rs'.length + xs.length) sc e) := if_pos ⟨rfl, rfl⟩
              refine ⟨_, _, E.with b (v' + 1) (w.heap.size, info.size, grownCap w (rs'.length + xs.length) sc e), cJ, hs.renew hm (fun ad y hy => ?_) (by simp) (by simp) (fun k B' dC eS MM g' e' c' eX => ?_) ?_ (fun k v2 e2 c2 h => absurd (hs.lt _ _ _ _ _ h) (Nat.lt_irrefl _)),
               ⟨hle, fun k q g' e' c' dC => ?_, fun ad y hy => .inl hy, rfl, rfl, rfl, by simp, fun b' ey bH => Go.RowKit.Below.heap_alloc w.drew _ b' ey⟩, ?_⟩
              ·rw [World.cell?_alloc_lt w.drew _ ad (World.block_lt_of_cell? w ad (hs.F ad y hy))]; exact hs.F ad y hy
              ·have := hs.lt _ _ _ _ _ eX
               exact ⟨Go.RowKit.Below.heap_alloc w.drew _ g' this, by omega⟩
              ·refine .inr ⟨w.heap.size, e, _, _, b9, heap_alloc_new w.drew _, lD sc A C3, by rw [qH]; exact c5 sc, ?_, fun o => ?_⟩
               ·intro q row hq
                obtain ⟨h3, h4⟩ := gD (C := Builtin.zeroCells z0.cells (grownCap w (rs'.length + xs.length) sc e - (rs'.length + xs.length))) C3 Gw q row hq
                exact ⟨h3, fun j cc hj => let ⟨v, hv, AK, Ev⟩ := h4 j cc hj; ⟨v, hv, AK, Ev.mono (Env.fw hle)⟩⟩
               ·show E.F _ = none
                cases hx : E.F ⟨w.heap.size, o, none⟩ with
                | none => rfl
                | some x => have := World.block_lt_of_cell? w _ (hs.F _ _ hx); simp at this
              ·by_cases hq : k = b ∧ q = v' + 1
               ·obtain ⟨rfl, rfl⟩ := hq; rw [b9] at dC; cases dC; exact .inr (Nat.le_refl _)
               ·have : (E.with b (v' + 1) (w.heap.size, info.size, grownCap w (rs'.length + xs.length) sc e)).aI k q = E.aI k q := if_neg hq
                rw [this] at dC; exact .inl ⟨_, _, _, _, dC⟩
              ·rw [qH]
               exact .ms _ _ _ _ _ w.heap.size info.size _ _ _ b9 (fun _ => by simp) (fun _ => ⟨rfl, rfl⟩) ⟨c5 sc, Nat.zero_add _, fun _ => by simp⟩
            ·simp at ib
           ·simp at ib
          ·simp at ib
         ·simp at h
        ·simp at h
       ·simp at h
      ·simp at h
     ·simp at h
    ·simp at h
   ·simp at h
  ·simp at h
 ·simp at h
end Go.Eng
end

section
namespace Go.Eng
variable [aH]

theorem cx.set {E : Env} {aY : List (Value × Nat × V)} {es : List MapEntry} (h : cx E aY es) (i : Nat) {kb : Value × Nat × V} {e : MapEntry} (h1 : e.key = kb.1) (h2 : e.born = kb.2.1) (h3 : aW E kb.2.2 e.val) : cx E (aY.set i kb) (es.set i e) := by
  refine ⟨by simp [h.1], fun j k e' hk he => ?_⟩
  by_cases pO : i = j
  · subst pO
    rw [List.getElem?_set] at hk he
    simp only [if_true] at hk he
    split at hk
    · split at he
      · cases hk; cases he; exact ⟨h1, h2, h3⟩
      · cases he
    · cases hk
  · rw [List.getElem?_set_ne pO] at hk he; exact h.2 j k e' hk he
theorem cx.push {E : Env} {aY : List (Value × Nat × V)} {es : List MapEntry} (h : cx E aY es) {kb : Value × Nat × V} {e : MapEntry} (h1 : e.key = kb.1) (h2 : e.born = kb.2.1) (h3 : aW E kb.2.2 e.val) : cx E (aY ++ [kb]) (es ++ [e]) := by
  refine ⟨by simp [h.1], fun j k e' hk he => ?_⟩
  by_cases hj : j < aY.length
  · rw [List.getElem?_append_left hj] at hk; rw [List.getElem?_append_left (by have := h.1; omega)] at he; exact h.2 j k e' hk he
  · rw [List.getElem?_append_right (by omega)] at hk; rw [List.getElem?_append_right (by have := h.1; omega)] at he
    rw [h.1] at hk
    cases hd : j - es.length with
    | zero => rw [hd] at hk he; simp at hk he; subst hk; subst he; exact ⟨h1, h2, h3⟩
    | succ n => rw [hd] at hk; simp at hk
theorem cx.erase {E : Env} : ∀ {aY : List (Value × Nat × V)} {es : List MapEntry}, cx E aY es → ∀ (i : Nat), cx E (aY.eraseIdx i) (es.eraseIdx i)
  | [], es, h, i => by rw [h.of_nil]; exact ⟨rfl, fun j k e hk => by simp at hk⟩
  | k :: r, es, h, i => by
    obtain ⟨e, es', rfl, h1, h2, h3, h4⟩ := h.of_cons
    cases i with
    | zero => exact h4
    | succ i =>
      have h5 := cx.erase h4 i
      simp only [List.eraseIdx_cons_succ]
      refine ⟨by simp [h5.1], fun j k' e' hk he => ?_⟩
      cases j with
      | zero => simp at hk he; subst hk; subst he; exact ⟨h1, h2, h3⟩
      | succ j => exact h5.2 j k' e' (by simpa using hk) (by simpa using he)

def insertAt (P : Program) (kt : TypeId) (key : Value) (v : V) (aY : List (Value × Nat × V)) (clock : Nat) : Option (List (Value × Nat × V) × Nat) :=
  match kY P kt key aY with
  | some (some (i, _)) => match aY[i]? with
    | some e => if Instr.sameBits 10000 e.1 key = true then some (aY.set i (key, e.2.1, v), clock) else none
    | none => none
  | some none => some (aY ++ [(key, clock, v)], clock + 1)
  | none => none
def ch (P : Program) (mem : List aw) (T : TypeId) (m k v : V) : Option (List aw) :=
  match cU P T with
  | some (kt, _) => match bA k with
    | some key => if nk P kt key = true then
        match m with
        | .mp b => match mem[b]? with
          | some (.map aY clock) => match insertAt P kt key v aY clock with
            | some (kvs', clock') => some (mem.set b (.map kvs' clock'))
            | none => none
          | _ => none
        | _ => none
      else none
    | none => none
  | none => none
def C4 (P : Program) (kt et : TypeId) (key : Value) (aY : List (Value × Nat × V)) (clock : Nat) : Option (List (Value × Nat × V) × Nat × V) :=
  match kY P kt key aY with
  | some (some (i, v)) => match aY[i]? with
    | some e => if Instr.sameBits 10000 e.1 key = true then some (aY.set i (key, e.2.1, e.2.2), clock, .bN [v, .sc (.int .i64 e.2.1)]) else none
    | none => none
  | some none => match zeroV P et with
    | some z => some (aY ++ [(key, clock, z)], clock + 1, .bN [z, .sc (.int .i64 clock)])
    | none => none
  | none => none
def pP (P : Program) (mem : List aw) (T : TypeId) (m k : V) : Option (List aw × V) :=
  match cU P T with
  | some (kt, et) => match bA k with
    | some key => if nk P kt key = true then
        match m with
        | .mp b => match mem[b]? with
          | some (.map aY clock) => match C4 P kt et key aY clock with
            | some (kvs', clock', v) => some (mem.set b (.map kvs' clock'), v)
            | none => none
          | _ => none
        | _ => none
      else none
    | none => none
  | none => none
def pQ (mem : List aw) (m s v : V) : Option (List aw) :=
  match m, s with
  | .mp b, .sc (.int _ n) => match mem[b]? with
    | some (.map aY clock) => match aY.findIdx? (fun e => (e.2.1 : Int) == n) with
      | some i => match aY[i]? with
        | some e => some (mem.set b (.map (aY.set i (e.1, e.2.1, v)) clock))
        | none => none
      | none => none
    | _ => none
  | _, _ => none
def mu (P : Program) (mem : List aw) (ts : Array TypeId) : List V → Option (List aw)
  | [.mp b, k] => match ts[0]? with
    | some T => match cU P T with
      | some (kt, _) => match bA k with
        | some key => if nk P kt key = true then
            match mem[b]? with
            | some (.map aY clock) => match kY P kt key aY with
              | some (some (i, _)) => some (mem.set b (.map (aY.eraseIdx i) clock))
              | some none => some (mem.set b (.map aY clock))
              | none => none
            | _ => none
          else none
        | none => none
      | none => none
    | none => none
  | _ => none

theorem lF {w : World} {g : Nat} {o : Obj} : oz w { w with heap := w.heap.setIfInBounds g o } g :=
  ⟨rfl, rfl, rfl, by simp, fun b hb => Array.getElem?_setIfInBounds_ne (fun e => hb e.symm)⟩
theorem heap_set {w : World} {g : Nat} {o o' : Obj} (h : w.heap[g]? = some o) : ({ w with heap := w.heap.setIfInBounds g o' } : World).heap[g]? = some o' := by
  have : g < w.heap.size := by
    rcases Nat.lt_or_ge g w.heap.size with h1 | h1
    · exact h1
    · rw [Array.getElem?_eq_none h1] at h; cases h
  simp [this]
theorem bc.kx {E : Env} {w : World} {a : Act} {st : St} (hs : bc E w a st) {b g e c : Nat} {aY kvs' : List (Value × Nat × V)} {clock clock' : Nat} {es es' : Array MapEntry} (hm : st.mem[b]? = some (.map aY clock)) (hb : E.aI b 0 = some (g, e, c)) (hh : w.heap[g]? = some (.map es clock))
    (hf : ∀ o, E.F ⟨g, o, none⟩ = none) (hr : cx E kvs' es'.toList) :
    bc E { w with heap := w.heap.setIfInBounds g (.map es' clock') } a { st with mem := st.mem.set b (.map kvs' clock') } ∧ dt E w E { w with heap := w.heap.setIfInBounds g (.map es' clock') } := by
  obtain ⟨-, -, -, -, h0⟩ := gA hs hm hb
  cases h0
  exact hs.yh hm rfl (B' := .map kvs' clock') rfl hb hf lF ⟨g, es', hb, heap_set hh, hr, hf⟩

theorem nJ {es : Array MapEntry} {i : Nat} {e : MapEntry} (h : es[i]? = some e) (f : MapEntry → MapEntry) : (es.modify i f).toList = es.toList.set i (f e) := by
  apply List.ext_getElem?
  intro j
  rw [Array.getElem?_toList, Array.getElem?_modify, List.getElem?_set]
  by_cases pO : i = j
  · subst pO
    have : i < es.size := (Array.getElem?_eq_some_iff.1 h).1
    have he : es[i] = e := (Array.getElem?_eq_some_iff.1 h).2
    simp [this, he]
  · simp [pO]
theorem u7 {P : Program} {w : World} {nt new : Value} (h : Instr.sameBits 10000 nt new = true) : (Instr.keyThatStays nt new).run P w = .ok new w := by simp [Instr.keyThatStays, h]

theorem nu {P : Program} {E : Env} {w : World} {a : Act} {st : St} (hs : bc E w a st) {T : TypeId} {m k v : V} {x y z : Value} {aE : List aw} (hm : aW E m x) (hk : aW E k y) (hv : aW E v z) (h : ch P st.mem T m k v = some aE) :
    ∃ w', (Instr.mapUpdate T x y z).run P w = .ok () w' ∧ bc E w' a { st with mem := aE } ∧ dt E w E w' := by
  unfold ch at h
  split at h
  · rename_i kt et hd
    have hd := fc hd
    split at h
    · rename_i key b9
      cases eN hk b9
      split at h
      · rename_i bK
        have AX := fun b => jl bK b w
        split at h
        · rename_i b
          obtain ⟨g, e, c, rfl, hb⟩ := nF hm
          split at h
          · rename_i aY clock hB
            obtain ⟨es, hh, hr, hf, -⟩ := gA hs hB hb
            split at h
            · rename_i kvs' clock' hi
              cases h
              unfold insertAt at hi
              split at hi
              · rename_i i u Gx
                obtain ⟨r', h1, h2⟩ := df hr w Gx
                match r', h2 with
                | some (j', z'), h2 =>
                  obtain ⟨rfl, h3, kb, en, h4, h5, h6, h7⟩ := h2
                  have N7 : es[i]? = some en := by simpa using h5
                  split at hi
                  · rename_i Ze dC
                    rw [dC] at h4; cases h4
                    split at hi
                    · rename_i Gy
                      cases hi
                      obtain ⟨p1, p2, p3⟩ := hr.2 i _ _ dC h5
                      have cJ : (Instr.mapUpdate T (.map (some g)) y z).run P w = .ok () { w with heap := w.heap.setIfInBounds g (.map (es.modify i fun e => { e with key := y, val := z }) clock) } := by
                        have := dL (P := P) (o' := .map (es.modify i fun e => { e with key := y, val := z }) clock) hh (by simp)
                        simp [Instr.mapUpdate, aq hd, cb hh, AX, h1, N7, p1, u7 Gy, this]
                      obtain ⟨q1, q2⟩ := hs.kx hB hb hh hf (clock' := clock) (kvs' := aY.set i (y, kb.2.1, v)) (es' := es.modify i fun e => { e with key := y, val := z }) (by rw [nJ N7]; exact hr.set i rfl p2 hv)
                      exact ⟨_, cJ, q1, q2⟩
                    · cases hi
                  · cases hi
              · rename_i Gx
                obtain ⟨r', h1, h2⟩ := df hr w Gx
                match r', h2 with
                | none, h2 =>
                  cases hi
                  have cJ : (Instr.mapUpdate T (.map (some g)) y z).run P w = .ok () { w with heap := w.heap.setIfInBounds g (.map (es.push { key := y, val := z, born := clock }) (clock + 1)) } := by
                    have := dL (P := P) (o' := .map (es.push { key := y, val := z, born := clock }) (clock + 1)) hh (by simp)
                    simp [Instr.mapUpdate, aq hd, cb hh, AX, h1, this]
                  obtain ⟨q1, q2⟩ := hs.kx hB hb hh hf (clock' := clock + 1) (kvs' := aY ++ [(y, clock, v)]) (es' := es.push { key := y, val := z, born := clock }) (by rw [Array.toList_push]; exact hr.push rfl rfl hv)
                  exact ⟨_, cJ, q1, q2⟩
              · cases hi
            · cases h
          · cases h
        · cases h
      · cases h
    · cases h
  · cases h

theorem yn {E : Env} {v : V} {x : Value} (h : aW E v x) (n : Nat) : aW E (.bN [v, .sc (.int .i64 n)]) (.tuple #[x, goInt n]) := by
  refine .bN _ _ _ rfl fun i c y hc hy => ?_
  match i with
  | 0 => simp at hc hy; subst hc; subst hy; exact h
  | 1 => simp at hc hy; subst hc; subst hy; exact .sc _ _
  | i + 2 => simp at hc
theorem wG {P : Program} {E : Env} {w : World} {a : Act} {st : St} (hs : bc E w a st) {T : TypeId} {m k v : V} {x y : Value} {aE : List aw} (hm : aW E m x) (hk : aW E k y) (h : pP P st.mem T m k = some (aE, v)) :
    ∃ z w', (Instr.mapEntry T x y).run P w = .ok z w' ∧ bc E w' a { st with mem := aE } ∧ dt E w E w' ∧ aW E v z := by
  unfold pP at h
  split at h
  · rename_i kt et hd
    have hd := fc hd
    split at h
    · rename_i key b9
      cases eN hk b9
      split at h
      · rename_i bK
        have AX := fun b => jl bK b w
        split at h
        · rename_i b
          obtain ⟨g, e, c, rfl, hb⟩ := nF hm
          split at h
          · rename_i aY clock hB
            obtain ⟨es, hh, hr, hf, -⟩ := gA hs hB hb
            split at h
            · rename_i kvs' clock' v' hi
              cases h
              unfold C4 at hi
              split at hi
              · rename_i i u Gx
                obtain ⟨r', h1, h2⟩ := df hr w Gx
                match r', h2 with
                | some (j', z'), h2 =>
                  obtain ⟨rfl, h3, kb, en, h4, h5, h6, h7⟩ := h2
                  have N7 : es[i]? = some en := by simpa using h5
                  split at hi
                  · rename_i Ze dC
                    rw [dC] at h4; cases h4
                    split at hi
                    · rename_i Gy
                      cases hi
                      obtain ⟨p1, p2, p3⟩ := hr.2 i _ _ dC h5
                      have cJ : (Instr.mapEntry T (.map (some g)) y).run P w = .ok (.tuple #[z', goInt en.born]) { w with heap := w.heap.setIfInBounds g (.map (es.modify i fun e => { e with key := y }) clock) } := by
                        have := dL (P := P) (o' := .map (es.modify i fun e => { e with key := y }) clock) hh (by simp)
                        simp [Instr.mapEntry, aq hd, cb hh, AX, h1, N7, p1, u7 Gy, this]
                      obtain ⟨q1, q2⟩ := hs.kx hB hb hh hf (clock' := clock) (kvs' := aY.set i (y, kb.2.1, kb.2.2)) (es' := es.modify i fun e => { e with key := y }) (by rw [nJ N7]; exact hr.set i rfl p2 p3)
                      exact ⟨_, _, cJ, q1, q2, by rw [p2]; exact yn h3 _⟩
                    · cases hi
                  · cases hi
              · rename_i Gx
                obtain ⟨r', h1, h2⟩ := df hr w Gx
                match r', h2 with
                | none, h2 =>
                  split at hi
                  · rename_i z0 N5
                    cases hi
                    obtain ⟨zz, h3, h4⟩ := lx N5 E w
                    have cJ : (Instr.mapEntry T (.map (some g)) y).run P w = .ok (.tuple #[zz, goInt clock]) { w with heap := w.heap.setIfInBounds g (.map (es.push { key := y, val := zz, born := clock }) (clock + 1)) } := by
                      have := dL (P := P) (o' := .map (es.push { key := y, val := zz, born := clock }) (clock + 1)) hh (by simp)
                      simp [Instr.mapEntry, aq hd, cb hh, AX, h1, h3, this]
                    obtain ⟨q1, q2⟩ := hs.kx hB hb hh hf (clock' := clock + 1) (kvs' := aY ++ [(y, clock, z0)]) (es' := es.push { key := y, val := zz, born := clock }) (by rw [Array.toList_push]; exact hr.push rfl rfl h4)
                    exact ⟨_, _, cJ, q1, q2, yn h4 _⟩
                  · cases hi
              · cases hi
            · cases h
          · cases h
        · cases h
      · cases h
    · cases h
  · cases h

theorem qL {E : Env} (n : Int) : ∀ {aY : List (Value × Nat × V)} {es : List MapEntry}, cx E aY es → aY.findIdx? (fun e => (e.2.1 : Int) == n) = es.findIdx? (fun e => (e.born : Int) == n)
  | [], es, h => by rw [h.of_nil]; rfl
  | k :: r, es, h => by
    obtain ⟨e, es', rfl, h1, h2, h3, h4⟩ := h.of_cons
    rw [List.findIdx?_cons, List.findIdx?_cons, h2, qL n h4]
theorem wH {P : Program} {E : Env} {w : World} {a : Act} {st : St} (hs : bc E w a st) {T : TypeId} {m s v : V} {x y z : Value} {aE : List aw} (hm : aW E m x) (hk : aW E s y) (hv : aW E v z) (h : pQ st.mem m s v = some aE) :
    ∃ w', (Instr.entryStore T x y z).run P w = .ok () w' ∧ bc E w' a { st with mem := aE } ∧ dt E w E w' := by
  unfold pQ at h
  split at h
  · rename_i b k n
    obtain ⟨g, e, c, rfl, hb⟩ := nF hm
    obtain rfl := mm hk
    split at h
    · rename_i aY clock hB
      obtain ⟨es, hh, hr, hf, -⟩ := gA hs hB hb
      split at h
      · rename_i i hi
        split at h
        · rename_i kb dC
          cases h
          obtain ⟨en, h5, p1, p2, p3⟩ := hr.get dC
          have N7 : es[i]? = some en := by simpa using h5
          have N8 : es.findIdx? (fun e => (e.born : Int) == n) = some i := by
            rw [qL n hr, ← List.findIdx?_toArray, Array.toArray_toList] at hi; exact hi
          have cJ : (Instr.entryStore T (.map (some g)) (.int k n) z).run P w = .ok () { w with heap := w.heap.setIfInBounds g (.map (es.modify i fun e => { e with val := z }) clock) } := by
            have := dL (P := P) (o' := .map (es.modify i fun e => { e with val := z }) clock) hh (by simp)
            simp [Instr.entryStore, cb hh, asInt, asIntOf, N8, this]
          obtain ⟨q1, q2⟩ := hs.kx hB hb hh hf (clock' := clock) (kvs' := aY.set i (kb.1, kb.2.1, v)) (es' := es.modify i fun e => { e with val := z }) (by rw [nJ N7]; exact hr.set i p1 p2 hv)
          exact ⟨_, cJ, q1, q2⟩
        · cases h
      · cases h
    · cases h
  · cases h

theorem uG {P : Program} {E : Env} {w : World} {a : Act} {st : St} (hs : bc E w a st) {ts : Array TypeId} {ty : TypeId} {xs : List V} {ys : Array Value} {aE : List aw} (hx : aP E xs ys.toList) (h : mu P st.mem ts xs = some aE) :
    ∃ w', (Builtin.delete_ ts ty ys).run P w = .ok (.tuple #[]) w' ∧ bc E w' a { st with mem := aE } ∧ dt E w E w' := by
  unfold mu at h
  split at h
  · rename_i b k
    obtain ⟨x, r, hy, A1, hx⟩ := hx.of_cons
    obtain ⟨y, r2, hz, Ew, hx⟩ := hx.of_cons
    have := hx.of_nil
    subst this; subst hz
    obtain rfl : ys = #[x, y] := by rw [← Array.toArray_toList (xs := ys), hy]
    obtain ⟨g, e, c, rfl, hb⟩ := nF A1
    split at h
    · rename_i T h0
      split at h
      · rename_i kt et hd
        have hd := fc hd
        split at h
        · rename_i key b9
          cases eN Ew b9
          split at h
          · rename_i bK
            have AX := fun b => jl bK b w
            split at h
            · rename_i aY clock hB
              obtain ⟨es, hh, hr, hf, -⟩ := gA hs hB hb
              split at h
              · rename_i i u Gx
                cases h
                obtain ⟨r', h1, h2⟩ := df hr w Gx
                match r', h2 with
                | some (j', z'), h2 =>
                  obtain ⟨rfl, h3, kb, en, h4, h5, h6, h7⟩ := h2
                  have cJ : (Builtin.delete_ ts ty #[.map (some g), y]).run P w = .ok (.tuple #[]) { w with heap := w.heap.setIfInBounds g (.map (es.eraseIdxIfInBounds i) clock) } := by
                    have := dL (P := P) (o' := .map (es.eraseIdxIfInBounds i) clock) hh (by simp)
                    simp [Builtin.delete_, h0, aq hd, cb hh, AX, h1, this]
                  obtain ⟨q1, q2⟩ := hs.kx hB hb hh hf (clock' := clock) (kvs' := aY.eraseIdx i) (es' := es.eraseIdxIfInBounds i) (by rw [Array.toList_eraseIdxIfInBounds]; exact hr.erase i)
                  exact ⟨_, cJ, q1, q2⟩
              · rename_i Gx
                cases h
                obtain ⟨r', h1, h2⟩ := df hr w Gx
                match r', h2 with
                | none, h2 =>
                  have cJ : (Builtin.delete_ ts ty #[.map (some g), y]).run P w = .ok (.tuple #[]) { w with heap := w.heap.setIfInBounds g (.map es clock) } := by
                    have := dL (P := P) (o' := .map es clock) hh (by simp)
                    simp [Builtin.delete_, h0, aq hd, cb hh, AX, h1, this]
                  obtain ⟨q1, q2⟩ := hs.kx hB hb hh hf (clock' := clock) (kvs' := aY) (es' := es) hr
                  exact ⟨_, cJ, q1, q2⟩
              · cases h
            · cases h
          · cases h
        · cases h
      · cases h
    · cases h
  · cases h

/-! ### ranging -/

def leftOf (aY : List (Value × Nat × V)) (seen : List Nat) : List (Value × Nat × V) := aY.filter fun e => !seen.contains e.2.1
def oF (aY : List (Value × Nat × V)) (seen : List Nat) (since : Nat) : List (Value × Nat × V) := (leftOf aY seen).filter fun e => e.2.1 < since
def yp (aY : List (Value × Nat × V)) (seen : List Nat) (since : Nat) : List (Value × Nat × V) := (leftOf aY seen).filter fun e => e.2.1 ≥ since
def oG (aY : List (Value × Nat × V)) (seen : List Nat) (last : Nat) : Bool := !seen.isEmpty && !aY.isEmpty && aY.all fun e => e.2.1 ≥ last
def qM : V := .bN [.sc (.bool false)]
def C5 (e : Value × Nat × V) : V := .bN [.sc (.bool true), dx e.1, e.2.2]
def MN (s : ByteArray) (pos : Nat) : V := .bN [.sc (.bool true), .sc (.int .i64 pos), .sc (.int .i32 (Utf8.decode s pos).1)]
def nw (st : St) (dst : Option Tmp) (it : V) (str : Bool) (Q : St → Prop) : Prop :=
  match it with
  | .ptr b 0 => match st.mem[b]? with
    | some (.dF m since seen last) => match st.mem[m]? with
      | some (.map aY clock) => str = false ∧ oG aY seen last = false ∧ (oF aY seen since = [] → Q (st.put dst qM)) ∧
          ∀ e ∈ oF aY seen since ++ yp aY seen since, Q ({ st with mem := st.mem.set b (.dF m since (seen ++ [e.2.1]) clock) }.put dst (C5 e))
      | _ => False
    | some (.ia s pos) => str = true ∧ if pos < s.size then Q ({ st with mem := st.mem.set b (.ia s (pos + (Utf8.decode s pos).2)) }.put dst (MN s pos)) else Q (st.put dst qM)
    | some .iA => str = false ∧ Q (st.put dst qM)
    | _ => False
  | _ => False

theorem cx.filter {E : Env} (p : Nat → Bool) : ∀ {aY : List (Value × Nat × V)} {es : List MapEntry}, cx E aY es → cx E (aY.filter fun e => p e.2.1) (es.filter fun e => p e.born)
  | [], es, h => by rw [h.of_nil]; exact ⟨rfl, fun j k e hk => by simp at hk⟩
  | k :: r, es, h => by
    obtain ⟨e, es', rfl, h1, h2, h3, h4⟩ := h.of_cons
    have h5 := cx.filter p h4
    simp only [List.filter_cons,h2]
    split
    · refine ⟨by simp [h5.1], fun j k' e' hk he => ?_⟩
      cases j with
      | zero => simp at hk he; subst hk; subst he; exact ⟨h1, h2, h3⟩
      | succ j => exact h5.2 j k' e' (by simpa using hk) (by simpa using he)
    · exact h5
theorem cx.all {E : Env} (p : Nat → Bool) : ∀ {aY : List (Value × Nat × V)} {es : List MapEntry}, cx E aY es → (aY.all fun e => p e.2.1) = es.all fun e => p e.born
  | [], es, h => by rw [h.of_nil]; rfl
  | k :: r, es, h => by
    obtain ⟨e, es', rfl, h1, h2, h3, h4⟩ := h.of_cons
    simp only [List.all_cons,h2,cx.all p h4]
theorem cx.append {E : Env} {a b : List (Value × Nat × V)} {x y : List MapEntry} (h : cx E a x) (k : cx E b y) : cx E (a ++ b) (x ++ y) := by
  refine ⟨by simp [h.1, k.1], fun j kk e hk he => ?_⟩
  by_cases hj : j < a.length
  · rw [List.getElem?_append_left hj] at hk; rw [List.getElem?_append_left (by have := h.1; omega)] at he; exact h.2 j kk e hk he
  · rw [List.getElem?_append_right (by omega)] at hk; rw [List.getElem?_append_right (by have := h.1; omega)] at he
    rw [h.1] at hk
    exact k.2 _ kk e hk he
theorem Ey {E : Env} {k : Value × Nat × V} {e : MapEntry} (h1 : e.key = k.1) (h3 : aW E k.2.2 e.val) : aW E (C5 k) (.tuple #[.bool true, e.key, e.val]) := by
  refine .bN _ _ _ rfl fun i c y hc hy => ?_
  match i with
  | 0 => simp at hc hy; subst hc; subst hy; exact .sc _ _
  | 1 => simp at hc hy; subst hc; subst hy; rw [h1]; exact fy E _
  | 2 => simp at hc hy; subst hc; subst hy; exact h3
  | i + 3 => simp at hc

theorem sA {P : Program} {w : World} {n : Nat} (hn : 0 < n) : ∃ i w', (choose (.mapNext n)).run P w = .ok i w' ∧ i < n ∧ (w' = w ∨ w' = w.drew) := by
  unfold choose
  rw [Sem.run]
  split
  · exact ⟨0, w, rfl, hn, .inl rfl⟩
  · exact ⟨_, _, rfl, Nat.mod_lt _ hn, .inr rfl⟩
theorem bc.N9 {E : Env} {w w' : World} {a : Act} {st : St} (hs : bc E w a st) (h : w' = w ∨ w' = w.drew) : bc E w' a st ∧ dt E w E w' ∧ w'.heap = w.heap := by
  rcases h with rfl | rfl
  · exact ⟨hs, dt.refl _ _, rfl⟩
  · exact ⟨hs.drew, dt.drew _ _, rfl⟩
theorem yq {P : Program} {E : Env} {w : World} {a : Act} {st : St} (hs : bc E w a st) {dst : Option Tmp} {it : V} {x : Value} {str : Bool} {ty : TypeId} {Q : St → Prop} (hi : aW E it x) (h : nw st dst it str Q) :
    ∃ z w' st', (Instr.next x str ty).run P w = .ok z w' ∧ bc E w' (a.put dst z) st' ∧ dt E w E w' ∧ Q st' := by
  unfold nw at h
  split at h
  · rename_i b
    split at h
    · rename_i m since seen last hB
      split at h
      · rename_i aY clock hM
        obtain ⟨rfl, iq, RT, bh⟩ := h
        obtain ⟨g, gm, em, cm, hb, JF, hh, hf⟩ := hs.mem b _ hB
        obtain ⟨es, Vm, hr, Y1, h0⟩ := gA hs hM JF
        cases h0
        cases hi with
        | ptr _ _ _ g' e' c' ey =>
        rw [hb] at ey; cases ey
        have eW : (getObj g).run P w = .ok (.mapIter (some gm) since seen.toArray last) w := by simp [getObj, Sem.run, hh]
        have Oa : (!seen.toArray.isEmpty && !es.isEmpty && es.all (fun e => decide (e.born ≥ last))) = false := by
          rw [← iq]
          unfold oG
          have e1 : seen.toArray.isEmpty = seen.isEmpty := by simp
          have e2 : es.isEmpty = aY.isEmpty := by
            have h1 := hr.1
            rw [Bool.eq_iff_iff, Array.isEmpty_iff_size_eq_zero, List.isEmpty_iff, ← List.length_eq_zero_iff, h1, Array.length_toList]
          rw [e1, e2, ← Array.all_toList, ← cx.all (fun n => decide (n ≥ last)) hr]
        have u9 : (es.filter fun e => !seen.toArray.contains e.born).toList = es.toList.filter fun e => !seen.contains e.born := by
          rw [Array.toList_filter]; simp
        have hl := cx.filter (fun n => !seen.contains n) hr
        have ho := cx.filter (fun n => decide (n < since)) hl
        have hw := cx.filter (fun n => decide (n ≥ since)) hl
        have RU := ho.append hw
        obtain ⟨L, hL⟩ : ∃ L, L = es.filter fun e => !seen.toArray.contains e.born := ⟨_, rfl⟩
        have hO : (L.filter fun e => decide (e.born < since)).toList = (es.toList.filter fun e => !seen.contains e.born).filter fun e => decide (e.born < since) := by rw [Array.toList_filter, hL, u9]
        have hN : (L.filter fun e => decide (e.born ≥ since)).toList = (es.toList.filter fun e => !seen.contains e.born).filter fun e => decide (e.born ≥ since) := by rw [Array.toList_filter, hL, u9]
        rw [← hO] at ho
        rw [← hO, ← hN] at RU
        generalize Zf : L.filter (fun e => decide (e.born < since)) = O at ho RU
        generalize Zg : L.filter (fun e => decide (e.born ≥ since)) = N at RU
        have VB : O.isEmpty = (oF aY seen since).isEmpty := by
          have h1 := ho.1
          rw [Bool.eq_iff_iff, Array.isEmpty_iff_size_eq_zero, List.isEmpty_iff, ← List.length_eq_zero_iff, ← Array.length_toList, ← h1]; rfl
        have RV : 0 < ((if O.isEmpty then #[none] else #[]) ++ (O ++ N).map some : Array (Option MapEntry)).size := by
          by_cases Gz : O.isEmpty = true
          · rw [if_pos Gz]; simp; omega
          · rw [if_neg Gz]
            have : O.size ≠ 0 := fun h => Gz (Array.isEmpty_iff_size_eq_zero.2 h)
            simp; omega
        obtain ⟨i, w1, X4, ML, Q1⟩ := sA (P := P) (w := w) RV
        obtain ⟨s1, v1, jA⟩ := hs.N9 Q1
        have cJ : ∀ {R}, (match ((if O.isEmpty then #[none] else #[]) ++ (O ++ N).map some : Array (Option MapEntry))[i]? with
            | some (some e) => do setObj g (.mapIter (some gm) since (seen.toArray.push e.born) clock); pure (Value.tuple #[.bool true, e.key, e.val])
            | some none => (pure (Value.tuple #[.bool false]) : Sem Value)
            | none => stuck "Next: no such candidate").run P w1 = R → (Instr.next (.pointer (some ⟨g, 0, none⟩)) false ty).run P w = R := fun hR => by
          rw [← hR]
          simp only [Instr.next,Sem.run_bind,eW,Result.andThen_ok,cb Vm,Oa,Bool.false_eq_true,if_false,← hL,Zf,Zg,X4]
          rfl
        have hci := Array.getElem?_eq_getElem ML
        by_cases gJ : i < (if O.isEmpty then #[none] else #[] : Array (Option MapEntry)).size
        · have Gz : O.isEmpty = true := by
            by_cases Gz : O.isEmpty = true
            · exact Gz
            · rw [if_neg Gz] at gJ; simp at gJ
          rw [if_pos Gz] at gJ
          have wI : i = 0 := by simp at gJ; omega
          subst wI
          have hold : oF aY seen since = [] := by rw [VB] at Gz; exact List.isEmpty_iff.1 Gz
          refine ⟨_, w1, _, cJ (R := Result.ok (Value.tuple #[.bool false]) w1) ?_, s1.put dst (.bN _ _ _ rfl fun i c y hc hy => ?_), v1, RT hold⟩
          · rw [if_pos Gz, Array.getElem?_append_left (by simp)]; rfl
          · match i with
            | 0 => simp at hc hy; subst hc; subst hy; exact .sc _ _
            | i + 1 => simp at hc
        · obtain ⟨j, hj, VE⟩ : ∃ j, j < (O ++ N).size ∧ ((if O.isEmpty then #[none] else #[]) ++ (O ++ N).map some : Array (Option MapEntry))[i]? = some (some ((O ++ N)[j]!)) := by
            refine ⟨i - (if O.isEmpty then #[none] else #[] : Array (Option MapEntry)).size, ?_, ?_⟩
            · have := ML; simp only [Array.size_append,Array.size_map] at this ⊢; omega
            · rw [Array.getElem?_append_right (by omega), Array.getElem?_map]
              have aD : i - (if O.isEmpty then #[none] else #[] : Array (Option MapEntry)).size < (O ++ N).size := by have := ML; simp only [Array.size_append,Array.size_map] at this ⊢; omega
              rw [Array.getElem?_eq_getElem aD, getElem!_pos (O ++ N) _ aD]; rfl
          rw [getElem!_pos (O ++ N) _ hj] at VE
          obtain ⟨kb, dC⟩ : ∃ kb, (oF aY seen since ++ yp aY seen since)[j]? = some kb := ⟨_, List.getElem?_eq_getElem (by have h1 := RU.1; simp only [List.length_append,Array.length_toList] at h1; simp only [List.length_append]; simp only [Array.size_append] at hj; exact Nat.lt_of_lt_of_eq hj h1.symm)⟩
          obtain ⟨en, Zh, p1, p2, p3⟩ := RU.get dC
          have VG : (O ++ N)[j] = en := by
            have : (O ++ N).toList[j]? = some en := by rw [Array.toList_append]; exact Zh
            rw [Array.getElem?_toList, Array.getElem?_eq_getElem hj] at this
            simpa using this
          rw [VG] at VE
          have Q3 : w1.heap[g]? = some (.mapIter (some gm) since seen.toArray last) := by rw [jA]; exact hh
          have oj : iB E { w1 with heap := w1.heap.setIfInBounds g (.mapIter (some gm) since (seen.toArray.push en.born) clock) } b (.dF m since (seen ++ [kb.2.1]) clock) := by
            refine ⟨g, gm, 0, 0, hb, JF, ?_, hf⟩
            rw [heap_set Q3, p2]; simp
          obtain ⟨q1, q2⟩ := s1.yh hB rfl (B' := .dF m since (seen ++ [kb.2.1]) clock) rfl hb hf lF oj
          refine ⟨.tuple #[.bool true, en.key, en.val], _, _, cJ ?_, q1.put dst (Ey p1 p3), v1.trans q2, bh kb (List.mem_of_getElem? dC)⟩
          rw [VE]
          have := dL (P := P) (o' := .mapIter (some gm) since (seen.toArray.push en.born) clock) Q3 (by simp)
          dsimp only
          rw [Sem.run_bind, this]; rfl
      · exact h.elim
    · rename_i s pos hB
      obtain ⟨rfl, sB⟩ := h
      obtain ⟨g, hb, hh, hf⟩ := hs.mem b _ hB
      cases hi with
      | ptr _ _ _ g' e' c' ey =>
      rw [hb] at ey; cases ey
      have eW : (getObj g).run P w = .ok (.stringIter s pos) w := by simp [getObj, Sem.run, hh]
      split at sB
      · rename_i aD
        obtain ⟨q1, q2⟩ := hs.yh hB rfl (B' := .ia s (pos + (Utf8.decode s pos).2)) rfl hb hf (lF (o := .stringIter s (pos + (Utf8.decode s pos).2))) ⟨g, hb, heap_set hh, hf⟩
        refine ⟨.tuple #[.bool true, goInt pos, .int .i32 (Utf8.decode s pos).1], _, _, ?_, q1.put dst (.bN _ _ _ rfl fun i c y hc hy => ?_), q2, sB⟩
        · have := dL (P := P) (o' := .stringIter s (pos + (Utf8.decode s pos).2)) hh (by simp)
          simp [Instr.next, eW, aD, this]
        · match i with
          | 0 => simp at hc hy; subst hc; subst hy; exact .sc _ _
          | 1 => simp at hc hy; subst hc; subst hy; exact .sc _ _
          | 2 => simp at hc hy; subst hc; subst hy; exact .sc _ _
          | i + 3 => simp at hc
      · rename_i aD
        refine ⟨.tuple #[.bool false], w, _, by simp [Instr.next, eW, aD], hs.put dst (.bN _ _ _ rfl fun i c y hc hy => ?_), dt.refl _ _, sB⟩
        match i with
        | 0 => simp at hc hy; subst hc; subst hy; exact .sc _ _
        | i + 1 => simp at hc
    · rename_i hB
      obtain ⟨rfl, sB⟩ := h
      obtain ⟨g, hb, hh, hf⟩ := hs.mem b _ hB
      cases hi with
      | ptr _ _ _ g' e' c' ey =>
      rw [hb] at ey; cases ey
      have eW : (getObj g).run P w = .ok (.mapIter none 0 #[] 0) w := by simp [getObj, Sem.run, hh]
      refine ⟨.tuple #[.bool false], w, _, by simp [Instr.next, eW], hs.put dst (.bN _ _ _ rfl fun i c y hc hy => ?_), dt.refl _ _, sB⟩
      match i with
      | 0 => simp at hc hy; subst hc; subst hy; exact .sc _ _
      | i + 1 => simp at hc
    · exact h.elim
  · exact h.elim

def iH (P : Program) (mem : List aw) (T : TypeId) (x : V) : Option aw :=
  match x with
  | .mp b => match mem[b]? with
    | some (.map _ clock) => match cU P T with | some _ => some (.dF b clock [] clock) | none => none
    | _ => none
  | .sc (.map none) => match cU P T with | some _ => some .iA | none => none
  | .sc (.string s) => match P.underlying T with | some .string => some (.ia s 0) | _ => none
  | _ => none
theorem C6 {E : Env} {w : World} {a : Act} {st : St} (hs : bc E w a st) (o : Nat) : E.F ⟨w.heap.size, o, none⟩ = none := by
  cases hx : E.F ⟨w.heap.size, o, none⟩ with
  | none => rfl
  | some x => have := World.block_lt_of_cell? w _ (hs.F _ _ hx); simp at this
theorem bc.newObj {E : Env} {w : World} {a : Act} {st : St} (hs : bc E w a st) {key : Nat} (hk : dM st.mem key) {obj : Obj} {B : aw} (hv : B.aC = 0) (hB : iB (E.with key 0 (w.heap.size, 0, 0)) (w.alloc obj) key B) :
    ∃ E', bc E' (w.alloc obj) a { st with mem := ba st.mem key B } ∧ dt E w E' (w.alloc obj) ∧ E'.aI key 0 = some (w.heap.size, 0, 0) := by
  have := hs.new (obj := obj) (B := B) (e := 0) (c := 0) hk hv hB
  exact ⟨_, this.1, this.2, if_pos ⟨rfl, rfl⟩⟩
theorem sC {P : Program} {E : Env} {w : World} {a : Act} {st : St} (hs : bc E w a st) {key : Nat} (hk : dM st.mem key) {T : TypeId} {x : V} {y : Value} {B : aw} (hx : aW E x y) (h : iH P st.mem T x = some B) :
    ∃ E' w', (Instr.range T y).run P w = .ok (.pointer (some ⟨w.heap.size, 0, none⟩)) w' ∧ bc E' w' a { st with mem := ba st.mem key B } ∧ dt E w E' w' ∧ aW E' (.ptr key 0) (.pointer (some ⟨w.heap.size, 0, none⟩)) := by
  have b9 : (E.with key 0 (w.heap.size, 0, 0)).aI key 0 = some (w.heap.size, 0, 0) := if_pos ⟨rfl, rfl⟩
  unfold iH at h
  split at h
  · rename_i b
    split at h
    · rename_i aY clock hB
      split at h
      · rename_i p hp
        cases h
        obtain ⟨kt, et⟩ := p
        have hd := fc hp
        obtain ⟨g, e, c, rfl, hb⟩ := nF hx
        obtain ⟨es, hh, hr, -⟩ := gA hs hB hb
        have bH : b ≠ key := fun e => by subst e; rw [hs.free hk 0] at hb; cases hb
        obtain ⟨E', h1, h2, h3⟩ := hs.newObj hk (obj := .mapIter (some g) clock #[] clock) (B := .dF b clock [] clock) rfl ⟨w.heap.size, g, e, c, b9, (if_neg fun h => bH h.1).trans hb, heap_alloc_new w _, fun o => C6 (E := E) hs o⟩
        exact ⟨E', _, by simp [Instr.range, aq hd, cb hh, newObj, Sem.run], h1, h2, .ptr _ _ _ _ 0 0 h3⟩
      · cases h
    · cases h
  · obtain rfl := mm hx
    split at h
    · rename_i p hp
      cases h
      obtain ⟨kt, et⟩ := p
      have hd := fc hp
      obtain ⟨E', h1, h2, h3⟩ := hs.newObj hk (obj := .mapIter none 0 #[] 0) (B := .iA) rfl ⟨w.heap.size, b9, heap_alloc_new w _, fun o => C6 (E := E) hs o⟩
      exact ⟨E', _, by simp [Instr.range, aq hd, newObj, Sem.run], h1, h2, .ptr _ _ _ _ 0 0 h3⟩
    · cases h
  · rename_i s
    obtain rfl := mm hx
    split at h
    · rename_i hd
      cases h
      obtain ⟨E', h1, h2, h3⟩ := hs.newObj hk (obj := .stringIter s 0) (B := .ia s 0) rfl ⟨w.heap.size, b9, heap_alloc_new w _, fun o => C6 (E := E) hs o⟩
      exact ⟨E', _, by simp [Instr.range, aq hd, newObj, Sem.run], h1, h2, .ptr _ _ _ _ 0 0 h3⟩
    · cases h
  · cases h
theorem uH {P : Program} {E : Env} {w : World} {a : Act} {st : St} (hs : bc E w a st) {key : Nat} (hk : dM st.mem key) (T : TypeId) :
    ∃ E' w', (Instr.makeMap T none).run P w = .ok (.map (some w.heap.size)) w' ∧ bc E' w' a { st with mem := ba st.mem key (.map [] 0) } ∧ dt E w E' w' ∧ aW E' (.mp key) (.map (some w.heap.size)) := by
  have b9 : (E.with key 0 (w.heap.size, 0, 0)).aI key 0 = some (w.heap.size, 0, 0) := if_pos ⟨rfl, rfl⟩
  obtain ⟨E', h1, h2, h3⟩ := hs.newObj hk (obj := .map #[] 0) (B := .map [] 0) rfl ⟨w.heap.size, #[], b9, heap_alloc_new w _, ⟨rfl, fun i k e h => by simp at h⟩, fun o => C6 (E := E) hs o⟩
  exact ⟨E', _, by simp [Instr.makeMap, newObj, Sem.run], h1, h2, .mp _ _ _ 0 0 h3⟩
def rU (i : Ti) : V := if i.agg = true then .agg (i.zero.map fun z => ku (.sc z)) else match i.zero with | z :: _ => ku (.sc z) | [] => .undef
def qN (tt : Table) (T : TypeId) (l c : V) : Option (Nat × List V × Nat) :=
  match l, c with
  | .sc (.int _ l), .sc (.int _ c) => match dG tt T with
    | some e => match tt e with
      | some i => if 0 ≤ l ∧ l ≤ c ∧ i.bytes * c ≤ 281474976710656 ∧ c ≤ 1152921504606846976 ∧ 0 < i.size ∧ i.zero.length = i.size ∧ i.zero.all Value.oneCell' = true ∧ (i.agg = true ∨ i.size = 1) then some (i.size, List.replicate l.toNat (rU i), c.toNat) else none
      | none => none
    | none => none
  | _, _ => none
theorem uI {i : Ti} (h : i.agg = true ∨ i.size = 1) (hz : i.zero.length = i.size) : (rU i).cells = i.zero.map fun z => ku (.sc z) := by
  unfold rU
  split
  · rfl
  · rename_i hn
    have h1 : i.size = 1 := by rcases h with h | h
                               · exact absurd h hn
                               · exact h
    match RW : i.zero with
    | [] => rw [RW] at hz; simp at hz; omega
    | [z] => simp only [List.map_cons,List.map_nil]; unfold ku; split <;> rfl
    | _ :: _ :: _ => rw [RW] at hz; simp at hz; omega
theorem yr {P : Program} {tt : Table} (ht : TT P tt) {E : Env} {w : World} {a : Act} {st : St} (hs : bc E w a st) {key : Nat} (hk : dM st.mem key) {T : TypeId} {l c : V} {x y : Value} {size cap : Nat} {rs : List V} (hl : aW E l x) (hc : aW E c y)
    (h : qN tt T l c = some (size, rs, cap)) :
    ∃ E' w', (Instr.makeSlice T x y).run P w = .ok (.slice (some ⟨w.heap.size, 0, none⟩) rs.length cap) w' ∧ bc E' w' a { st with mem := ba st.mem key (.rows 0 size rs) } ∧ dt E w E' w' ∧ aW E' (.ms key 0 0 rs.length) (.slice (some ⟨w.heap.size, 0, none⟩) rs.length cap) := by
  unfold qN at h
  split at h
  · rename_i k1 l k2 c
    obtain rfl := mm hl
    obtain rfl := mm hc
    unfold dG at h
    cases hT : tt T with
    | none => rw [hT] at h; simp at h
    | some iT =>
      rw [hT] at h; simp only at h
      cases he : iT.elem with
      | none => rw [he] at h; simp at h
      | some e =>
        rw [he] at h; simp only at h
        cases hE : tt e with
        | none => rw [hE] at h; simp at h
        | some i =>
          rw [hE] at h; simp only at h
          split at h
          · rename_i oB
            obtain ⟨h0, h1, hb, ur, iG, Et, kn, J6⟩ := oB
            cases h
            obtain ⟨d, hd, -, ki, -⟩ := ht.desc T iT hT
            obtain rfl := ki e he
            obtain ⟨info, nr, MK, RO, z, hz, RW⟩ := ht.size e i hE
            have J3 : z.cells.size = i.size := by rw [← Et, ← RW]; simp
            have Zi : IntKind.i64.wrap l = l := by rw [IntWalk.i64_in _ (by omega)]
            have Zj : IntKind.i64.wrap c = c := by rw [IntWalk.i64_in _ (by omega)]
            obtain ⟨xs, mq⟩ : ∃ xs : Array Value, xs = (Array.range (c.toNat * i.size)).map (z.cells[· % z.cells.size]!) := ⟨_, rfl⟩
            have cJ : (Instr.makeSlice T (.int k1 l) (.int k2 c)).run P w = .ok (.slice (some ⟨w.heap.size, 0, none⟩) l.toNat c.toNat) (w.alloc (.cells xs e (0, 0))) := by
              have e0 : (decide (c < 0) || decide ((info.bytes : Int) * c > 2 ^ 48)) = false := by
                rw [RO]
                simp only [Bool.or_eq_false_iff,decide_eq_false_iff_not]
                exact ⟨by omega, by omega⟩
              have e1 : (decide (l < 0)) = false := by simp; omega
              have e2 : (decide (l > c)) = false := by simp; omega
              have RX : (zeroValue e).run P (w) = .ok z w := by simp [zeroValue, cE nr, hz]
              simp only [Instr.makeSlice,Sem.run_bind,aq hd,Result.andThen_ok,asInt,asIntOf,Sem.run_pure,cE nr,Zi,Zj,e0,e1,e2,Bool.or_self,Bool.false_eq_true,if_false,run_askRoom,de nr,MK]
              by_cases hn : c.toNat * i.size = 0
              · have nH : xs = #[] := by rw [mq, hn]; simp
                have N6 : ∀ f : Nat → Value, Array.map f (Array.range 0) = #[] := fun f => Array.eq_empty_of_size_eq_zero (by simp)
                simp only [hn,if_true,Sem.run_pure,Result.andThen_ok,N6,nH]
                rfl
              · simp only [hn,if_false,Sem.run_bind,RX,Result.andThen_ok,Sem.run_pure]
                simp [newRow, mq]
            obtain ⟨E', g1, g2, g3⟩ := hs.oy hk (xs := xs) (rs := List.replicate l.toNat (rU i)) (e := i.size) (c := c.toNat) e (by rw [mq]; simp) (by simp; omega) (fun q row hq => by
              rw [List.getElem?_replicate] at hq
              split at hq
              · rename_i RS
                cases hq
                have lD := uI J6 Et
                refine ⟨by rw [lD]; simpa using Et, fun j cc hj => ?_⟩
                rw [lD, List.getElem?_map, Option.map_eq_some_iff] at hj
                obtain ⟨v, hv, rfl⟩ := hj
                have qD : j < i.size := by rw [← Et]; exact (List.getElem?_eq_some_iff.1 hv).1
                have aD : q * i.size + j < c.toNat * i.size := by
                  have : (q + 1) * i.size ≤ c.toNat * i.size := Nat.mul_le_mul_right _ (by omega)
                  rw [Nat.succ_mul] at this; omega
                have VH : (q * i.size + j) % i.size = j := by rw [Nat.add_comm, Nat.add_mul_mod_self_right, Nat.mod_eq_of_lt qD]
                refine ⟨v, ?_, List.all_eq_true.1 kn v (List.mem_of_getElem? hv), oC (.sc _ _)⟩
                rw [mq]
                have X5 : z.cells[j]? = some v := by rw [← Array.getElem?_toList, RW]; exact hv
                have X6 : j < z.cells.size := by omega
                simp only [Array.getElem?_map,Array.getElem?_range,aD,if_true,Option.map_some,J3,VH]
                rw [getElem!_pos z.cells j X6]
                rw [Array.getElem?_eq_getElem X6] at X5
                exact X5
              · cases hq)
            refine ⟨E', _, ?_, g1, g2, ?_⟩
            · simpa using cJ
            · simpa using g3
          · cases h
  · cases h
end Go.Eng
end

section
namespace Go.Eng
variable [aH]
open Go.RowKit (Below)
def jm (tt : Table) (mem : List aw) (ts : List TypeId) (s x : V) : Option (Nat × Nat × Nat × Nat × List V × List V) :=
 match s with
 | .ms b v o l => match mem[b]? with
  | some (.rows v' eb rs) => match ts with
   | [t, u] => match dG tt t with
    | some e => match dG tt u with
     | some _ => match tt e with
      | some i =>
       if v' = v ∧ eb = i.size ∧ o + l = rs.length ∧ 0 < i.size ∧ i.bytes ≤ 4096 ∧ i.zero.length = i.size then
        match rowsOf mem i.size x with
        | some xs => if l + xs.length ≤ 34359738368 then some (i.size, b, v, l, rs.drop o, xs) else none
        | none => none
       else none
      | none => none
     | none => none
    | none => none
   | _ => none
  | _ => none
 | _ => none
theorem uJ {P : Program} {tt : Table} (ht : TT P tt) {E : Env} {w : World} {a : Act} {st : St} (hs : bc E w a st) {ts : Array TypeId} {ty : TypeId} {s x : V} {y z : Value} {size b v l : Nat} {UC xs : List V}
  (C0 : aW E s y) (Gn : aW E x z) (h : jm tt st.mem ts.toList s x = some (size, b, v, l, UC, xs)) :
  ∃ u w' E' o' rs', (Builtin.append_ ts ty #[y, z]).run P w = .ok u w' ∧ rs'.drop o' = UC ++ xs ∧ o' + (l + xs.length) = rs'.length ∧ bc E' w' a { st with mem := st.mem.set b (.rows (v + 1) size rs') } ∧ dt E w E' w' ∧ aW E' (.ms b (v + 1) o' (l + xs.length)) u := by
 unfold jm at h
 split at h
 ·rename_i b1 v1 o l1
  split at h
  ·rename_i v' eb rs hm
   split at h
   ·rename_i t u Vv
    obtain rfl : ts = #[t, u] := by rw [← Array.toArray_toList (xs := ts), Vv]
    split at h
    ·rename_i e he
     split at h
     ·rename_i e' Q0
      split at h
      ·rename_i i hE
       split at h
       ·rename_i hc
        obtain ⟨rfl, rfl, Ob, iG, sx, Et⟩ := hc
        split at h
        ·rename_i om mq
         split at h
         ·rename_i hlen
          simp only [Option.some.injEq,Prod.mk.injEq] at h
          obtain ⟨rfl, rfl, rfl, rfl, rfl, rfl⟩ := h
          have X7 : ∀ {t e : TypeId}, dG tt t = some e → P.underlying t = some (.slice e) := fun {t e} he => by
           unfold dG at he
           split at he
           ·rename_i iu hU
            obtain ⟨d, hd, -, ki, -⟩ := ht.desc t iu hU
            rw [hd, ki e he]
           ·simp at he
          have hd := X7 he
          have C1 := X7 Q0
          obtain ⟨info, nr, MK, RO, z0, N5, Gr⟩ := ht.size e i hE
          have J3 : z0.cells.size = info.size := by rw [MK, ← Et, ← Gr]; simp
          rw [← MK] at mq iG hm ⊢
          rw [← RO] at sx
          have AL : bc E w.drew a st := hs.drew
          obtain ⟨xa, xc, rfl, Y8, xA, uE, xQ⟩ := dN (P := P) hs Gn mq
          obtain ⟨Y9, Za, heq, -, xB, J4, Gw⟩ := dN (P := P) AL Gn mq
          simp only [Value.slice.injEq] at heq
          obtain ⟨rfl, -, rfl⟩ := heq
          have Eu : ∀ dV, dV < l1 + om.length → Builtin.nextslicecap (l1 + om.length) dV * info.bytes ≤ 281474976710656 := fun dV aD =>
           growslice_fits aD (Nat.le_trans (Nat.mul_le_mul hlen sx) (by decide))
          have yu : (rs.drop o).length = l1 := by rw [List.length_drop]; omega
          have qH : (rs.drop o ++ om).length = l1 + om.length := by rw [List.length_append, yu]
          have c5 : ∀ dV, l1 + om.length ≤ grownCap w (l1 + om.length) dV e := fun dV => grownCap_ge w (l1 + om.length) dV e
          have N0 : rowsOf st.mem info.size (.ms b1 v' o l1) = some (rs.drop o) := by
           have h1 : o + l1 ≤ rs.length := by omega
           simp [rowsOf, hm, h1]
           rw [List.take_of_length_le (by rw [List.length_drop]; omega)]
          obtain ⟨sa, sc, rfl, jI, A, J5, C3⟩ := dN (P := P) AL C0 N0
          rw [yu] at J5 C0 ⊢
          have lD : ∀ dV, (A ++ xB ++ Builtin.zeroCells z0.cells (grownCap w (l1 + om.length) dV e - (l1 + om.length))).size = grownCap w (l1 + om.length) dV e * info.size := fun dV => by
           simp only [Array.size_append,size_zeroCells,J3,C3.1,Gw.1,yu,← Nat.add_mul]
           congr 1; have := c5 dV; omega
          by_cases oE : l1 + om.length ≤ sc
          ·rcases wE C0 with ⟨MH, lE⟩ | ⟨g, UB, c, X3, Zc, lE, hb, hl, Gj, CX⟩
           ·simp only [Value.slice.injEq] at lE
            obtain ⟨rfl, Vx, rfl⟩ := lE
            have nH : om = [] := List.length_eq_zero_iff.1 (by omega)
            subst nH
            have MO : l1 = 0 := by omega
            subst MO
            have N6 : rs.drop o = [] := List.length_eq_zero_iff.1 yu
            rw [N6]
            exact ⟨_, w, E, 0, [], ei (ty := ty) hd C1 nr xc xa xA uE, rfl, rfl, hs.yl hm, dt.refl E w, .cZ _ _ _ _⟩
           ·simp only [Value.slice.injEq] at lE
            obtain ⟨rfl, -, rfl⟩ := lE
            obtain ⟨X4, ML, Q1⟩ := CX
            rcases hs.mem b1 _ hm with ⟨-, hn⟩ | ⟨g', T', cur, c', ey, hh, rA, ko, uq, hf⟩
            ·rw [hb] at hn; cases hn
            rw [hb] at ey; cases ey
            by_cases VI : sc = 0
            ·-- nothing at all
             have nH : om = [] := List.length_eq_zero_iff.1 (by omega)
             subst nH
             have MO : l1 = 0 := by omega
             subst MO
             subst VI
             have N6 : rs.drop o = [] := List.length_eq_zero_iff.1 yu
             have cJ : (Builtin.append_ #[t, u] ty #[.slice sa 0 0, .slice xa 0 xc]).run P w = .ok (.slice sa 0 0) w := by
              cases sa with
              | none => exact ei (ty := ty) hd C1 nr xc xa xA uE
              | some ad =>
               have Zk : xA.toList = [] := by
                have := xQ.1
                simp at this
                simpa using this
               have Zl : (Builtin.firstCells info.size 0 (.slice xa 0 xc)).run P w = .ok xA w := uE
               simp [Builtin.append_, aq hd, aq C1, de nr, Builtin.lenOf, Zl, Zk, storeCells]
             have hle : E.le (E.with b1 (v' + 1) (g, info.size, c)) := Env.gC (hs.aC b1 _ hm _ (Nat.lt_succ_self v')) _
             have b9 : (E.with b1 (v' + 1) (g, info.size, c)).aI b1 (v' + 1) = some (g, info.size, c) := if_pos ⟨rfl, rfl⟩
             refine ⟨_, w, E.with b1 (v' + 1) (g, info.size, c), o, rs, cJ, by simp [N6], by omega, hs.renew hm hs.F (Nat.le_refl _) (hs.lt _ _ _ _ _ hb) (fun k B' dC eS MM g' e' c' eX => ⟨rfl, fun e => by subst e; exact dC (hs.apart _ _ _ _ _ _ _ _ _ eX hb)⟩) ?_ (fun k v2 e2 c2 h => hs.apart _ _ _ _ _ _ _ _ _ h hb),
              ⟨hle, fun k q g' e' c' dC => ?_, fun ad y hy => .inl hy, rfl, rfl, rfl, Nat.le_refl _, fun _ _ _ => rfl⟩, ?_⟩
             ·exact .inr ⟨g, T', cur, c, b9, hh, rA, ko, fun q row hq => let ⟨h3, h4⟩ := uq q row hq; ⟨h3, fun j cc hj => let ⟨v, hv, AK, Ev⟩ := h4 j cc hj; ⟨v, hv, AK, Ev.mono (Env.fw hle)⟩⟩, hf⟩
             ·by_cases hq : k = b1 ∧ q = v' + 1
              ·obtain ⟨rfl, rfl⟩ := hq; rw [b9] at dC; cases dC; exact .inl ⟨_, _, _, _, hb⟩
              ·have : (E.with b1 (v' + 1) (g, info.size, c)).aI k q = E.aI k q := if_neg hq
               rw [this] at dC; exact .inl ⟨_, _, _, _, dC⟩
             ·exact .ms _ _ _ _ _ g info.size c _ _ b9 (fun h => absurd h (by simp)) (fun h => Gj h) ⟨by simp, ML, fun h => absurd h (Nat.lt_irrefl _)⟩
            ·obtain rfl := Q1 (by omega)
             have sy : rs.length * info.size + xA.toList.length ≤ cur.size := by
              have := xQ.1
              simp only [Array.length_toList]
              rw [this, rA, ← Nat.add_mul]; exact Nat.mul_le_mul_right _ (by omega)
             obtain ⟨w', iq, JH, wF⟩ := fe (P := P) (g := g) (T := T') (rs.length * info.size) xA.toList 0 w cur hh (by simpa using sy) (qK iG xQ)
             have cJ : (Builtin.append_ #[t, u] ty #[.slice (some ⟨g, o * info.size, none⟩) l1 sc, .slice xa om.length xc]).run P w = .ok (.slice (some ⟨g, o * info.size, none⟩) (l1 + om.length) sc) w' := by
              have Oc : (storeCells (Addr.add ⟨g, o * info.size, none⟩ (l1 * info.size)) xA.toList).run P w = .ok () w' := by
               rw [add_lit, ← Nat.add_mul, Ob]; exact iq
              simp [Builtin.append_, aq hd, aq C1, de nr, Builtin.lenOf, oE, uE, Oc]
             have hle : E.le (E.with b1 (v' + 1) (g, info.size, c)) := Env.gC (hs.aC b1 _ hm _ (Nat.lt_succ_self v')) _
             have b9 : (E.with b1 (v' + 1) (g, info.size, c)).aI b1 (v' + 1) = some (g, info.size, c) := if_pos ⟨rfl, rfl⟩
             refine ⟨_, w', E.with b1 (v' + 1) (g, info.size, c), o, rs ++ om, cJ, by rw [List.drop_append_of_le_length (by omega)], by rw [List.length_append]; omega, hs.renew hm (fun ad y hy => ?_) (by rw [wF.size]; exact Nat.le_refl _) (by rw [wF.size]; exact hs.lt _ _ _ _ _ hb) (fun k B' dC eS MM g' e' c' eX => ?_) ?_ (fun k v2 e2 c2 h => hs.apart _ _ _ _ _ _ _ _ _ h hb),
              ⟨hle, fun k q g' e' c' dC => ?_, fun ad y hy => .inl hy, wF.os, wF.tape, wF.output, by rw [wF.size]; exact Nat.le_refl _, fun b' ey bH => wF.heap b' fun e => by subst e; exact bH _ _ _ _ hb⟩, ?_⟩
             ·have bH := hs.wz hf hy
              rw [← hs.F ad y hy]; simp [World.cell?, wF.heap _ bH]
             ·have RR : g' ≠ g := fun e => by
               subst e
               exact dC (hs.apart _ _ _ _ _ _ _ _ _ eX hb)
              exact ⟨wF.heap _ RR, RR⟩
             ·refine .inr ⟨g, T', _, c, b9, JH, by rw [fE]; exact rA, by rw [List.length_append]; omega, ?_, hf⟩
              intro q row hq
              simp only [Nat.add_zero]
              have ym : xA.toList.length = om.length * info.size := by simpa using xQ.1
              rw [List.getElem?_append] at hq
              split at hq
              ·rename_i aD
               obtain ⟨h3, h4⟩ := uq q row hq
               refine ⟨h3, fun j cc hj => ?_⟩
               obtain ⟨v, hv, AK, Ev⟩ := h4 j cc hj
               have qD : j < info.size := by rw [← h3]; exact (List.getElem?_eq_some_iff.1 hj).1
               refine ⟨v, ?_, AK, Ev⟩
               rw [eB _ _ _ _ sy, if_neg (by have := su aD qD; omega)]
               exact hv
              ·rename_i Vz
               obtain ⟨h3, h4⟩ := xQ.2 _ row hq
               refine ⟨h3, fun j cc hj => ?_⟩
               obtain ⟨v, hv, AK, Ev⟩ := h4 j cc hj
               have qD : j < info.size := by rw [← h3]; exact (List.getElem?_eq_some_iff.1 hj).1
               have RS : q - rs.length < om.length := (List.getElem?_eq_some_iff.1 hq).1
               have hmul : q * info.size = rs.length * info.size + (q - rs.length) * info.size := by rw [← Nat.add_mul]; congr 1; omega
               refine ⟨v, ?_, AK, Ev⟩
               rw [eB _ _ _ _ sy, if_pos (by have := su RS qD; omega)]
               dsimp only at hv
               rw [← hv, Array.getElem?_toList]
               congr 1; omega
             ·by_cases hq : k = b1 ∧ q = v' + 1
              ·obtain ⟨rfl, rfl⟩ := hq; rw [b9] at dC; cases dC; exact .inl ⟨_, _, _, _, hb⟩
              ·have : (E.with b1 (v' + 1) (g, info.size, c)).aI k q = E.aI k q := if_neg hq
               rw [this] at dC; exact .inl ⟨_, _, _, _, dC⟩
             ·exact .ms _ _ _ _ _ g info.size c _ _ b9 (fun _ => rfl) (fun h => Gj h) ⟨oE, ML, fun _ => rfl⟩
          ·-- a new block
           have aD : sc < l1 + om.length := by omega
           have cJ := fG (ty := ty) hd C1 nr N5 sa l1 sc om.length xc xa A xB J5 J4 aD (by omega) (Eu sc aD)
           have hle : E.le (E.with b1 (v' + 1) (w.heap.size, info.size, grownCap w (l1 + om.length) sc e)) := Env.gC (hs.aC b1 _ hm _ (Nat.lt_succ_self v')) _
           have b9 : (E.with b1 (v' + 1) (w.heap.size, info.size, grownCap w (l1 + om.length) sc e)).aI b1 (v' + 1) = some (w.heap.size, info.size, grownCap w (l1 + om.length) sc e) := if_pos ⟨rfl, rfl⟩
           refine ⟨_, _, E.with b1 (v' + 1) (w.heap.size, info.size, grownCap w (l1 + om.length) sc e), 0, rs.drop o ++ om, cJ, rfl, by rw [qH]; omega, hs.renew hm (fun ad y hy => ?_) (by simp) (by simp) (fun k B' dC eS MM g' e' c' eX => ?_) ?_ (fun k v2 e2 c2 h => absurd (hs.lt _ _ _ _ _ h) (Nat.lt_irrefl _)),
            ⟨hle, fun k q g' e' c' dC => ?_, fun ad y hy => .inl hy, rfl, rfl, rfl, by simp, fun b' ey bH => Go.RowKit.Below.heap_alloc w.drew _ b' ey⟩, ?_⟩
           ·rw [World.cell?_alloc_lt w.drew _ ad (World.block_lt_of_cell? w ad (hs.F ad y hy))]; exact hs.F ad y hy
           ·have := hs.lt _ _ _ _ _ eX
            exact ⟨Go.RowKit.Below.heap_alloc w.drew _ g' this, by omega⟩
           ·refine .inr ⟨w.heap.size, e, _, _, b9, heap_alloc_new w.drew _, lD sc, by rw [qH]; exact c5 sc, ?_, fun o => ?_⟩
            ·intro q row hq
             obtain ⟨h3, h4⟩ := gD (C := Builtin.zeroCells z0.cells (grownCap w (l1 + om.length) sc e - (l1 + om.length))) C3 Gw q row hq
             exact ⟨h3, fun j cc hj => let ⟨v, hv, AK, Ev⟩ := h4 j cc hj; ⟨v, hv, AK, Ev.mono (Env.fw hle)⟩⟩
            ·show E.F _ = none
             cases hx : E.F ⟨w.heap.size, o, none⟩ with
             | none => rfl
             | some x => have := World.block_lt_of_cell? w _ (hs.F _ _ hx); simp at this
           ·by_cases hq : k = b1 ∧ q = v' + 1
            ·obtain ⟨rfl, rfl⟩ := hq; rw [b9] at dC; cases dC; exact .inr (Nat.le_refl _)
            ·have : (E.with b1 (v' + 1) (w.heap.size, info.size, grownCap w (l1 + om.length) sc e)).aI k q = E.aI k q := if_neg hq
             rw [this] at dC; exact .inl ⟨_, _, _, _, dC⟩
           ·exact .ms _ _ _ _ _ w.heap.size info.size _ _ _ b9 (fun _ => by simp) (fun _ => ⟨rfl, rfl⟩) ⟨c5 sc, Nat.zero_add _, fun _ => by simp⟩
         ·simp at h
        ·simp at h
       ·simp at h
      ·simp at h
     ·simp at h
    ·simp at h
   ·simp at h
  ·simp at h
 ·simp at h
end Go.Eng
end

section
namespace Go.Eng
variable [aH]
open Go.RowKit (Below)

def bu (mem : List aw) : V → Option V
  | .undef => some .undef
  | .sc v => some (ku (.sc v))
  | .slice rows => some (.slice rows)
  | .full rows => some (.slice rows)
  | .cg cs => some (.cg cs)
  | .gn => some .gn
  | .ms b v s l => match mem[b]? with
    | some (.rows v' _ rs) => if v' = v ∧ s + l ≤ rs.length then some (.slice ((rs.drop s).take l)) else none
    | some (.mX v' _ rs) => if v' = v ∧ s + l ≤ rs.length then some (.slice ((rs.drop s).take l)) else none
    | _ => none
  | .fQ f [] [] => some (.sc (.func f #[] #[]))
  | _ => none
def cK (mem : List aw) : List V → Option (List V)
  | [] => some []
  | c :: r => match bu mem c with
    | some c' => match cK mem r with | some r' => some (c' :: r') | none => none
    | none => none
def dO (mem : List aw) : V → Option V
  | .agg cs => match cK mem cs with | some l => some (.agg l) | none => none
  | v => bu mem v
def cy (mem : List aw) : List V → Option (List V)
  | [] => some []
  | c :: r => match dO mem c with
    | some c' => match cy mem r with | some r' => some (c' :: r') | none => none
    | none => none
def yv (mem : List aw) : V → Option V
  | .bN vs => match cy mem vs with | some l => some (.bN l) | none => none
  | v => dO mem v

def ej : V → List (Nat × Nat)
  | .ms b v _ _ => [(b, v)]
  | _ => []
def cn : V → List (Nat × Nat)
  | .agg cs => cs.flatMap ej
  | v => ej v
def refs : V → List (Nat × Nat)
  | .bN vs => vs.flatMap cn
  | v => cn v

def Env.kj (E : Env) (w : World) (keys : List (Nat × Nat)) : Env :=
  { F := fun ad => match E.F ad with
      | some x => some x
      | none => if keys.any (fun k => match E.aI k.1 k.2 with | some (g, _, _) => g == ad.block | none => false) then w.cell? ad else none
    aI := E.aI
    gl := E.gl.mono fun ad x h => by simp only [h] }
theorem Env.pR (E : Env) (w : World) (keys : List (Nat × Nat)) : E.le (E.kj w keys) := ⟨fun ad x h => by simp [Env.kj, h], fun _ _ _ h => h⟩
theorem Env.C7 {E : Env} {w : World} {keys : List (Nat × Nat)} (hF : ∀ ad x, E.F ad = some x → w.cell? ad = some x) {ad : Addr} {x : Value} (h : (E.kj w keys).F ad = some x) : w.cell? ad = some x := by
  unfold Env.kj at h
  dsimp only at h
  split at h
  · rename_i y hy; cases h; exact hF _ _ hy
  · split at h
    · exact h
    · cases h
theorem Env.wJ {E : Env} {w : World} {keys : List (Nat × Nat)} {ad : Addr} {x : Value} (h : (E.kj w keys).F ad = some x) : E.F ad = some x ∨ ∃ k ∈ keys, ∃ e c, E.aI k.1 k.2 = some (ad.block, e, c) := by
  unfold Env.kj at h
  dsimp only at h
  split at h
  · rename_i y hy; cases h; exact .inl hy
  · split at h
    · rename_i Od
      obtain ⟨k, hk, hm⟩ := List.any_eq_true.1 Od
      split at hm
      · rename_i g e c hb
        simp only [beq_iff_eq] at hm; subst hm
        exact .inr ⟨k, hk, e, c, hb⟩
      · cases hm
    · cases h
theorem Env.Oe {E : Env} {w : World} {keys : List (Nat × Nat)} {k v g e c : Nat} (hk : (k, v) ∈ keys) (hb : E.aI k v = some (g, e, c)) {o : Nat} {x : Value} (hn : E.F ⟨g, o, none⟩ = none) (hx : w.cell? ⟨g, o, none⟩ = some x) : (E.kj w keys).F ⟨g, o, none⟩ = some x := by
  have : keys.any (fun k => match E.aI k.1 k.2 with | some (g', _, _) => g' == g | none => false) = true := List.any_eq_true.2 ⟨(k, v), hk, by simp [hb]⟩
  unfold Env.kj
  dsimp only
  rw [hn]
  dsimp only
  rw [if_pos this]; exact hx

theorem yw {E : Env} {w : World} {a : Act} {st : St} (hs : bc E w a st) {keys : List (Nat × Nat)} {k v g e c : Nat} (hk : (k, v) ∈ keys) (hb : E.aI k v = some (g, e, c)) {B : aw} (hm : st.mem[k]? = some B) {rs : List V} {e' : Nat}
    (hB : B = .rows v e' rs ∨ B = .mX v e' rs) : e' = e ∧ rs.length ≤ c ∧ fA E.pure e rs (fun o => (E.kj w keys).F ⟨g, o, none⟩) := by
  rcases hB with rfl | rfl
  · rcases hs.mem k _ hm with ⟨-, hn⟩ | ⟨g', T, xs, c', ey, hh, jH, hl, hr, hf⟩
    · rw [hb] at hn; cases hn
    · rw [hb] at ey; cases ey
      refine ⟨rfl, hl, fun i row hi => ?_⟩
      obtain ⟨h1, h2⟩ := hr i row hi
      exact ⟨h1, fun j cc hj => let ⟨x, hx, h⟩ := h2 j cc hj; ⟨x, Env.Oe hk hb (hf _) (by rw [ik hh]; exact hx), h⟩⟩
  · rcases hs.mem k _ hm with ⟨-, hn⟩ | ⟨g', c', ey, hl, hr⟩
    · rw [hb] at hn; cases hn
    rw [hb] at ey; cases ey
    refine ⟨rfl, hl, fun i row hi => ?_⟩
    obtain ⟨h1, h2⟩ := hr i row hi
    exact ⟨h1, fun j cc hj => let ⟨x, hx, h⟩ := h2 j cc hj; ⟨x, (Env.pR E w keys).F _ _ hx, h⟩⟩

theorem jB {E : Env} {w : World} {a : Act} {st : St} (hs : bc E w a st) {keys : List (Nat × Nat)} {v v' : V} {x : Value} (hr : aW E v x) (h : bu st.mem v = some v') (hk : ∀ k ∈ ej v, k ∈ keys) : aW (E.kj w keys).pure v' x := by
  have hle := Env.fw (Env.pR E w keys)
  have AJ : ∀ {b v s l : Nat} {B : aw} {rs : List V} {e' : Nat}, aW E (.ms b v s l) x → (b, v) ∈ keys → st.mem[b]? = some B → (B = .rows v e' rs ∨ B = .mX v e' rs) → s + l ≤ rs.length → aW (E.kj w keys).pure (.slice ((rs.drop s).take l)) x := by
    intro b v s l B rs e' hr eX hm hB hl
    have hlen : ((rs.drop s).take l).length = l := by simp; omega
    rcases wE hr with ⟨rfl, rfl⟩ | ⟨g, e, c, aa, cap, rfl, hb, MO, -, JK⟩
    · rw [show (rs.drop s).take 0 = [] from by simp]
      exact .slice _ [] none 0 0 default (fun _ _ => default) (by simp) (by simp) (by simp) (by simp) (by simp) (by simp)
    · obtain ⟨rfl, qH, RJ⟩ := yw hs eX hb hm hB
      have eW : ∀ (i : Nat) (row : V) (j : Nat) (cc : V), ((rs.drop s).take l)[i]? = some row → row.cells[j]? = some cc → ∃ y, (E.kj w keys).F ⟨g, (s + i) * e' + j, none⟩ = some y ∧ y.oneCell' = true ∧ aW E.pure cc y := fun i row j cc hi hj =>
        (RJ _ _ (rT hi)).2 j cc hj
      let xf : Nat → Nat → Value := fun i j => ((E.kj w keys).F ⟨g, (s + i) * e' + j, none⟩).getD default
      have xX : aW (E.kj w keys).pure (.slice ((rs.drop s).take l)) (.slice aa ((rs.drop s).take l).length cap) := by
        refine .slice _ _ _ _ e' ⟨g, s * e', none⟩ xf (fun bH => MO ?_) (by rw [hlen]; exact JK.1) (fun i row hi => (RJ _ _ (rT hi)).1) (fun i row j cc hi hj => ?_) (fun i row j cc hi hj => ?_) fun i row j cc hi hj => ?_
        · have : ((rs.drop s).take l).length ≠ 0 := fun h0 => bH (List.length_eq_zero_iff.1 h0)
          omega
        · obtain ⟨y, hy, -⟩ := eW i row j cc hi hj
          have N8 : s * e' + (i * e' + j) = (s + i) * e' + j := by rw [Nat.add_mul]; omega
          rw [add_lit, N8]
          show (E.kj w keys).F _ = some (xf i j)
          simp [xf, hy]
        · obtain ⟨y, hy, h1, -⟩ := eW i row j cc hi hj
          simp [xf, hy, h1]
        · obtain ⟨y, hy, -, h2⟩ := eW i row j cc hi hj
          have : xf i j = y := by simp [xf, hy]
          rw [this]; exact h2.mono hle
      rw [hlen] at xX; exact xX
  unfold bu at h
  split at h
  · simp only [Option.some.injEq] at h; subst h; exact .undef _ _
  · simp only [Option.some.injEq] at h; subst h; exact oC (by rw [bR hr]; exact .sc _ _)
  · simp only [Option.some.injEq] at h; subst h
    cases hr with
    | slice _ _ a cap nE ad xf ha ij hz hF h1 hR => exact (aW.slice E.pure _ a cap nE ad xf ha ij hz hF h1 hR).mono hle
  · simp only [Option.some.injEq] at h; subst h
    cases hr with
    | full _ _ a h =>
    cases h with
    | slice _ _ a cap nE ad xf ha ij hz hF h1 hR => exact (aW.slice E.pure _ a _ nE ad xf ha (Nat.le_refl _) hz hF h1 hR).mono hle
  · simp only [Option.some.injEq] at h; subst h
    cases hr with
    | cg _ _ ad xf hF hR => exact (aW.cg E.pure _ ad xf hF hR).mono hle
  · simp only [Option.some.injEq] at h; subst h
    cases hr with
    | gn => exact .gn _
  · rename_i b v s l
    have eX : (b, v) ∈ keys := hk (b, v) (by simp [ej])
    split at h
    · rename_i v' e rs hm
      split at h
      · rename_i hl; obtain ⟨rfl, hl⟩ := hl; simp only [Option.some.injEq] at h; subst h; exact AJ hr eX hm (.inl rfl) hl
      · cases h
    · rename_i v' e rs hm
      split at h
      · rename_i hl; obtain ⟨rfl, hl⟩ := hl; simp only [Option.some.injEq] at h; subst h; exact AJ hr eX hm (.inr rfl) hl
      · cases h
    · cases h
  · simp only [Option.some.injEq] at h; subst h
    cases hr with
    | fQ _ f _ _ xs ys hx hy h1 h2 =>
      have e1 : xs = #[] := by simpa using hx.symm
      have e2 : ys = #[] := by simpa using hy.symm
      subst e1; subst e2; exact .sc _ _
  · cases h

theorem lG {E : Env} {w : World} {a : Act} {st : St} (hs : bc E w a st) {keys : List (Nat × Nat)} : ∀ {vs vs' : List V} {xs : List Value}, aP E vs xs → cK st.mem vs = some vs' → (∀ k ∈ vs.flatMap ej, k ∈ keys) →
    aP (E.kj w keys).pure vs' xs
  | [], vs', xs, hr, h, _ => by simp [cK] at h; subst h; rw [hr.of_nil]; exact .nil _
  | v :: vs, vs', xs, hr, h, hk => by
    obtain ⟨x, ys, rfl, h1, h2⟩ := hr.of_cons
    simp only [cK] at h
    split at h
    · rename_i c' hc
      split at h
      · rename_i r' uu
        simp only [Option.some.injEq] at h; subst h
        exact .cons (jB hs h1 hc fun k eS => hk k (by simp [eS])) (lG hs h2 uu fun k eS => hk k (by simp at eS ⊢; exact .inr eS))
      · cases h
    · cases h

theorem sD {E : Env} {w : World} {a : Act} {st : St} (hs : bc E w a st) {keys : List (Nat × Nat)} {v v' : V} {x : Value} (hr : aW E v x) (h : dO st.mem v = some v') (hk : ∀ k ∈ cn v, k ∈ keys) : aW (E.kj w keys).pure v' x := by
  unfold dO at h
  split at h
  · split at h
    · rename_i cs l hl
      simp only [Option.some.injEq] at h; subst h
      cases hr with
      | agg _ _ xs hlen hh =>
        have := lG hs (xs := xs.toList) ⟨by simpa using hlen, fun i c x hc hx => hh i c x hc (by simpa using hx)⟩ hl (by simpa [cn] using hk)
        exact .agg _ _ _ (by simpa using this.1) fun i c x hc hx => this.2 i c x hc (by simpa using hx)
    · cases h
  · rename_i bH
    refine jB hs hr h fun k eS => hk k ?_
    cases v <;> first | exact eS | exact absurd rfl (bH _)
theorem ga {E : Env} {w : World} {a : Act} {st : St} (hs : bc E w a st) {keys : List (Nat × Nat)} : ∀ {vs vs' : List V} {xs : List Value}, aP E vs xs → cy st.mem vs = some vs' → (∀ k ∈ vs.flatMap cn, k ∈ keys) →
    aP (E.kj w keys).pure vs' xs
  | [], vs', xs, hr, h, _ => by simp [cy] at h; subst h; rw [hr.of_nil]; exact .nil _
  | v :: vs, vs', xs, hr, h, hk => by
    obtain ⟨x, ys, rfl, h1, h2⟩ := hr.of_cons
    simp only [cy] at h
    split at h
    · rename_i c' hc
      split at h
      · rename_i r' uu
        simp only [Option.some.injEq] at h; subst h
        exact .cons (sD hs h1 hc fun k eS => hk k (by simp [eS])) (ga hs h2 uu fun k eS => hk k (by simp at eS ⊢; exact .inr eS))
      · cases h
    · cases h
theorem va {E : Env} {w : World} {a : Act} {st : St} (hs : bc E w a st) {keys : List (Nat × Nat)} {v v' : V} {x : Value} (hr : aW E v x) (h : yv st.mem v = some v') (hk : ∀ k ∈ refs v, k ∈ keys) : aW (E.kj w keys).pure v' x := by
  unfold yv at h
  split at h
  · split at h
    · rename_i vs l hl
      simp only [Option.some.injEq] at h; subst h
      cases hr with
      | bN _ _ xs hlen hh =>
        have := ga hs (xs := xs.toList) ⟨by simpa using hlen, fun i c x hc hx => hh i c x hc (by simpa using hx)⟩ hl (by simpa [refs] using hk)
        exact .bN _ _ _ (by simpa using this.1) fun i c x hc hx => this.2 i c x hc (by simpa using hx)
    · cases h
  · rename_i bH
    refine sD hs hr h fun k eS => hk k ?_
    cases v <;> first | exact eS | exact absurd rfl (bH _)

def aO (P : Program) (f : FuncId) (args : List V) (r : V) : Prop :=
  (∀ (xs : Array Value) (w : World), (callFunc f xs).run P w = .ok (.enter f xs) w) ∧
  ∀ (F : Addr → Option Value) (hg : Gl F) (w : World) (xs : Array Value), (∀ ad x, F ad = some x → w.cell? ad = some x) → aP ⟨F, fun _ _ => none, hg⟩ args xs.toList →
    Calls P f xs w fun e w' => ∃ F' x, e = .returned x ∧ (∀ ad y, F ad = some y → F' ad = some y) ∧ (∀ ad y, F' ad = some y → w'.cell? ad = some y) ∧ (∀ ad y, F' ad = some y → F ad = some y ∨ w.heap.size ≤ ad.block) ∧
      (∃ J7, aW ⟨F', fun _ _ => none, J7⟩ r x) ∧ Below w.heap.size w w'

def yx : V → Bool
  | .undef => true
  | .sc _ => true
  | .agg cs => cs.all (fun c => match c with | .sc _ => true | _ => false)
  | _ => false
def GC : V → Bool
  | .bN vs => vs.all yx
  | v => yx v

theorem vb {E E' : Env} {v : V} {x : Value} (h : aW E v x) (hf : yx v = true) : aW E' v x := by
  cases h with
  | undef => exact .undef _ _
  | sc => exact .sc _ _
  | agg _ cs xs hl hh =>
    refine .agg _ _ _ hl fun i c x hc hx => ?_
    have h1 := hh i c x hc hx
    simp only [yx,List.all_eq_true] at hf
    have := hf c (List.mem_of_getElem? hc)
    cases c <;> simp at this
    rw [bR h1]; exact .sc _ _
  | _ => simp [yx] at hf
theorem Ez {E E' : Env} {v : V} {x : Value} (h : aW E v x) (hf : GC v = true) : aW E' v x := by
  unfold GC at hf
  split at hf
  · cases h with
    | bN _ vs xs hl hh =>
      refine .bN _ _ _ hl fun i c x hc hx => vb (hh i c x hc hx) ?_
      simp only [List.all_eq_true] at hf
      exact hf c (List.mem_of_getElem? hc)
  · exact vb h hf

def sE (mem : List aw) (k : Nat × Nat) : List aw := match mem[k.1]? with | some (.rows v e rs) => if v = k.2 then mem.set k.1 (.mX v e rs) else mem | _ => mem
def bS (mem : List aw) (keys : List (Nat × Nat)) : List aw := keys.foldl sE mem

def jn (keys : List (Nat × Nat)) (q : Nat) : Option aw → Option aw
  | some (.rows v e rs) => if (q, v) ∈ keys then some (.mX v e rs) else some (.rows v e rs)
  | B => B
theorem yy (mem : List aw) (k : Nat × Nat) (q : Nat) : (sE mem k)[q]? = jn [k] q mem[q]? := by
  obtain ⟨k, kv⟩ := k
  unfold sE
  dsimp only
  split
  · rename_i v e rs hk
    split
    · rename_i hv
      subst hv
      rw [List.getElem?_set]
      by_cases hq : k = q
      · subst hq
        rw [hk]
        simp [jn, (List.getElem?_eq_some_iff.1 hk).1]
      · rw [if_neg hq]
        have JJ : ¬ q = k := fun e => hq e.symm
        cases hB : mem[q]? with
        | none => rfl
        | some B => cases B <;> simp [jn, JJ]
    · rename_i hv
      cases hB : mem[q]? with
      | none => rfl
      | some B =>
        cases B <;> first | rfl | skip
        rename_i v' e' rs'
        simp only [jn,List.mem_singleton,Prod.mk.injEq]
        rw [if_neg]
        rintro ⟨rfl, rfl⟩
        rw [hk] at hB; cases hB; exact hv rfl
  · rename_i hk
    cases hB : mem[q]? with
    | none => rfl
    | some B =>
      cases B <;> first | rfl | skip
      rename_i v e rs
      simp only [jn,List.mem_singleton,Prod.mk.injEq]
      rw [if_neg]
      rintro ⟨rfl, rfl⟩
      exact hk _ _ _ hB
theorem kz (keys : List (Nat × Nat)) : ∀ (mem : List aw) (q : Nat), (bS mem keys)[q]? = jn keys q mem[q]? := by
  induction keys with
  | nil => intro mem q; simp only [bS,List.foldl_nil]; cases hB : mem[q]? with | none => rfl | some B => cases B <;> simp [jn]
  | cons k r ih =>
    intro mem q
    show (bS (sE mem k) r)[q]? = _
    rw [ih, yy]
    cases hB : mem[q]? with
    | none => rfl
    | some B =>
      cases B <;> first | rfl | skip
      rename_i v e rs
      simp only [jn,List.mem_cons,List.not_mem_nil,or_false]
      by_cases hq : (q, v) = k
      · rw [if_pos hq, if_pos (.inl hq)]
      · rw [if_neg hq]
        by_cases hr : (q, v) ∈ r
        · rw [if_pos (.inr hr)]; simp [hr]
        · rw [if_neg (fun h => h.elim hq hr)]; simp [hr]
theorem nx (keys : List (Nat × Nat)) : ∀ (mem : List aw), (bS mem keys).length = mem.length := by
  induction keys with
  | nil => intro mem; rfl
  | cons k r ih =>
    intro mem
    show (bS (sE mem k) r).length = _
    rw [ih]; unfold sE
    split
    · split <;> simp
    · rfl

def cp (mem : List aw) (keys : List (Nat × Nat)) (r : V) : List aw := if GC r = true then mem else bS mem keys

theorem EA {mem : List aw} {k : Nat × Nat} : ∀ {us GD : List V}, cy mem us = some GD → k ∈ us.flatMap cn → ∃ B, mem[k.1]? = some B ∧ B.aC = k.2 ∧ ∃ e rs, B = .rows k.2 e rs ∨ B = .mX k.2 e rs := by
  have MQ : ∀ (cs np : List V), cK mem cs = some np → k ∈ cs.flatMap ej → ∃ B, mem[k.1]? = some B ∧ B.aC = k.2 ∧ ∃ e rs, B = .rows k.2 e rs ∨ B = .mX k.2 e rs := by
    intro cs
    induction cs with
    | nil => intro np _ hm; simp at hm
    | cons c r ih =>
      intro np hp hm
      simp only [cK] at hp
      split at hp
      · rename_i c' hc
        split at hp
        · rename_i r' hr
          simp only [List.flatMap_cons,List.mem_append] at hm
          rcases hm with hm | hm
          · cases c <;> simp only [ej,List.mem_singleton,List.not_mem_nil] at hm
            subst hm
            simp only [bu] at hc
            split at hc
            · rename_i h
              split at hc
              · rename_i hv; obtain ⟨rfl, -⟩ := hv; exact ⟨_, h, rfl, _, _, .inl rfl⟩
              · cases hc
            · rename_i h
              split at hc
              · rename_i hv; obtain ⟨rfl, -⟩ := hv; exact ⟨_, h, rfl, _, _, .inr rfl⟩
              · cases hc
            · cases hc
          · exact ih _ hr hm
        · cases hp
      · cases hp
  intro us
  induction us with
  | nil => intro GD _ hm; simp at hm
  | cons c r ih =>
    intro GD hp hm
    simp only [cy] at hp
    split at hp
    · rename_i c' hc
      split at hp
      · rename_i r' hr
        simp only [List.flatMap_cons,List.mem_append] at hm
        rcases hm with hm | hm
        · unfold dO at hc
          split at hc
          · split at hc
            · rename_i l hl; exact MQ _ _ hl hm
            · cases hc
          · rename_i bH
            refine MQ [c] [c'] (by simp [cK, hc]) ?_
            simp only [List.flatMap_cons,List.flatMap_nil,List.append_nil]
            cases c <;> first | exact hm | exact absurd rfl (bH _)
        · exact ih hr hm
      · cases hp
    · cases hp

theorem sF {E : Env} {w w' : World} {a : Act} {st : St} (hs : bc E w a st) {vs vs' : List V} (hp : cy st.mem vs = some vs') {F' : Addr → Option Value} (A6 : ∀ ad y, (E.kj w (vs.flatMap cn)).F ad = some y → F' ad = some y)
    (eO : ∀ ad y, F' ad = some y → w'.cell? ad = some y) (UD : ∀ ad y, F' ad = some y → (E.kj w (vs.flatMap cn)).F ad = some y ∨ w.heap.size ≤ ad.block) (hb : Below w.heap.size w w') :
    ∃ hg, dt E w ⟨F', E.aI, hg⟩ w' ∧ bc ⟨F', E.aI, hg⟩ w' a { st with mem := bS st.mem (vs.flatMap cn) } := by
  have hg : Gl F' := E.gl.mono fun ad x h => A6 _ _ ((Env.pR E w _).F _ _ h)
  refine ⟨hg, ?_⟩
  have hle : E.le ⟨F', E.aI, hg⟩ := ⟨fun ad y hy => A6 _ _ ((Env.pR E w _).F _ _ hy), fun _ _ _ h => h⟩
  have VJ : (E.kj w (vs.flatMap cn)).le ⟨F', E.aI, hg⟩ := ⟨A6, fun _ _ _ h => h⟩
  -- no cell of F' bm in a held block gI was not handed over
  have clean : ∀ k B, st.mem[k]? = some B → B.held = true → (∀ v e rs, B ≠ .mX v e rs) → (∀ v e rs, B = .rows v e rs → (k, v) ∉ vs.flatMap cn) → ∀ g e c o, E.aI k B.aC = some (g, e, c) → E.F ⟨g, o, none⟩ = none → F' ⟨g, o, none⟩ = none := by
    intro k B hB hh Zm sG g e c o eX hn
    cases hy : F' ⟨g, o, none⟩ with
    | none => rfl
    | some y =>
      exfalso
      rcases UD _ y hy with h | h
      · rcases Env.wJ h with h | ⟨k', eS, e', c', h⟩
        · rw [hn] at h; cases h
        · obtain ⟨B', oj, rz, e1, oo, JI⟩ := EA hp eS
          have JH : B'.held = true := by rcases JI with rfl | rfl <;> rfl
          rw [← rz] at h
          have bX := hs.apart _ _ _ _ _ _ _ _ _ eX h
          subst bX
          rw [hB] at oj; cases oj
          rcases JI with rfl | rfl
          · exact sG _ _ _ rfl (by rw [show (k'.1, k'.2) = k' from rfl]; exact eS)
          · exact Zm _ _ _ rfl
      · have := hs.lt _ _ _ _ _ eX; simp at h; omega
  refine ⟨⟨hle, fun k v g e c h => .inl ⟨k, v, e, c, h⟩, fun ad y hy => ?_, hb.os, hb.tape, hb.output, hb.size, fun b aD _ => hb.block b aD⟩, ?_⟩
  · rcases UD ad y hy with h | h
    · rcases Env.wJ h with h | ⟨k, -, e, c, h⟩
      · exact .inl h
      · exact .inr (.inr ⟨k.1, k.2, e, c, h⟩)
    · exact .inr (.inl h)
  · have nt : ∀ (q : Nat) (B : aw), (bS st.mem (vs.flatMap cn))[q]? = some B → ∃ B', st.mem[q]? = some B' ∧ B.aC = B'.aC ∧ B.held = B'.held ∧ (B = B' ∧ (∀ v e rs, B = .rows v e rs → (q, v) ∉ vs.flatMap cn) ∨ ∃ v e rs, B' = .rows v e rs ∧ B = .mX v e rs ∧ (q, v) ∈ vs.flatMap cn) := fun q B hq => by
      rw [kz] at hq
      cases vd : st.mem[q]? with
      | none => rw [vd] at hq; simp [jn] at hq
      | some B0 =>
        rw [vd] at hq
        refine ⟨B0, rfl, ?_⟩
        cases B0 with
        | rows v e rs =>
          simp only [jn] at hq
          split at hq
          · rename_i gJ; cases hq; exact ⟨rfl, rfl, .inr ⟨v, e, rs, rfl, rfl, gJ⟩⟩
          · rename_i gJ; cases hq; exact ⟨rfl, rfl, .inl ⟨rfl, fun v' e' rs' h => by cases h; exact gJ⟩⟩
        | _ => cases hq; exact ⟨rfl, rfl, .inl ⟨rfl, fun v' e' rs' h => by cases h⟩⟩
    refine ⟨eO, fun k v g e c h => Nat.lt_of_lt_of_le (hs.lt _ _ _ _ _ h) hb.size, fun k B hk => ?_, fun k hk v => hs.top k (by simpa [nx] using hk) v, fun k B hk v hv => ?_, hs.apart, hs.fr.mono hle⟩
    · obtain ⟨B', oj, -, -, sB⟩ := nt k B hk
      rcases sB with ⟨rfl, sG⟩ | ⟨v, e, rs, rfl, rfl, gJ⟩
      · have sH := (hs.mem k B oj).mono (E' := ⟨F', E.aI, hg⟩) (w' := w') hle (fun _ h => h) (fun g e c h => hb.block _ (hs.lt _ _ _ _ _ h))
        cases J8 : B with
        | mX v e rs =>
          subst J8
          rcases hs.mem k _ oj with h9 | ⟨g, c, rF, hl, hr⟩
          · exact .inl h9
          refine .inr ⟨g, c, rF, hl, fun i row hi => ?_⟩
          obtain ⟨h5, h6⟩ := hr i row hi
          exact ⟨h5, fun j cc hj => let ⟨x, hx, h7, h8⟩ := h6 j cc hj; ⟨x, hle.F _ _ hx, h7, h8.mono (Env.fw hle)⟩⟩
        | hole => subst J8; exact hs.mem k _ oj
        | dead => trivial
        | loop s jx fr params assign body => subst J8; exact sH (clean k _ oj rfl (fun _ _ _ h => by cases h) (fun _ _ _ h => by cases h))
        | box cs => subst J8; exact sH (clean k _ oj rfl (fun _ _ _ h => by cases h) (fun _ _ _ h => by cases h))
        | map aY clock => subst J8; exact sH (clean k _ oj rfl (fun _ _ _ h => by cases h) (fun _ _ _ h => by cases h))
        | dF m since seen last => subst J8; exact sH (clean k _ oj rfl (fun _ _ _ h => by cases h) (fun _ _ _ h => by cases h))
        | ia s pos => subst J8; exact sH (clean k _ oj rfl (fun _ _ _ h => by cases h) (fun _ _ _ h => by cases h))
        | iA => subst J8; exact sH (clean k _ oj rfl (fun _ _ _ h => by cases h) (fun _ _ _ h => by cases h))
        | rows v e rs => subst J8; exact sH (clean k _ oj rfl (fun _ _ _ h => by cases h) sG)
      · rcases hs.mem k _ oj with h9 | ⟨g, T, cur, c, rF, -⟩
        · exact .inl h9
        · obtain ⟨-, hl, hr⟩ := yw hs gJ rF oj (.inl rfl)
          refine .inr ⟨g, c, rF, hl, fun i row hi => ?_⟩
          obtain ⟨h5, h6⟩ := hr i row hi
          exact ⟨h5, fun j cc hj => let ⟨x, hx, h7, h8⟩ := h6 j cc hj; ⟨x, VJ.F _ _ hx, h7, h8.mono (Env.fw hle)⟩⟩
    · obtain ⟨B', oj, AK, -, -⟩ := nt k B hk
      exact hs.aC k B' oj v (by omega)

theorem bc.freeze {E : Env} {w : World} {a : Act} {st : St} (hs : bc E w a st) {vs vs' : List V} (hp : cy st.mem vs = some vs') :
    ∃ E', bc E' w a { st with mem := bS st.mem (vs.flatMap cn) } ∧ dt E w E' w ∧ ∀ xs, aP E vs xs → aP E' vs' xs := by
  obtain ⟨hg, h1, h2⟩ := sF hs hp (F' := (E.kj w (vs.flatMap cn)).F) (fun _ _ h => h) (fun ad y h => Env.C7 hs.F h) (fun _ _ h => .inl h) (Below.refl _ w)
  exact ⟨_, h2, h1, fun xs hx => (ga hs (keys := vs.flatMap cn) hx hp fun k hk => hk).mono ⟨fun _ _ h => h, fun _ _ _ h => by cases h⟩⟩

theorem EB {P : Program} {f : FuncId} {E : Env} {w : World} {a : Act} {st : St} (hs : bc E w a st) {vs vs' : List V} {r : V} {xs : Array Value} (hx : aP E vs xs.toList) (hp : cy st.mem vs = some vs') (hf : aO P f vs' r) :
    Calls P f xs w fun e w' => ∃ E' x, e = .returned x ∧ dt E w E' w' ∧ bc E' w' a { st with mem := cp st.mem (vs.flatMap cn) r } ∧ aW E' r x := by
  have h1 := ga hs (keys := vs.flatMap cn) hx hp fun k hk => hk
  refine (hf.2 (E.kj w (vs.flatMap cn)).F (E.kj w (vs.flatMap cn)).gl w xs (fun ad x h => Env.C7 hs.F h) h1).mono ?_
  rintro e w' ⟨F', x, rfl, A6, eO, UD, ⟨J7, oD⟩, hb⟩
  unfold cp
  split
  · rename_i RY
    refine ⟨E, x, rfl, ⟨E.le_refl, fun k v g e c h => .inl ⟨k, v, e, c, h⟩, fun _ _ h => .inl h, hb.os, hb.tape, hb.output, hb.size, fun b aD _ => hb.block b aD⟩, ?_, Ez oD RY⟩
    refine ⟨fun ad y hy => ?_, fun k v g e c h => Nat.lt_of_lt_of_le (hs.lt _ _ _ _ _ h) hb.size, fun k B hk => ?_, hs.top, hs.aC, hs.apart, hs.fr⟩
    · rw [hb.cell (World.block_lt_of_cell? w ad (hs.F ad y hy))]; exact hs.F ad y hy
    · exact (hs.mem k B hk).mono E.le_refl (fun _ h => h) (fun g e c h => hb.block _ (hs.lt _ _ _ _ _ h)) fun _ _ _ _ _ h => h
  · obtain ⟨hg, e1, s1⟩ := sF hs hp A6 eO UD hb
    exact ⟨_, x, rfl, e1, s1, oD.mono ⟨fun _ _ h => h, fun _ _ _ h => by simp at h⟩⟩
end Go.Eng
end
