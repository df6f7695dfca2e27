/-
  THE ENGINE, A: abstract values, and what it means that one stands for a value of the model in a world.
  THE ENGINE, B: the table of types, the store, the state of a call, and what one operation makes of it.
  THE ENGINE, C: the operations that write nothing, and that each does in the model what it says.
  THE ENGINE, D: one word for all operations that write nothing.
  THE ENGINE, DM: maps: reading them.
  THE ENGINE, E: the word for every operation that writes nothing, and its soundness.
  THE ENGINE, F: new blocks, stores, what is read for good.
  THE ENGINE, G: stores.
  THE ENGINE, H: slices that are made: literals, append.
  THE ENGINE, I: append.
  THE ENGINE, IM: maps: writing them; ranging over them, and over strings.
  THE ENGINE, SF: append to a slice that begins behind its block's beginning: it may stay where it is, or go to a new block.
  THE ENGINE, J: what a call hands over; contracts.
-/
import Derived.Orders
import Derived.Below
import Derived.Laws.AppendOwn
import Derived.Laws.Cells
import Derived.Laws.Entries
import Derived.Laws.ResultCell
import Derived.Laws.BytesArg
import Derived.Laws.Append
import Derived.IntWalk
set_option linter.all false
section
namespace Go.Eng

class aA where
 n : Int
 κ : Int → Option Bool
 ok : ∀ k b, κ k = some b → decide (k ≤ n) = b
 g : Option Nat
 OZ : Nat → Option (List Value)
variable [aA]
structure Gl (F : Addr → Option Value) : Prop where
 n : ∀ g, aA.g = some g → F ⟨g, 0, none⟩ = some (.int .i64 aA.n)
 t : ∀ g cs (j : Nat) x, aA.OZ g = some cs → cs[j]? = some x → F ⟨g, j, none⟩ = some x
theorem Gl.mono {F F' : Addr → Option Value} (h : Gl F) (hF : ∀ ad x, F ad = some x → F' ad = some x) : Gl F' := ⟨fun g hg => hF _ _ (h.n g hg), fun g cs j x h1 h2 => hF _ _ (h.t g cs j x h1 h2)⟩

inductive V where
 | undef
 | sc (v : Value)
 | agg (cs : List V)
 | slice (rows : List V)
 | ms (b v s l : Nat)
 | ptr (b o : Nat)
 | dZ (b v i o : Nat)
 | cH (cs : List V)
 | bp (f : Fn) (first cap : List V)
 | cC (vs : List V)
 | fP (b : Nat)
 | mp (b : Nat)
 | gn
 | full (rows : List V)
 deriving Inhabited

def V.cells : V → List V
 | .agg cs => cs
 | v => [v]

structure Env where
 F : Addr → Option Value
 bd : Nat → Nat → Option (Nat × Nat × Nat)
 gl : Gl F

def Env.pure (E : Env) : Env := { F := E.F, bd := fun _ _ => none, gl := E.gl }

inductive bC : Env → V → Value → Prop
 | undef (E : Env) (x : Value) : bC E .undef x
 | sc (E : Env) (v : Value) : bC E (.sc v) v
 | agg (E : Env) (cs : List V) (xs : Array Value) (hl : cs.length = xs.size) (h : ∀ (i : Nat) (c : V) (x : Value), cs[i]? = some c → xs[i]? = some x → bC E c x) : bC E (.agg cs) (.agg xs)
 | slice (E : Env) (rows : List V) (a : Option Addr) (cap oZ : Nat) (ad : Addr) (xf : Nat → Nat → Value) (ha : rows ≠ [] → a = some ad) (jU : rows.length ≤ cap)
   (hs : ∀ (i : Nat) (row : V), rows[i]? = some row → row.cells.length = oZ)
   (hF : ∀ (i : Nat) (row : V) (j : Nat) (c : V), rows[i]? = some row → row.cells[j]? = some c → E.F (ad.add (i * oZ + j)) = some (xf i j))
   (h1 : ∀ (i : Nat) (row : V) (j : Nat) (c : V), rows[i]? = some row → row.cells[j]? = some c → (xf i j).oneCell' = true)
   (h : ∀ (i : Nat) (row : V) (j : Nat) (c : V), rows[i]? = some row → row.cells[j]? = some c → bC E.pure c (xf i j)) : bC E (.slice rows) (.slice a rows.length cap)
 | ms (E : Env) (b v s l g e c : Nat) (a : Option Addr) (cap : Nat) (hb : E.bd b v = some (g, e, c)) (hl : 0 < l → a = some ⟨g, s * e, none⟩) (h0 : s = 0 → a = some ⟨g, 0, none⟩ ∧ cap = c) (hc : l ≤ cap ∧ s + cap = c ∧ (0 < cap → a = some ⟨g, s * e, none⟩)) :
   bC E (.ms b v s l) (.slice a l cap)
 | eN (E : Env) (b v s : Nat) : bC E (.ms b v s 0) (.slice none 0 0)
 | ptr (E : Env) (b o g e c : Nat) (hb : E.bd b 0 = some (g, e, c)) : bC E (.ptr b o) (.pointer (some ⟨g, o, none⟩))
 | dZ (E : Env) (b v i o g e c : Nat) (hb : E.bd b v = some (g, e, c)) : bC E (.dZ b v i o) (.pointer (some ⟨g, i * e + o, none⟩))
 | cH (E : Env) (cs : List V) (ad : Addr) (xf : Nat → Value) (hF : ∀ (j : Nat) (c : V), cs[j]? = some c → E.F (ad.add j) = some (xf j)) (h : ∀ (j : Nat) (c : V), cs[j]? = some c → bC E.pure c (xf j)) :
   bC E (.cH cs) (.pointer (some ad))
 | bp (E : Env) (f : Fn) (first cap : List V) (xs ys : Array Value) (hx : first.length = xs.size) (hy : cap.length = ys.size)
   (h1 : ∀ (i : Nat) (c : V) (x : Value), first[i]? = some c → xs[i]? = some x → bC E c x) (h2 : ∀ (i : Nat) (c : V) (x : Value), cap[i]? = some c → ys[i]? = some x → bC E c x) : bC E (.bp f first cap) (.func f xs ys)
 | fP (E : Env) (b l e c : Nat) (hb : E.bd b 0 = some (l, e, c)) : bC E (.fP b) (.func (.yield l) #[] #[])
 | mp (E : Env) (b l e c : Nat) (hb : E.bd b 0 = some (l, e, c)) : bC E (.mp b) (.map (some l))
 | gn (E : Env) : bC E .gn (.int .i64 aA.n)
 | full (E : Env) (rows : List V) (a : Option Addr) (h : bC E (.slice rows) (.slice a rows.length rows.length)) : bC E (.full rows) (.slice a rows.length rows.length)
 | cC (E : Env) (vs : List V) (xs : Array Value) (hl : vs.length = xs.size) (h : ∀ (i : Nat) (c : V) (x : Value), vs[i]? = some c → xs[i]? = some x → bC E c x) : bC E (.cC vs) (.tuple xs)

def bo (E : Env) (vs : List V) (xs : List Value) : Prop := vs.length = xs.length ∧ ∀ (i : Nat) (v : V) (x : Value), vs[i]? = some v → xs[i]? = some x → bC E v x

theorem Env.E4 {a b : Env} (h1 : a.F = b.F) (h2 : a.bd = b.bd) : a = b := by
 cases a; cases b; dsimp only at h1 h2; subst h1; subst h2; rfl

structure Env.le (E E' : Env) : Prop where
 F : ∀ ad x, E.F ad = some x → E'.F ad = some x
 bd : ∀ b v t, E.bd b v = some t → E'.bd b v = some t

theorem Env.le_refl (E : Env) : E.le E := ⟨fun _ _ h => h, fun _ _ _ h => h⟩
theorem Env.le_trans {a b c : Env} (h : a.le b) (k : b.le c) : a.le c := ⟨fun ad x hx => k.F _ _ (h.F _ _ hx), fun b v t hx => k.bd _ _ _ (h.bd _ _ _ hx)⟩
theorem Env.gL {a b : Env} (h : a.le b) : a.pure.le b.pure := ⟨h.F, fun _ _ _ h => h⟩
theorem Env.nY (a : Env) : a.pure.le a := ⟨fun _ _ h => h, fun _ _ _ h => by simp [Env.pure] at h⟩

theorem bC.mono {E E' : Env} {v : V} {x : Value} (h : bC E v x) (hle : E.le E') : bC E' v x := by
 induction h generalizing E' with
 | undef => exact .undef _ _
 | sc => exact .sc _ _
 | agg E cs xs hl h ih => exact .agg _ _ _ hl fun i c x hc hx => ih i c x hc hx hle
 | slice E rows a cap oZ ad xf ha jU hs hF h1 h ih => exact .slice _ _ _ _ oZ ad xf ha jU hs (fun i row j c hi hj => hle.F _ _ (hF i row j c hi hj)) h1 fun i row j c hi hj => ih i row j c hi hj (Env.gL hle)
 | ms E b v s l g e c a cap hb hl h0 hc => exact .ms _ _ _ _ _ g e c _ _ (hle.bd _ _ _ hb) hl h0 hc
 | eN E b v s => exact .eN _ _ _ _
 | ptr E b o g e c hb => exact .ptr _ _ _ g e c (hle.bd _ _ _ hb)
 | dZ E b v i o g e c hb => exact .dZ _ _ _ _ _ g e c (hle.bd _ _ _ hb)
 | cH E cs ad xf hF h ih => exact .cH _ _ _ xf (fun j c hj => hle.F _ _ (hF j c hj)) fun j c hj => ih j c hj (Env.gL hle)
 | bp E f first cap xs ys hx hy h1 h2 O0 O1 => exact .bp _ _ _ _ _ _ hx hy (fun i c x hc hx => O0 i c x hc hx hle) fun i c x hc hx => O1 i c x hc hx hle
 | fP E b l e c hb => exact .fP _ _ l e c (hle.bd _ _ _ hb)
 | mp E b l e c hb => exact .mp _ _ l e c (hle.bd _ _ _ hb)
 | gn E => exact .gn _
 | full E rows a h ih => exact .full _ _ _ (ih hle)
 | cC E vs xs hl h ih => exact .cC _ _ _ hl fun i c x hc hx => ih i c x hc hx hle

theorem bo.mono {E E' : Env} {vs : List V} {xs : List Value} (h : bo E vs xs) (hle : E.le E') : bo E' vs xs :=
 ⟨h.1, fun i v x hv hx => (h.2 i v x hv hx).mono hle⟩
theorem bo.nil (E : Env) : bo E [] [] := ⟨rfl, fun i v x h => by simp at h⟩
theorem bo.cons {E : Env} {v : V} {x : Value} {vs : List V} {xs : List Value} (h : bC E v x) (hs : bo E vs xs) : bo E (v :: vs) (x :: xs) := by
 refine ⟨by simp [hs.1], fun i => ?_⟩
 cases i with
 | zero => intro v' x' hv hx; simp at hv hx; subst hv; subst hx; exact h
 | succ i => intro v' x' hv hx; simp at hv hx; exact hs.2 i v' x' hv hx
theorem bo.of_cons {E : Env} {v : V} {vs : List V} {xs : List Value} (h : bo E (v :: vs) xs) : ∃ x ys, xs = x :: ys ∧ bC E v x ∧ bo E vs ys := by
 cases xs with
 | nil => have := h.1; simp at this
 | cons x ys => exact ⟨x, ys, rfl, h.2 0 v x rfl rfl, by have := h.1; simpa using this, fun i v' x' hv hx => h.2 (i + 1) v' x' (by simpa using hv) (by simpa using hx)⟩
theorem bo.of_nil {E : Env} {xs : List Value} (h : bo E [] xs) : xs = [] := by
 have := h.1; simp at this; exact List.length_eq_zero_iff.1 this.symm
theorem bo.append {E : Env} {vs us : List V} {xs ys : List Value} (h : bo E vs xs) (k : bo E us ys) : bo E (vs ++ us) (xs ++ ys) := by
 refine ⟨by simp [h.1, k.1], fun i v x hv hx => ?_⟩
 by_cases hi : i < vs.length
 ·rw [List.getElem?_append_left hi] at hv; rw [List.getElem?_append_left (h.1 ▸ hi)] at hx; exact h.2 i v x hv hx
 ·rw [List.getElem?_append_right (by omega)] at hv; rw [List.getElem?_append_right (by have := h.1; omega), ← h.1] at hx; exact k.2 _ v x hv hx
theorem bo.get {E : Env} {vs : List V} {xs : List Value} (h : bo E vs xs) {i : Nat} {v : V} (hv : vs[i]? = some v) : ∃ x, xs[i]? = some x ∧ bC E v x := by
 have hi : i < xs.length := by rw [← h.1]; exact (List.getElem?_eq_some_iff.1 hv).1
 exact ⟨xs[i], List.getElem?_eq_getElem hi, h.2 i v _ hv (List.getElem?_eq_getElem hi)⟩
theorem bo.drop {E : Env} {vs : List V} {xs : List Value} (h : bo E vs xs) (n : Nat) : bo E (vs.drop n) (xs.drop n) :=
 ⟨by simp [h.1], fun i v x hv hx => h.2 (n + i) v x (by simpa using hv) (by simpa using hx)⟩
theorem bo.take {E : Env} {vs : List V} {xs : List Value} (h : bo E vs xs) (n : Nat) : bo E (vs.take n) (xs.take n) := by
 refine ⟨by simp [h.1], fun i v x hv hx => ?_⟩
 have hi : i < n := by
  by_cases hi : i < n
  ·exact hi
  ·rw [List.getElem?_take] at hv; simp [hi] at hv
 rw [List.getElem?_take_of_lt hi] at hv hx
 exact h.2 i v x hv hx
theorem bo.set {E : Env} {vs : List V} {xs : List Value} (h : bo E vs xs) (n : Nat) {v : V} {x : Value} (hv : bC E v x) : bo E (vs.set n v) (xs.set n x) := by
 refine ⟨by simp [h.1], fun i v' x' tK Li => ?_⟩
 by_cases hi : n = i
 ·subst hi
  rw [List.getElem?_set] at tK Li
  simp only [if_true] at tK Li
  split at tK
  ·split at Li
   ·simp at tK Li; subst tK; subst Li; exact hv
   ·simp at Li
  ·simp at tK
 ·rw [List.getElem?_set_ne hi] at tK Li; exact h.2 i v' x' tK Li

theorem bC.cells {E : Env} {v : V} {x : Value} (h : bC E v x) (hu : v ≠ .undef) (hs : ∀ y, v = .sc y → ∀ cs, y ≠ .agg cs) : bo E v.cells x.cells.toList := by
 cases h with
 | undef => exact absurd rfl hu
 | sc =>
  have : x.cells = #[x] := by
   have := hs x rfl
   cases x <;> simp [Value.cells] at this ⊢
  simp only [V.cells,this]; exact .cons (.sc _ _) (.nil _)
 | agg _ cs xs hl h => exact ⟨by simpa [V.cells, Value.cells] using hl, fun i c x hc hx => h i c x hc (by simpa [Value.cells] using hx)⟩
 | slice _ rows a cap oZ ad xf ha jU hz hF h1 h => exact .cons (.slice _ _ _ _ oZ ad xf ha jU hz hF h1 h) (.nil _)
 | ms _ b v s l g e c a cap hb hl h0 hc => exact .cons (.ms _ _ _ _ _ g e c _ _ hb hl h0 hc) (.nil _)
 | eN _ b v s => exact .cons (.eN _ _ _ _) (.nil _)
 | ptr _ b o g e c hb => exact .cons (.ptr _ _ _ g e c hb) (.nil _)
 | dZ _ b v i o g e c hb => exact .cons (.dZ _ _ _ _ _ g e c hb) (.nil _)
 | cH _ cs ad xf hF h => exact .cons (.cH _ _ _ xf hF h) (.nil _)
 | bp _ f first cap xs ys hx hy h1 h2 => exact .cons (.bp _ _ _ _ _ _ hx hy h1 h2) (.nil _)
 | fP _ b l e c hb => exact .cons (.fP _ _ l e c hb) (.nil _)
 | mp _ b l e c hb => exact .cons (.mp _ _ l e c hb) (.nil _)
 | gn => exact .cons (.gn _) (.nil _)
 | full _ rows a h => exact .cons (.full _ _ _ h) (.nil _)
 | cC _ vs xs hl h => exact .cons (.cC _ _ _ hl h) (.nil _)
end Go.Eng
end

section
namespace Go.Eng
variable [aA]

structure Ti where
 size : Nat
 agg : Bool
 zero : List Value
 aJ : List (Nat × Nat) := []
 elem : Option TypeId := none
 bytes : Nat := 0
 deriving Inhabited

abbrev Table := TypeId → Option Ti

structure TT (P : Program) (tt : Table) : Prop where
 size : ∀ t i, tt t = some i → ∃ info, P.info? t = some info ∧ info.size = i.size ∧ info.bytes = i.bytes ∧ ∃ z, info.zero = some z ∧ z.cells.toList = i.zero
 desc : ∀ t i, tt t = some i → ∃ d, P.underlying t = some d ∧ (i.agg = true ↔ ((∃ fs, d = .struct fs) ∨ ∃ n e, d = .array n e)) ∧
  (∀ e, i.elem = some e → d = .slice e) ∧
  (∀ (f off sz : Nat), i.aJ[f]? = some (off, sz) → ∃ fs fd inf, d = .struct fs ∧ fs.size = i.aJ.length ∧ fs[f]? = some fd ∧ fd.offset = off ∧ P.info? fd.type = some inf ∧ inf.size = sz ∧ sz ≠ 0)

def b8 {α : Type} (P : Program) : Sem α → Option α
 | .pure a => some a
 | .program k => b8 P (k P)
 | .mark _ k => b8 P k
 | _ => none

theorem dD {α : Type} {P : Program} (s : Sem α) {v : α} (h : b8 P s = some v) (w : World) : s.run P w = .ok v w := by
 induction s with
 | pure a => simp [b8] at h; subst h; rfl
 | program k ih => exact ih P h
 | mark m k ih => exact ih h
 | _ => simp [b8] at h

def gO : Value → V
 | .agg cs => .agg (cs.toList.map V.sc)
 | .tuple vs => .cC (vs.toList.map V.sc)
 | v => .sc v

theorem j6 (E : Env) (cs : Array Value) (i : Nat) (c : V) (x : Value) (hc : (cs.toList.map V.sc)[i]? = some c) (hx : cs[i]? = some x) : bC E c x := by
 simp only [List.getElem?_map,Array.getElem?_toList,hx,Option.map_some,Option.some.injEq] at hc
 subst hc; exact .sc _ _
theorem gC (E : Env) (v : Value) : bC E (gO v) v := by
 cases v with
 | agg cs => exact .agg _ _ _ (by simp) (j6 E cs)
 | tuple cs => exact .cC _ _ _ (by simp) (j6 E cs)
 | _ => exact .sc _ _

inductive aC where
 | hole
 | dead
 | box (cs : List V)
 | rows (v e : Nat) (rs : List V)
 | pV (v e : Nat) (rs : List V)
 | loop (s : LoopState) (jV : Option Code) (fr : List V) (params : Array Tmp) (assign body : Code)
 | map (bV : List (Value × Nat × V)) (clock : Nat)
 | fh (m since : Nat) (seen : List Nat) (last : Nat)
 | jP (s : ByteArray) (pos : Nat)
 | j7
 deriving Inhabited

structure St where
 fr : List V
 mem : List aC

def St.eval (st : St) : Operand → V
 | .tmp t => st.fr.getD t .undef
 | .const v => gO v
 | .global g => if aA.g = some g then .cH [.gn] else match aA.OZ g with | some cs => .cH (cs.map V.sc) | none => .undef
 | .func f => .sc (.func (.func f) #[] #[])

def St.put (st : St) (dst : Option Tmp) (v : V) : St :=
 match dst with
 | some d => { st with fr := st.fr.set d v }
 | none => st

def iX (E : Env) (e : Nat) (rs : List V) (at_ : Nat → Option Value) : Prop :=
 ∀ (i : Nat) (row : V), rs[i]? = some row → row.cells.length = e ∧ ∀ (j : Nat) (c : V), row.cells[j]? = some c → ∃ x, at_ (i * e + j) = some x ∧ x.oneCell' = true ∧ bC E c x

def dw (E : Env) (bV : List (Value × Nat × V)) (es : List MapEntry) : Prop :=
 bV.length = es.length ∧ ∀ (i : Nat) (k : Value × Nat × V) (e : MapEntry), bV[i]? = some k → es[i]? = some e → e.key = k.1 ∧ e.born = k.2.1 ∧ bC E k.2.2 e.val
theorem dw.mono {E E' : Env} {bV : List (Value × Nat × V)} {es : List MapEntry} (h : dw E bV es) (hle : E.le E') : dw E' bV es :=
 ⟨h.1, fun i k e hk he => let ⟨h1, h2, h3⟩ := h.2 i k e hk he; ⟨h1, h2, h3.mono hle⟩⟩

def j8 (E : Env) (w : World) (k : Nat) : aC → Prop
 | .hole => ∀ v, E.bd k v = none
 | .dead => True
 | .box cs => ∃ g T xs, E.bd k 0 = some (g, 0, 0) ∧ w.heap[g]? = some (.cells xs T (0, 0)) ∧ bo E cs xs.toList ∧ ∀ o, E.F ⟨g, o, none⟩ = none
 | .rows v e rs => (rs = [] ∧ E.bd k v = none) ∨ ∃ g T xs c, E.bd k v = some (g, e, c) ∧ w.heap[g]? = some (.cells xs T (0, 0)) ∧ xs.size = c * e ∧ rs.length ≤ c ∧ iX E.pure e rs (fun o => xs[o]?) ∧ ∀ o, E.F ⟨g, o, none⟩ = none
 | .pV v e rs => (rs = [] ∧ E.bd k v = none) ∨ ∃ g c, E.bd k v = some (g, e, c) ∧ rs.length ≤ c ∧ iX E.pure e rs (fun o => E.F ⟨g, o, none⟩)
 | .loop s jV fr params assign body => ∃ l fn tmps db, E.bd k 0 = some (l, 0, 0) ∧ w.heap[l]? = some (.loop { state := s, pending := jV, fn := fn, tmps := tmps, params := params, assign := assign, body := body, defers := db }) ∧ bo E fr tmps.toList ∧ ∀ o, E.F ⟨l, o, none⟩ = none

 | .map bV clock => ∃ g es, E.bd k 0 = some (g, 0, 0) ∧ w.heap[g]? = some (.map es clock) ∧ dw E bV es.toList ∧ ∀ o, E.F ⟨g, o, none⟩ = none
 | .fh m since seen last => ∃ g gm e c, E.bd k 0 = some (g, 0, 0) ∧ E.bd m 0 = some (gm, e, c) ∧ w.heap[g]? = some (.mapIter (some gm) since seen.toArray last) ∧ ∀ o, E.F ⟨g, o, none⟩ = none
 | .jP s pos => ∃ g, E.bd k 0 = some (g, 0, 0) ∧ w.heap[g]? = some (.stringIter s pos) ∧ ∀ o, E.F ⟨g, o, none⟩ = none
 | .j7 => ∃ g, E.bd k 0 = some (g, 0, 0) ∧ w.heap[g]? = some (.mapIter none 0 #[] 0) ∧ ∀ o, E.F ⟨g, o, none⟩ = none

def aC.b7 : aC → Nat
 | .rows v _ _ => v
 | .pV v _ _ => v
 | _ => 0
def aC.held : aC → Bool
 | .hole | .dead => false
 | _ => true

structure bH (E : Env) (w : World) (a : Act) (st : St) : Prop where
 F : ∀ ad x, E.F ad = some x → w.cell? ad = some x
 lt : ∀ k v g e c, E.bd k v = some (g, e, c) → g < w.heap.size
 mem : ∀ k B, st.mem[k]? = some B → j8 E w k B
 top : ∀ k, st.mem.length ≤ k → ∀ v, E.bd k v = none
 b7 : ∀ k B, st.mem[k]? = some B → ∀ v, B.b7 < v → E.bd k v = none
 apart : ∀ k k' v v' g e c e' c', E.bd k v = some (g, e, c) → E.bd k' v' = some (g, e', c') → k = k'
 fr : bo E st.fr a.tmps.toList

theorem bH.eval {E : Env} {w : World} {a : Act} {st : St} (h : bH E w a st) (x : Operand) : bC E (st.eval x) (a.eval x) := by
 cases x with
 | tmp t =>
  simp only [St.eval,Act.eval]
  cases hv : st.fr[t]? with
  | none => rw [List.getD_eq_getElem?_getD, hv]; exact .undef _ _
  | some v =>
   obtain ⟨x, hx, hr⟩ := h.fr.get hv
   rw [List.getD_eq_getElem?_getD, hv, Array.getD_eq_getD_getElem?]
   simp only [Array.getElem?_toList] at hx
   rw [hx]; exact hr
 | const v => exact gC E v
 | global g =>
  simp only [St.eval,Act.eval]
  split
  ·rename_i hg
   refine .cH _ _ _ (fun _ => .int .i64 aA.n) (fun j c hc => ?_) fun j c hc => ?_
   ·match j with
    | 0 => exact E.gl.n g hg
    | j + 1 => simp at hc
   ·match j with
    | 0 => simp at hc; subst hc; exact .gn _
    | j + 1 => simp at hc
  ·split
   ·rename_i cs xp
    refine .cH _ _ _ (fun j => (cs[j]?).getD undef) (fun j c hc => ?_) fun j c hc => ?_
    ·simp only [List.getElem?_map,Option.map_eq_some_iff] at hc
     obtain ⟨x, hx, rfl⟩ := hc
     have h1 : (Addr.mk g 0 none).add j = ⟨g, j, none⟩ := by unfold Addr.add; by_cases hj : j = 0 <;> simp [hj]
     rw [h1, hx]
     exact E.gl.t g cs j x xp hx
    ·simp only [List.getElem?_map,Option.map_eq_some_iff] at hc
     obtain ⟨x, hx, rfl⟩ := hc
     rw [hx]; exact .sc _ _
   ·exact .undef _ _
 | func f => exact .sc _ _

structure ec (E : Env) (w : World) (E' : Env) (w' : World) : Prop where
 le : E.le E'
 bd : ∀ k v g e c, E'.bd k v = some (g, e, c) → (∃ k0 v0 e0 c0, E.bd k0 v0 = some (g, e0, c0)) ∨ w.heap.size ≤ g
 F : ∀ ad x, E'.F ad = some x → E.F ad = some x ∨ w.heap.size ≤ ad.block ∨ ∃ k0 v0 e0 c0, E.bd k0 v0 = some (ad.block, e0, c0)
 os : w'.os = w.os
 tape : w'.tape = w.tape
 output : w'.output = w.output
 size : w.heap.size ≤ w'.heap.size
 heap : ∀ b, b < w.heap.size → (∀ k v e c, E.bd k v ≠ some (b, e, c)) → w'.heap[b]? = w.heap[b]?

theorem ec.refl (E : Env) (w : World) : ec E w E w :=
 ⟨E.le_refl, fun k v g e c h => .inl ⟨k, v, e, c, h⟩, fun _ _ h => .inl h, rfl, rfl, rfl, Nat.le_refl _, fun _ _ _ => rfl⟩
theorem ec.trans {E E1 E2 : Env} {w w1 w2 : World} (h : ec E w E1 w1) (k : ec E1 w1 E2 w2) : ec E w E2 w2 := by
 refine ⟨Env.le_trans h.le k.le, ?_, ?_, k.os.trans h.os, k.tape.trans h.tape, k.output.trans h.output, Nat.le_trans h.size k.size, ?_⟩
 ·intro q v g e c hq
  rcases k.bd q v g e c hq with ⟨k0, v0, e0, c0, h0⟩ | h0
  ·exact h.bd _ _ _ _ _ h0
  ·exact .inr (Nat.le_trans h.size h0)
 ·intro ad x hx
  rcases k.F ad x hx with h0 | h0 | ⟨k0, v0, e0, c0, h0⟩
  ·exact h.F _ _ h0
  ·exact .inr (.inl (Nat.le_trans h.size h0))
  ·rcases h.bd _ _ _ _ _ h0 with h1 | h1
   ·exact .inr (.inr h1)
   ·exact .inr (.inl h1)
 ·intro b hb ch
  rw [k.heap b (Nat.lt_of_lt_of_le hb h.size) ?_, h.heap b hb ch]
  intro q v e c hq
  rcases h.bd _ _ _ _ _ hq with ⟨k0, v0, e0, c0, h0⟩ | h0
  ·exact ch _ _ _ _ h0
  ·omega
theorem ec.drew (E : Env) (w : World) : ec E w E w.drew :=
 ⟨E.le_refl, fun k v g e c h => .inl ⟨k, v, e, c, h⟩, fun _ _ h => .inl h, rfl, rfl, rfl, Nat.le_refl _, fun _ _ _ => rfl⟩
theorem bH.drew {E : Env} {w : World} {a : Act} {st : St} (h : bH E w a st) : bH E w.drew a st :=
 ⟨h.F, h.lt, fun k B hB => by have := h.mem k B hB; cases B <;> exact this, h.top, h.b7, h.apart, h.fr⟩

theorem bH.put {E : Env} {w : World} {a : Act} {st : St} (h : bH E w a st) (dst : Option Tmp) {v : V} {x : Value} (hr : bC E v x) : bH E w (a.put dst x) (st.put dst v) := by
 cases dst with
 | none => exact h
 | some d => exact ⟨h.F, h.lt, h.mem, h.top, h.b7, h.apart, by simpa [St.put, Act.put] using h.fr.set d hr⟩
def fA (tt : Table) (T : TypeId) (cs : List V) : Option V :=
 match tt T with
 | some i => if i.agg then (if i.size ≤ cs.length then some (.agg (cs.take i.size)) else none) else cs.head?
 | none => none

def rowOf (mem : List aC) (b v i : Nat) : Option V :=
 match mem[b]? with
 | some (.rows v' _ rs) => if v' = v then rs[i]? else none
 | some (.pV v' _ rs) => if v' = v then rs[i]? else none
 | _ => none

def mB (tt : Table) (mem : List aC) (T : TypeId) : V → Option V
 | .ptr b o => match mem[b]? with | some (.box cs) => fA tt T (cs.drop o) | _ => none
 | .dZ b v i o => match rowOf mem b v i with | some row => fA tt T (row.cells.drop o) | none => none
 | .cH cs => fA tt T cs
 | _ => none

def LK (tt : Table) (S : TypeId) (f : Nat) : Option Nat := match tt S with | some i => (match i.aJ[f]? with | some p => some p.1 | none => none) | none => none
def eX (tt : Table) (T : TypeId) : Option TypeId := match tt T with | some i => i.elem | none => none
def kD (tt : Table) (T : TypeId) : Option Nat := match tt T with | some i => some i.size | none => none

def fieldAt (off : Nat) : V → Option V
 | .ptr b o => some (.ptr b (o + off))
 | .dZ b v i o => some (.dZ b v i (o + off))
 | .cH cs => some (.cH (cs.drop off))
 | _ => none
def xq (tt : Table) (S : TypeId) (f : Nat) (x : V) : Option V := match LK tt S f with | some off => fieldAt off x | none => none

def iY (mem : List aC) (b v : Nat) : Option Nat :=
 match mem[b]? with
 | some (.rows v' e _) => if v' = v then some e else none
 | some (.pV v' e _) => if v' = v then some e else none
 | _ => none

def indexAt (mem : List aC) (size : Nat) (n : Int) : V → Option V
 | .slice rows => if 0 ≤ n then (match rows[n.toNat]? with | some row => if row.cells.length = size then some (.cH row.cells) else none | none => none) else none
 | .ms b v s l => if 0 ≤ n ∧ n < l ∧ iY mem b v = some size then some (.dZ b v (s + n.toNat) 0) else none
 | _ => none
def j9 (tt : Table) (mem : List aC) (T : TypeId) (x i : V) : Option V :=
 match i with
 | .sc (.int _ n) => match eX tt T with
  | some e => match kD tt e with
   | some size => indexAt mem size n x
   | none => none
  | none => none
 | _ => none

theorem add_add (a : Addr) (m n : Nat) : (a.add m).add n = a.add (m + n) := by
 unfold Addr.add
 by_cases hm : m = 0 <;> by_cases hn : n = 0 <;> simp [hm, hn, Nat.add_assoc]
theorem add_lit (b o n : Nat) : (Addr.mk b o none).add n = ⟨b, o + n, none⟩ := by
 unfold Addr.add; by_cases hn : n = 0 <;> simp [hn]

theorem aG {P : Program} {t : TypeId} {d : TypeDesc} (h : P.underlying t = some d) (w : World) : (underlying t).run P w = .ok d w := by
 simp [underlying, h]
theorem dK {P : Program} {t : TypeId} {i : TypeInfo} (h : P.info? t = some i) (w : World) : (typeInfo t).run P w = .ok i w := by
 simp [typeInfo, h]
theorem ee {P : Program} {t : TypeId} {i : TypeInfo} (h : P.info? t = some i) (w : World) : (sizeOf t).run P w = .ok i.size w := by
 simp [sizeOf, dK h]
theorem TT.isAgg {P : Program} {tt : Table} (h : TT P tt) {t : TypeId} {i : Ti} (ht : tt t = some i) (w : World) : (isAgg t).run P w = .ok i.agg w := by
 obtain ⟨d, hd, ha, -⟩ := h.desc t i ht
 simp only [Go.isAgg,Sem.run_bind,aG hd,Result.andThen_ok]
 cases hi : i.agg with
 | true =>
  rcases ha.1 hi with ⟨fs, rfl⟩ | ⟨n, e, rfl⟩ <;> rfl
 | false =>
  have : ¬ ((∃ fs, d = .struct fs) ∨ ∃ n e, d = .array n e) := fun hh => by rw [ha.2 hh] at hi; cases hi
  cases d <;> first | rfl | (exfalso; apply this; first | exact .inl ⟨_, rfl⟩ | exact .inr ⟨_, _, rfl⟩)
theorem TT.sizeOf {P : Program} {tt : Table} (h : TT P tt) {t : TypeId} {i : Ti} (ht : tt t = some i) (w : World) : (Go.sizeOf t).run P w = .ok i.size w := by
 obtain ⟨info, h1, h2, -⟩ := h.size t i ht
 rw [ee h1, h2]

def kE (E : Env) (w : World) (ad : Addr) (cs : List V) : Prop := ∀ (j : Nat) (c : V), cs[j]? = some c → ∃ x, w.cell? (ad.add j) = some x ∧ bC E c x
theorem kE.drop {E : Env} {w : World} {ad : Addr} {cs : List V} (h : kE E w ad cs) (n : Nat) : kE E w (ad.add n) (cs.drop n) := fun j c hc => by
 rw [add_add]; exact h _ _ (by simpa using hc)

theorem td {P : Program} {tt : Table} (ht : TT P tt) {E : Env} {w : World} {ad : Addr} {cs : List V} {T : TypeId} {v : V} (h : kE E w ad cs) (hp : fA tt T cs = some v) :
  ∃ x, (loadVar T ad).run P w = .ok x w ∧ bC E v x := by
 unfold fA at hp
 cases hi : tt T with
 | none => rw [hi] at hp; simp at hp
 | some i =>
  rw [hi] at hp; simp only at hp
  cases ha : i.agg with
  | false =>
   simp only [ha,Bool.false_eq_true,if_false] at hp
   obtain ⟨x, hx, hr⟩ := h 0 v (by simpa [List.head?_eq_getElem?] using hp)
   have h0 : ad.add 0 = ad := by simp [Addr.add]
   rw [h0] at hx
   refine ⟨x, ?_, hr⟩
   simp [loadVar, ht.isAgg hi, ha, hx]
  | true =>
   simp only [ha,if_true] at hp
   split at hp
   ·rename_i hle
    simp only [Option.some.injEq] at hp; subst hp
    have hx : ∀ j, j < i.size → ∃ x, w.cell? (ad.add j) = some x ∧ ∀ c, cs[j]? = some c → bC E c x := fun j hj => by
     have BT : j < cs.length := by omega
     obtain ⟨x, hx, hr⟩ := h j _ (List.getElem?_eq_getElem BT)
     exact ⟨x, hx, fun c hc => by rw [List.getElem?_eq_getElem BT] at hc; cases hc; exact hr⟩
    let f : Nat → Value := fun j => (w.cell? (ad.add j)).getD default
    have hf : ∀ j, j < i.size → w.cell? (ad.add j) = some (f j) := fun j hj => by
     obtain ⟨x, hx, -⟩ := hx j hj
     simp [f, hx]
    refine ⟨.agg ((List.range i.size).map f).toArray, ?_, ?_⟩
    ·simp only [loadVar,Sem.run_bind,ht.isAgg hi,Result.andThen_ok,ha,if_true,ht.sizeOf hi]
     rw [run_loadCells w ad i.size f hf]
     simp
    ·refine .agg _ _ _ (by simp; omega) fun j c x hc hxx => ?_
     have hj : j < i.size := by
      by_cases hj : j < i.size
      ·exact hj
      ·rw [List.getElem?_take] at hc; simp [hj] at hc
     rw [List.getElem?_take_of_lt hj] at hc
     obtain ⟨y, hy, hr⟩ := hx j hj
     simp [hj] at hxx
     rw [← hxx]
     have : f j = y := by simp [f, hy]
     rw [this]; exact hr c hc
   ·simp at hp

theorem Cb {E : Env} {w : World} (hF : ∀ ad x, E.F ad = some x → w.cell? ad = some x) {cs : List V} {x : Value} (h : bC E (.cH cs) x) : ∃ ad, x = .pointer (some ad) ∧ kE E w ad cs := by
 cases h with
 | cH _ _ ad xf hf hr => exact ⟨ad, rfl, fun j c hc => ⟨xf j, hF _ _ (hf j c hc), (hr j c hc).mono E.nY⟩⟩

theorem kF {w : World} {g : Nat} {xs : Array Value} {T : TypeId} {fz : Nat × Nat} (h : w.heap[g]? = some (.cells xs T fz)) (o : Nat) : w.cell? ⟨g, o, none⟩ = xs[o]? := by
 simp [World.cell?, h]

theorem E5 {E : Env} {w : World} {a : Act} {st : St} (hs : bH E w a st) {b o : Nat} {cs : List V} (hm : st.mem[b]? = some (.box cs)) {x : Value} (h : bC E (.ptr b o) x) :
  ∃ ad, x = .pointer (some ad) ∧ kE E w ad (cs.drop o) := by
 cases h with
 | ptr _ _ _ g e c hb =>
  obtain ⟨g', T, xs, gu, hh, hr, -⟩ := hs.mem b _ hm
  rw [hb] at gu; cases gu
  refine ⟨_, rfl, fun j c hc => ?_⟩
  rw [add_lit, kF hh]
  obtain ⟨y, hy, Hb⟩ := hr.get (i := o + j) (by simpa using hc)
  exact ⟨y, by simpa using hy, Hb⟩

theorem Cc {E : Env} {w : World} {a : Act} {st : St} (hs : bH E w a st) {b v i o : Nat} {row : V} (hm : rowOf st.mem b v i = some row) {x : Value} (h : bC E (.dZ b v i o) x) :
  ∃ ad, x = .pointer (some ad) ∧ kE E w ad (row.cells.drop o) := by
 cases h with
 | dZ _ _ _ _ _ g e c hb =>
  refine ⟨_, rfl, fun j cc hc => ?_⟩
  rw [add_lit]
  have hc' : row.cells[o + j]? = some cc := by simpa using hc
  unfold rowOf at hm
  split at hm
  ·rename_i v' e' rs hk
   split at hm
   ·rename_i hv
    subst hv
    rcases hs.mem b _ hk with ⟨rfl, -⟩ | ⟨g', T, xs, c', gu, hh, -, -, hr, -⟩
    ·simp at hm
    rw [hb] at gu; cases gu
    obtain ⟨-, h2⟩ := hr i row hm
    obtain ⟨y, hy, -, Hb⟩ := h2 _ _ hc'
    exact ⟨y, by rw [kF hh, Nat.add_assoc]; exact hy, Hb.mono E.nY⟩
   ·cases hm
  ·rename_i v' e' rs hk
   split at hm
   ·rename_i hv
    subst hv
    rcases hs.mem b _ hk with ⟨rfl, -⟩ | ⟨g', c', gu, -, hr⟩
    ·simp at hm
    rw [hb] at gu; cases gu
    obtain ⟨-, h2⟩ := hr i row hm
    obtain ⟨y, hy, -, Hb⟩ := h2 _ _ hc'
    exact ⟨y, hs.F _ _ (by rw [Nat.add_assoc]; exact hy), Hb.mono E.nY⟩
   ·cases hm
  ·simp at hm

theorem sn {P : Program} {tt : Table} (ht : TT P tt) {E : Env} {w : World} {a : Act} {st : St} (hs : bH E w a st) {T : TypeId} {p v : V} {x : Value} (hr : bC E p x) (h : mB tt st.mem T p = some v) :
  ∃ y, (Instr.loadAt T x).run P w = .ok y w ∧ bC E v y := by
 have key : ∃ ad cs, x = .pointer (some ad) ∧ kE E w ad cs ∧ fA tt T cs = some v := by
  unfold mB at h
  split at h
  ·split at h
   ·rename_i hm
    obtain ⟨ad, h1, h2⟩ := E5 hs hm hr
    exact ⟨ad, _, h1, h2, h⟩
   ·simp at h
  ·split at h
   ·rename_i hm
    obtain ⟨ad, h1, h2⟩ := Cc hs hm hr
    exact ⟨ad, _, h1, h2, h⟩
   ·simp at h
  ·obtain ⟨ad, h1, h2⟩ := Cb hs.F hr
   exact ⟨ad, _, h1, h2, h⟩
  ·simp at h
 obtain ⟨ad, cs, rfl, hc, hp⟩ := key
 obtain ⟨y, hy, Hb⟩ := td ht hc hp
 exact ⟨y, by simp [Instr.loadAt, Instr.sureAddr, hy], Hb⟩

theorem xr {P : Program} {tt : Table} (ht : TT P tt) {E : Env} {S : TypeId} {f : Nat} {p v : V} {x : Value} (hr : bC E p x) (h : xq tt S f p = some v) (w : World) :
  ∃ y, (Instr.fieldAt S x f).run P w = .ok y w ∧ bC E v y := by
 unfold xq LK at h
 cases hi : tt S with
 | none => rw [hi] at h; simp at h
 | some i =>
  rw [hi] at h; simp only at h
  cases ho : i.aJ[f]? with
  | none => rw [ho] at h; simp at h
  | some off =>
   rw [ho] at h; simp only at h
   obtain ⟨d, hd, -, -, Yu⟩ := ht.desc S i hi
   obtain ⟨fs, fd, inf, rfl, -, hf, R2, kX, o0, GV⟩ := Yu f off.1 off.2 ho
   have ka : inf.size ≠ 0 := by omega
   obtain ⟨off, sz⟩ := off
   dsimp only at R2
   subst R2
   have run : ∀ ad, (Instr.fieldAt S (.pointer (some ad)) f).run P w = .ok (.pointer (some (ad.add fd.offset))) w := fun ad => by
    simp [Instr.fieldAt, aG hd, hf, Instr.sureAddr, fieldPlace, ee kX, ka]
   unfold Eng.fieldAt at h
   split at h
   ·simp only [Option.some.injEq] at h; subst h
    cases hr with
    | ptr _ _ _ g e c hb => exact ⟨_, run _, by rw [add_lit]; exact .ptr _ _ _ g e c hb⟩
   ·simp only [Option.some.injEq] at h; subst h
    cases hr with
    | dZ _ _ _ _ _ g e c hb => exact ⟨_, run _, by rw [add_lit, Nat.add_assoc]; exact .dZ _ _ _ _ _ g e c hb⟩
   ·simp only [Option.some.injEq] at h; subst h
    cases hr with
    | cH _ _ ad xf hf hr => exact ⟨_, run _, .cH _ _ _ (fun j => xf (fd.offset + j)) (fun j c hc => by rw [add_add]; exact hf _ _ (by simpa using hc)) fun j c hc => hr _ _ (by simpa using hc)⟩
   ·simp at h

theorem y7 {E : Env} {w : World} {a : Act} {st : St} (hs : bH E w a st) {b v size g e c : Nat} (h : iY st.mem b v = some size) (hb : E.bd b v = some (g, e, c)) : e = size := by
 unfold iY at h
 split at h
 ·rename_i hk
  split at h
  ·rename_i hv
   subst hv
   rcases hs.mem b _ hk with ⟨-, hn⟩ | ⟨g', T', xs, c', gu, -⟩
   ·rw [hb] at hn; cases hn
   rw [hb] at gu; cases gu; simpa using h
  ·cases h
 ·rename_i hk
  split at h
  ·rename_i hv
   subst hv
   rcases hs.mem b _ hk with ⟨-, hn⟩ | ⟨g', c', gu, -⟩
   ·rw [hb] at hn; cases hn
   rw [hb] at gu; cases gu; simpa using h
  ·cases h
 ·simp at h

theorem xt {P : Program} {tt : Table} (ht : TT P tt) {E : Env} {w : World} {a : Act} {st : St} (hs : bH E w a st) {T : TypeId} {p i v : V} {x y : Value} (hp : bC E p x) (hi : bC E i y) (h : j9 tt st.mem T p i = some v) :
  ∃ z, (Instr.indexAt T x y).run P w = .ok z w ∧ bC E v z := by
 unfold j9 at h
 split at h
 ·rename_i k n
  cases hi with
  | sc =>
  unfold eX kD at h
  cases hT : tt T with
  | none => rw [hT] at h; simp at h
  | some iT =>
   rw [hT] at h; simp only at h
   cases he : iT.elem with
   | none => rw [he] at h; simp at h
   | some e =>
    rw [he] at h; simp only at h
    cases hE : tt e with
    | none => rw [hE] at h; simp at h
    | some ie =>
     rw [hE] at h; simp only at h
     obtain ⟨d, hd, -, xu, -⟩ := ht.desc T iT hT
     obtain rfl := xu e he
     have run : ∀ (ad : Addr) (len cap : Nat), 0 ≤ n → n < len → (Instr.indexAt T (.slice (some ad) len cap) (.int k n)).run P w = .ok (.pointer (some (ad.add (n.toNat * ie.size)))) w := fun ad len cap h0 h1 => by
      simp [Instr.indexAt, asIntOf, aG hd, ht.sizeOf hE, h0, h1]
     unfold Eng.indexAt at h
     split at h
     ·rename_i rows
      split at h
      ·rename_i h0
       split at h
       ·rename_i row rz
        split at h
        ·rename_i hlen
         simp only [Option.some.injEq] at h; subst h
         cases hp with
         | slice _ _ aa cap oZ ad xf ha jU hz hF h1 hR =>
          have aZ : n.toNat < rows.length := (List.getElem?_eq_some_iff.1 rz).1
          have ch : rows ≠ [] := by rintro rfl; simp at aZ
          obtain rfl := ha ch
          have Yv : oZ = ie.size := by rw [← hz _ _ rz, hlen]
          subst Yv
          exact ⟨_, run ad _ cap h0 (by omega), .cH _ _ _ (fun j => xf n.toNat j) (fun j c hc => by rw [add_add]; exact hF _ _ _ _ rz hc) fun j c hc => hR _ _ _ _ rz hc⟩
        ·simp at h
       ·simp at h
      ·simp at h
     ·rename_i b v s l
      split at h
      ·rename_i h0
       obtain ⟨h0, h1, h2⟩ := h0
       simp only [Option.some.injEq] at h; subst h
       cases hp with
       | eN => simp at h1; omega
       | ms _ _ _ _ _ g e' c aa cap hb hl Lj hc =>
        obtain rfl := hl (by omega)
        have hee : e' = ie.size := y7 hs h2 hb
        subst hee
        refine ⟨_, run _ _ cap h0 h1, ?_⟩
        have := bC.dZ E b v (s + n.toNat) 0 g ie.size c hb
        rw [add_lit, ← Nat.add_mul]
        simpa using this
      ·simp at h
     ·simp at h
 ·simp at h
def wC : List V → Option (List Value)
 | [] => some []
 | .sc v :: r => match wC r with | some l => some (v :: l) | none => none
 | _ :: _ => none

def dj : V → Option Value
 | .sc v => some v
 | .agg cs => match wC cs with | some l => some (.agg l.toArray) | none => none
 | _ => none

theorem wD {E : Env} : ∀ {vs : List V} {xs : List Value} {l : List Value}, bo E vs xs → wC vs = some l → xs = l
 | [], xs, l, h, hl => by simp [wC] at hl; subst hl; exact h.of_nil
 | v :: vs, xs, l, h, hl => by
  obtain ⟨x, ys, rfl, h1, h2⟩ := h.of_cons
  cases v with
  | sc v =>
   simp only [wC] at hl
   split at hl
   ·rename_i l' SE
    simp only [Option.some.injEq] at hl; subst hl
    cases h1
    rw [wD h2 SE]
   ·simp at hl
  | _ => simp [wC] at hl

theorem ga {E : Env} {v : V} {x y : Value} (h : bC E v x) (hv : dj v = some y) : x = y := by
 cases v with
 | sc v => cases h; simpa [dj] using hv
 | agg cs =>
  simp only [dj] at hv
  split at hv
  ·rename_i l hl
   simp only [Option.some.injEq] at hv; subst hv
   cases h with
   | agg _ _ xs hlen hr =>
    have := wD (E := E) (xs := xs.toList) ⟨by simpa using hlen, fun i c x hc hx => hr i c x hc (by simpa using hx)⟩ hl
    rw [← this]
  ·simp at hv
 | _ => simp [dj] at hv

def oJ (P : Program) (f : Value → Sem Value) (x : V) : Option V :=
 match dj x with
 | some a => match b8 P (f a) with | some v => some (gO v) | none => none
 | none => none
def c5 (P : Program) (f : Value → Value → Sem Value) (x y : V) : Option V :=
 match dj x with
 | some a => match dj y with
  | some b => match b8 P (f a b) with | some v => some (gO v) | none => none
  | none => none
 | none => none

theorem mT {P : Program} {f : Value → Sem Value} {E : Env} {w : World} {x v : V} {a : Value} (hx : bC E x a) (h : oJ P f x = some v) : ∃ y, (f a).run P w = .ok y w ∧ bC E v y := by
 unfold oJ at h
 split at h
 ·rename_i a' ha
  cases ga hx ha
  split at h
  ·rename_i y hy
   simp only [Option.some.injEq] at h; subst h
   exact ⟨y, dD _ hy w, gC E y⟩
  ·simp at h
 ·simp at h
theorem jt {P : Program} {f : Value → Value → Sem Value} {E : Env} {w : World} {x y v : V} {a b : Value} (hx : bC E x a) (hy : bC E y b) (h : c5 P f x y = some v) :
  ∃ z, (f a b).run P w = .ok z w ∧ bC E v z := by
 unfold c5 at h
 split at h
 ·rename_i a' ha
  cases ga hx ha
  split at h
  ·rename_i b' hb
   cases ga hy hb
   split at h
   ·rename_i z hz
    simp only [Option.some.injEq] at h; subst h
    exact ⟨z, dD _ hz w, gC E z⟩
   ·simp at h
  ·simp at h
 ·simp at h

def O2 : V → Option V
 | .ptr b o => some (.ptr b o)
 | .dZ b v i o => some (.dZ b v i o)
 | .cH cs => some (.cH cs)
 | .bp (.func f) a b => some (.bp (.func f) a b)
 | .sc (.func (.func f) a b) => some (.sc (.func (.func f) a b))
 | _ => none

def cf (rows : List V) (l size : Nat) : Bool := match rows[l]? with | some row => row.cells.length == size | none => true

def cutAt (mem : List aC) (size : Nat) (l : Int) (h : Option Int) : V → Option V
 | .slice rows =>
  if 0 ≤ l ∧ l ≤ h.getD rows.length ∧ h.getD rows.length ≤ rows.length ∧ cf rows l.toNat size = true then some (.slice ((rows.drop l.toNat).take (h.getD rows.length - l).toNat)) else none
 | .ms b v s n =>
  if 0 ≤ l ∧ l ≤ h.getD n ∧ h.getD n ≤ n ∧ iY mem b v = some size then some (.ms b v (s + l.toNat) (h.getD n - l).toNat) else none
 | _ => none

def y8 : V → Option Int
 | .sc (.int _ n) => some n
 | _ => none

def xv (P : Program) (tt : Table) (mem : List aC) (T : TypeId) (x : V) (lo hi : Option V) : Option V :=
 match x with
 | .sc a => match lo with
  | none => match hi with
   | none => oJ P (fun a => Instr.sliceAt T a none none none) (.sc a)
   | some h => c5 P (fun a h => Instr.sliceAt T a none (some h) none) (.sc a) h
  | some l => match hi with
   | none => c5 P (fun a l => Instr.sliceAt T a (some l) none none) (.sc a) l
   | some h => match dj h with
    | some h => c5 P (fun a l => Instr.sliceAt T a (some l) (some h) none) (.sc a) l
    | none => none
 | x => match eX tt T with
  | none => none
  | some e => match kD tt e with
   | none => none
   | some size => match lo with
    | none => match hi with
     | none => cutAt mem size 0 none x
     | some h => match y8 h with | some h => cutAt mem size 0 (some h) x | none => none
    | some l => match y8 l with
     | none => none
     | some l => match hi with
      | none => cutAt mem size l none x
      | some h => match y8 h with | some h => cutAt mem size l (some h) x | none => none

theorem mU {E : Env} {v : V} {x : Value} {n : Int} (h : bC E v x) (hv : y8 v = some n) : ∃ k, x = .int k n := by
 unfold y8 at hv
 split at hv
 ·cases h; simp at hv; subst hv; exact ⟨_, rfl⟩
 ·simp at hv

theorem kG {E : Env} {w : World} {a : Act} {st : St} (hs : bH E w a st) {size : Nat} {l : Int} {h : Option Int} {x v : V} {y : Value} (hx : bC E x y) (hc : cutAt st.mem size l h x = some v) :
  ∃ aa len cap, y = .slice aa len cap ∧ 0 ≤ l ∧ l ≤ h.getD len ∧ h.getD len ≤ len ∧ len ≤ cap ∧
   bC E v (.slice (if cap = l.toNat then aa else aa.map (·.add (l.toNat * size))) (h.getD len - l).toNat (cap - l.toNat)) := by
 unfold cutAt at hc
 split at hc
 ·rename_i rows
  split at hc
  ·rename_i hh
   obtain ⟨h0, h1, h2, h3⟩ := hh
   simp only [Option.some.injEq] at hc; subst hc
   cases hx with
   | slice _ _ aa cap oZ ad xf ha jU hz hF lT hR =>
    refine ⟨aa, rows.length, cap, rfl, h0, h1, h2, jU, ?_⟩
    have hlen : ((rows.drop l.toNat).take (h.getD rows.length - l).toNat).length = (h.getD rows.length - l).toNat := by simp; omega
    have hg : ∀ (i : Nat) (row : V), ((rows.drop l.toNat).take (h.getD rows.length - l).toNat)[i]? = some row → rows[l.toNat + i]? = some row := fun i row hi => by
     rw [List.getElem?_take] at hi
     split at hi
     ·simpa using hi
     ·simp at hi
    suffices y9 : bC E (.slice ((rows.drop l.toNat).take (h.getD rows.length - l).toNat)) (.slice (if cap = l.toNat then aa else aa.map (·.add (l.toNat * size))) ((rows.drop l.toNat).take (h.getD rows.length - l).toNat).length (cap - l.toNat)) by
     rw [hlen] at y9; exact y9
    refine .slice _ _ _ (cap - l.toNat) oZ (ad.add (l.toNat * oZ)) (fun i j => xf (l.toNat + i) j) (fun ch => ?_) (by rw [hlen]; omega) (fun i row hi => hz _ _ (hg i row hi))
     (fun i row j c hi hj => by rw [add_add, ← Nat.add_assoc, ← Nat.add_mul]; exact hF _ _ _ _ (hg i row hi) hj) (fun i row j c hi hj => lT _ _ _ _ (hg i row hi) hj) fun i row j c hi hj => hR _ _ _ _ (hg i row hi) hj
    have aZ : l.toNat < rows.length := by
     rcases Nat.lt_or_ge l.toNat rows.length with aZ | gv
     ·exact aZ
     ·exact absurd (by rw [List.drop_eq_nil_of_le gv]; simp) ch
    have Hc : rows ≠ [] := by rintro rfl; simp at aZ
    rw [if_neg (by omega), ha Hc]
    unfold cf at h3
    rw [List.getElem?_eq_getElem aZ] at h3
    simp only [beq_iff_eq] at h3
    rw [← h3, hz _ _ (List.getElem?_eq_getElem aZ)]
    rfl
  ·simp at hc
 ·rename_i b v s n
  split at hc
  ·rename_i hh
   obtain ⟨h0, h1, h2, h3⟩ := hh
   simp only [Option.some.injEq] at hc; subst hc
   cases hx with
   | eN =>
    refine ⟨none, 0, 0, rfl, h0, h1, h2, Nat.le_refl _, ?_⟩
    have e1 : l.toNat = 0 := by have : ((0 : Nat) : Int) = 0 := rfl; omega
    have e2 : (h.getD (0 : Nat) - l).toNat = 0 := by have : ((0 : Nat) : Int) = 0 := rfl; omega
    rw [e1, e2]
    exact .eN _ _ _ _
   | ms _ _ _ _ _ g e c aa cap hb hl Lj wE =>
    obtain rfl := y7 hs h3 hb
    refine ⟨aa, n, cap, rfl, h0, h1, h2, wE.1, ?_⟩
    refine .ms _ _ _ _ _ g e c _ _ hb (fun hp => ?_) (fun hz => ?_) ⟨by omega, by omega, fun hp => by
     rw [if_neg (by omega), wE.2.2 (by omega)]
     simp only [Option.map_some,add_lit,← Nat.add_mul]⟩
    ·rw [if_neg (by omega), hl (by omega)]
     simp only [Option.map_some,add_lit,← Nat.add_mul]
    ·obtain ⟨h5, h6⟩ := Lj (by omega)
     have : l.toNat = 0 := by omega
     rw [this, h5]
     refine ⟨?_, by omega⟩
     split
     ·rfl
     ·simp [Addr.add]
  ·simp at hc
 ·simp at hc

theorem kH {P : Program} {tt : Table} (ht : TT P tt) {T e : TypeId} {size : Nat} (he : eX tt T = some e) (hz : kD tt e = some size) (w : World) (aa : Option Addr) (len cap : Nat) (lo hi : Option Value)
  (l : Int) (h : Option Int) (mR : (lo = none ∧ l = 0) ∨ ∃ k, lo = some (.int k l)) (pW : (hi = none ∧ h = none) ∨ ∃ k n, hi = some (.int k n) ∧ h = some n)
  (h0 : 0 ≤ l) (h1 : l ≤ h.getD len) (h2 : h.getD len ≤ len) (h3 : len ≤ cap) :
  (Instr.sliceAt T (.slice aa len cap) lo hi none).run P w = .ok (.slice (if cap = l.toNat then aa else aa.map (·.add (l.toNat * size))) (h.getD len - l).toNat (cap - l.toNat)) w := by
 unfold eX at he
 unfold kD at hz
 cases hT : tt T with
 | none => rw [hT] at he; simp at he
 | some iT =>
  rw [hT] at he; simp only at he
  cases hE : tt e with
  | none => rw [hE] at hz; simp at hz
  | some ie =>
   rw [hE] at hz; simp only [Option.some.injEq] at hz; subst hz
   obtain ⟨d, hd, -, xu, -⟩ := ht.desc T iT hT
   obtain rfl := xu e he
   have adF : ∀ m : Int, (m - l).toNat = m.toNat - l.toNat := fun m => by omega
   rcases mR with ⟨rfl, rfl⟩ | ⟨k, rfl⟩ <;> rcases pW with ⟨rfl, rfl⟩ | ⟨k', n, rfl, rfl⟩ <;>
    simp only [Option.getD_some,Option.getD_none] at h1 h2 ⊢ <;>
    simp only [Instr.sliceAt,Instr.slice,Sem.run_bind,aG hd,Result.andThen_ok,Instr.sliceBounds,Instr.sliceBound,asIntOf,Sem.run_pure,ht.sizeOf hE,Option.isSome_none]
   ·simp
   ·rw [if_pos ⟨by omega, by omega⟩]; simp
   ·rw [if_pos ⟨by omega, by omega⟩]; simp; omega
   ·rw [if_pos ⟨by omega, by omega⟩]
    simp only [Sem.run_pure,Result.andThen_ok]
    rw [if_pos ⟨by omega, by omega⟩]
    simp; omega
def dO (kind : TypeDesc) (k : Value) : List (Value × Nat × V) → Nat → Option (Option (Nat × V))
 | [], _ => some none
 | e :: r, i => match Instr.sameNow kind k e.1 with
  | some true => some (some (i, e.2.2))
  | some false => dO kind k r (i + 1)
  | none => none
def mV (P : Program) (T : TypeId) (k : Value) : List (Value × Nat × V) → Nat → Option (Option (Nat × V))
 | [], _ => some none
 | e :: r, i => match b8 P (Op.equal T k e.1) with
  | some true => some (some (i, e.2.2))
  | some false => mV P T k r (i + 1)
  | none => none
def lx (P : Program) (T : TypeId) (k : Value) (bV : List (Value × Nat × V)) : Option (Option (Nat × V)) :=
 match P.underlying T with
 | some d => match dO d k bV 0 with
  | some r => some r
  | none => mV P T k bV 0
 | none => none

def Found (E : Env) (bV : List (Value × Nat × V)) (es : List MapEntry) : Option (Nat × V) → Option (Nat × Value) → Prop
 | none, none => True
 | some (i, v), some (j, x) => i = j ∧ bC E v x ∧ ∃ kb e, bV[i]? = some kb ∧ es[i]? = some e ∧ kb.2.2 = v ∧ e.val = x
 | _, _ => False

theorem dw.get {E : Env} {bV : List (Value × Nat × V)} {es : List MapEntry} (h : dw E bV es) {i : Nat} {kb : Value × Nat × V} (hk : bV[i]? = some kb) : ∃ e, es[i]? = some e ∧ e.key = kb.1 ∧ e.born = kb.2.1 ∧ bC E kb.2.2 e.val := by
 have hi : i < es.length := by rw [← h.1]; exact (List.getElem?_eq_some_iff.1 hk).1
 exact ⟨es[i], List.getElem?_eq_getElem hi, h.2 i kb _ hk (List.getElem?_eq_getElem hi)⟩
theorem dw.drop {E : Env} {bV : List (Value × Nat × V)} {es : List MapEntry} (h : dw E bV es) (n : Nat) : dw E (bV.drop n) (es.drop n) :=
 ⟨by simp [h.1], fun i k e hk he => h.2 (n + i) k e (by simpa using hk) (by simpa using he)⟩
theorem dw.of_nil {E : Env} {es : List MapEntry} (h : dw E [] es) : es = [] := by have := h.1; simp at this; exact List.length_eq_zero_iff.1 this.symm
theorem dw.of_cons {E : Env} {k : Value × Nat × V} {r : List (Value × Nat × V)} {es : List MapEntry} (h : dw E (k :: r) es) : ∃ e es', es = e :: es' ∧ e.key = k.1 ∧ e.born = k.2.1 ∧ bC E k.2.2 e.val ∧ dw E r es' := by
 cases es with
 | nil => have := h.1; simp at this
 | cons e es' =>
  obtain ⟨h1, h2, h3⟩ := h.2 0 k e rfl rfl
  exact ⟨e, es', rfl, h1, h2, h3, by have := h.1; simpa using this, fun i k' e' hk he => h.2 (i + 1) k' e' (by simpa using hk) (by simpa using he)⟩

theorem tL {E : Env} {kind : TypeDesc} {k : Value} {bV : List (Value × Nat × V)} {es : List MapEntry} (h : dw E bV es) : ∀ (n : Nat) {r : Option (Nat × V)}, dO kind k (bV.drop n) n = some r →
  ∃ r', Instr.findNow kind k (es.drop n) n = some r' ∧ Found E bV es r r' := by
 intro n
 generalize hl : bV.length - n = m
 induction m generalizing n with
 | zero =>
  intro r hr
  have h1 : bV.drop n = [] := List.drop_eq_nil_of_le (by omega)
  have h2 : es.drop n = [] := List.drop_eq_nil_of_le (by have := h.1; omega)
  rw [h1] at hr; rw [h2]
  simp only [dO,Option.some.injEq] at hr; subst hr
  exact ⟨none, rfl, trivial⟩
 | succ m ih =>
  intro r hr
  have hn : n < bV.length := by omega
  have NL : n < es.length := by have := h.1; omega
  rw [List.drop_eq_getElem_cons hn] at hr
  rw [List.drop_eq_getElem_cons NL]
  have hk := List.getElem?_eq_getElem hn
  have he := List.getElem?_eq_getElem NL
  obtain ⟨h1, h2, h3⟩ := h.2 n _ _ hk he
  simp only [dO] at hr
  simp only [Instr.findNow,h1]
  split at hr
  ·rename_i hs; rw [hs]; simp only [Option.some.injEq] at hr; subst hr
   exact ⟨_, rfl, rfl, h3, _, _, hk, he, rfl, rfl⟩
  ·rename_i hs; rw [hs]; exact ih (n + 1) (by omega) hr
  ·cases hr
theorem v7 {E : Env} {kind : TypeDesc} {k : Value} {bV : List (Value × Nat × V)} {es : List MapEntry} (h : dw E bV es) : ∀ (n : Nat), dO kind k (bV.drop n) n = none → Instr.findNow kind k (es.drop n) n = none := by
 intro n
 generalize hl : bV.length - n = m
 induction m generalizing n with
 | zero =>
  intro hr
  have h1 : bV.drop n = [] := List.drop_eq_nil_of_le (by omega)
  rw [h1] at hr
  simp [dO] at hr
 | succ m ih =>
  intro hr
  have hn : n < bV.length := by omega
  have NL : n < es.length := by have := h.1; omega
  rw [List.drop_eq_getElem_cons hn] at hr
  rw [List.drop_eq_getElem_cons NL]
  obtain ⟨h1, h2, h3⟩ := h.2 n _ _ (List.getElem?_eq_getElem hn) (List.getElem?_eq_getElem NL)
  simp only [dO] at hr
  simp only [Instr.findNow,h1]
  split at hr
  ·cases hr
  ·rename_i hs; rw [hs]; exact ih (n + 1) (by omega) hr
  ·rename_i hs; rw [hs]
theorem tM {P : Program} {E : Env} {T : TypeId} {k : Value} {bV : List (Value × Nat × V)} {es : List MapEntry} (h : dw E bV es) (w : World) : ∀ (n : Nat) {r : Option (Nat × V)}, mV P T k (bV.drop n) n = some r →
  ∃ r', (Instr.findAsking T k (es.drop n) n).run P w = .ok r' w ∧ Found E bV es r r' := by
 intro n
 generalize hl : bV.length - n = m
 induction m generalizing n with
 | zero =>
  intro r hr
  have h1 : bV.drop n = [] := List.drop_eq_nil_of_le (by omega)
  have h2 : es.drop n = [] := List.drop_eq_nil_of_le (by have := h.1; omega)
  rw [h1] at hr; rw [h2]
  simp only [mV,Option.some.injEq] at hr; subst hr
  exact ⟨none, rfl, trivial⟩
 | succ m ih =>
  intro r hr
  have hn : n < bV.length := by omega
  have NL : n < es.length := by have := h.1; omega
  rw [List.drop_eq_getElem_cons hn] at hr
  rw [List.drop_eq_getElem_cons NL]
  have hk := List.getElem?_eq_getElem hn
  have he := List.getElem?_eq_getElem NL
  obtain ⟨h1, h2, h3⟩ := h.2 n _ _ hk he
  simp only [mV] at hr
  simp only [Instr.findAsking,h1,Sem.run_bind]
  split at hr
  ·rename_i hs; rw [dD _ hs w]; simp only [Option.some.injEq] at hr; subst hr
   exact ⟨_, rfl, rfl, h3, _, _, hk, he, rfl, rfl⟩
  ·rename_i hs; rw [dD _ hs w]
   simpa using ih (n + 1) (by omega) hr
  ·cases hr
theorem ef {P : Program} {E : Env} {T : TypeId} {k : Value} {bV : List (Value × Nat × V)} {es : Array MapEntry} (h : dw E bV es.toList) (w : World) {r : Option (Nat × V)} (hr : lx P T k bV = some r) :
  ∃ r', (Instr.findKey T k es.toList).run P w = .ok r' w ∧ Found E bV es.toList r r' := by
 unfold lx at hr
 split at hr
 ·rename_i d hd
  simp only [Instr.findKey,Sem.run_bind,aG hd,Result.andThen_ok]
  split at hr
  ·rename_i r1 h1
   simp only [Option.some.injEq] at hr; subst hr
   obtain ⟨r', h2, h3⟩ := tL h 0 (r := r1) (by simpa using h1)
   simp only [List.drop_zero] at h2
   rw [h2]
   exact ⟨r', rfl, h3⟩
  ·rename_i h1
   have h2 := v7 h 0 (by simpa using h1)
   simp only [List.drop_zero] at h2
   rw [h2]
   simpa using tM h w 0 (r := r) (by simpa using hr)
 ·cases hr

def oK (P : Program) (T : TypeId) (k : Value) : Bool :=
 match P.underlying T with
 | some (.int _) => true
 | some .string => true
 | some .bool => true
 | _ => match b8 P (Instr.checkKey false 10000 T k), b8 P (Instr.checkKey true 10000 T k) with
  | some _, some _ => true
  | _, _ => false
theorem kI {P : Program} {T : TypeId} {k : Value} (h : oK P T k = true) (b : Bool) (w : World) : (Instr.checkKey b 10000 T k).run P w = .ok () w := by
 unfold oK at h
 have O3 : ∀ d, P.underlying T = some d → (∀ m, d ≠ .interface m) → (∀ n e, d ≠ .array n e) → (∀ fs, d ≠ .struct fs) → (Instr.checkKey b 10000 T k).run P w = .ok () w := by
  intro d hd h1 h2 h3
  show (Instr.checkKey b (9999 + 1) T k).run P w = _
  rw [Instr.checkKey]
  simp only [Sem.run_bind,aG hd,Result.andThen_ok]
  cases d <;> first | (cases k <;> rfl) | exact absurd rfl (h1 _) | exact absurd rfl (h2 _ _) | exact absurd rfl (h3 _)
 split at h
 ·rename_i hd; exact O3 _ hd (by simp) (by simp) (by simp)
 ·rename_i hd; exact O3 _ hd (by simp) (by simp) (by simp)
 ·rename_i hd; exact O3 _ hd (by simp) (by simp) (by simp)
 ·split at h
  ·rename_i h1 h2
   cases b
   ·exact dD _ h1 w
   ·exact dD _ h2 w
  ·cases h

def zeroV (P : Program) (T : TypeId) : Option V :=
 match P.info? T with
 | some i => match i.zero with | some z => some (gO z) | none => none
 | none => none
theorem mW {P : Program} {T : TypeId} {v : V} (h : zeroV P T = some v) (E : Env) (w : World) : ∃ z, (zeroValue T).run P w = .ok z w ∧ bC E v z := by
 unfold zeroV at h
 split at h
 ·rename_i i hi
  split at h
  ·rename_i z hz
   cases h
   exact ⟨z, by simp [zeroValue, dK hi, hz], gC E z⟩
  ·cases h
 ·cases h
def eJ (P : Program) (T : TypeId) : Option (TypeId × TypeId) := match P.underlying T with | some (.map k e) => some (k, e) | _ => none
theorem gP {P : Program} {T kt et : TypeId} (h : eJ P T = some (kt, et)) : P.underlying T = some (.map kt et) := by
 unfold eJ at h
 split at h
 ·rename_i hd; cases h; exact hd
 ·cases h

def Lk (ok b : Bool) (v : V) : V := if ok = true then .cC [v, .sc (.bool b)] else v
theorem xw {E : Env} {v : V} {x : Value} (h : bC E v x) (ok b : Bool) : bC E (Lk ok b v) (if ok = true then .tuple #[x, .bool b] else x) := by
 unfold Lk
 split
 ·refine .cC _ _ _ rfl fun i c y hc hy => ?_
  match i with
  | 0 => simp at hc hy; subst hc; subst hy; exact h
  | 1 => simp at hc hy; subst hc; subst hy; exact .sc _ _
  | i + 2 => simp at hc
 ·exact h
def ly (P : Program) (mem : List aC) (kt et : TypeId) (m : V) (key : Value) (ok : Bool) : Option V :=
 match m with
 | .mp b => match mem[b]? with
  | some (.map bV _) => match lx P kt key bV with
   | some (some (_, v)) => some (Lk ok true v)
   | some none => match zeroV P et with | some z => some (Lk ok false z) | none => none
   | none => none
  | _ => none
 | .sc (.map none) => match lx P kt key [] with
  | some none => match zeroV P et with | some z => some (Lk ok false z) | none => none
  | _ => none
 | _ => none
def gb (P : Program) (mem : List aC) (T : TypeId) (m i : V) (ok : Bool) : Option V :=
 match eJ P T with
 | some (kt, et) => match dj i with
  | some key => if oK P kt key = true then ly P mem kt et m key ok else none
  | none => none
 | none => none

theorem o1 {E : Env} {b : Nat} {x : Value} (h : bC E (.mp b) x) : ∃ g e c, x = .map (some g) ∧ E.bd b 0 = some (g, e, c) := by
 cases h with | mp _ _ l e c hb => exact ⟨l, e, c, rfl, hb⟩
theorem jn {E : Env} {w : World} {a : Act} {st : St} (hs : bH E w a st) {b : Nat} {bV : List (Value × Nat × V)} {clock : Nat} (hm : st.mem[b]? = some (.map bV clock)) {g e c : Nat} (hb : E.bd b 0 = some (g, e, c)) :
  ∃ es, w.heap[g]? = some (.map es clock) ∧ dw E bV es.toList ∧ (∀ o, E.F ⟨g, o, none⟩ = none) ∧ (e, c) = (0, 0) := by
 obtain ⟨g', es, h1, h2, h3, h4⟩ := hs.mem b _ hm
 rw [hb] at h1; cases h1
 exact ⟨es, h2, h3, h4, rfl⟩
theorem da {P : Program} {w : World} {g : Nat} {es : Array MapEntry} {clock : Nat} (h : w.heap[g]? = some (.map es clock)) : (getObj g).run P w = .ok (.map es clock) w := by simp [getObj, Sem.run, h]
theorem e5 {P : Program} {w : World} {g : Nat} {o o' : Obj} (h : w.heap[g]? = some o) (hc : ∀ a b c, o ≠ .cells a b c) : (setObj g o').run P w = .ok () { w with heap := w.heap.setIfInBounds g o' } := by
 unfold setObj
 rw [Sem.run, h]
 cases o <;> first | rfl | exact absurd rfl (hc _ _ _)

theorem nZ {E : Env} {v y : Value} (h : bC E (.sc v) y) : y = v := by cases h; rfl
theorem v8 {P : Program} {E : Env} {w : World} {a : Act} {st : St} (hs : bH E w a st) {T : TypeId} {m i v : V} {ok : Bool} {x y : Value} (hm : bC E m x) (hi : bC E i y) (h : gb P st.mem T m i ok = some v) :
  ∃ z, (Instr.lookup T x y ok).run P w = .ok z w ∧ bC E v z := by
 unfold gb at h
 split at h
 ·rename_i kt et hd
  have hd := gP hd
  split at h
  ·rename_i key c9
   cases ga hi c9
   split at h
   ·rename_i dx
    have GX := fun b => kI dx b w
    unfold ly at h
    split at h
    ·rename_i b
     obtain ⟨g, e, c, rfl, hb⟩ := o1 hm
     split at h
     ·rename_i bV clock hB
      obtain ⟨es, hh, hr, -⟩ := jn hs hB hb
      split at h
      ·rename_i j u hf
       obtain ⟨r', h1, h2⟩ := ef hr w hf
       match r', h2 with
       | some (j', z), h2 =>
        cases h
        exact ⟨_, by simp [Instr.lookup, aG hd, da hh, GX, h1], xw h2.2.1 ok true⟩
      ·rename_i hf
       obtain ⟨r', h1, h2⟩ := ef hr w hf
       match r', h2 with
       | none, h2 =>
        split at h
        ·rename_i z hz
         cases h
         obtain ⟨z', h3, h4⟩ := mW hz E w
         exact ⟨_, by simp [Instr.lookup, aG hd, da hh, GX, h1, h3], xw h4 ok false⟩
        ·cases h
      ·cases h
     ·cases h
    ·obtain rfl := nZ hm
     split at h
     ·rename_i hf
      obtain ⟨r', h1, h2⟩ := ef (E := E) (es := #[]) ⟨rfl, fun i k e h => by simp at h⟩ w hf
      match r', h2 with
      | none, h2 =>
       split at h
       ·rename_i z hz
        cases h
        obtain ⟨z', h3, h4⟩ := mW hz E w
        exact ⟨_, by simp at h1; simp [Instr.lookup, aG hd, GX, h1, h3], xw h4 ok false⟩
       ·cases h
     ·cases h
    ·cases h
   ·cases h
  ·cases h
 ·cases h
def rA (mem : List aC) (ts : Array TypeId) (P : Program) : List V → Option V
 | [.mp b] => match mem[b]? with
  | some (.map bV _) => match ts[0]? with
   | some T => match eJ P T with | some _ => some (.sc (.int .i64 bV.length)) | none => none
   | none => none
  | _ => none
 | _ => none
theorem Cd {P : Program} {E : Env} {w : World} {a : Act} {st : St} (hs : bH E w a st) {ts : Array TypeId} {ty : TypeId} {xs : List V} {v : V} {ys : Array Value} (hx : bo E xs ys.toList) (h : rA st.mem ts P xs = some v) :
  ∃ z, (Builtin.len_ ts ty ys).run P w = .ok z w ∧ bC E v z := by
 unfold rA at h
 split at h
 ·rename_i b
  split at h
  ·rename_i bV clock hB
   split at h
   ·rename_i T h0
    split at h
    ·rename_i p hp
     cases h
     obtain ⟨kt, et⟩ := p
     have hd := gP hp
     obtain ⟨x, r, hy, h1, h2⟩ := hx.of_cons
     have := h2.of_nil; subst this
     obtain rfl : ys = #[x] := by rw [← Array.toArray_toList (xs := ys), hy]
     obtain ⟨g, e, c, rfl, hb⟩ := o1 h1
     obtain ⟨es, hh, hr, -⟩ := jn hs hB hb
     refine ⟨.int .i64 es.size, by simp [Builtin.len_, h0, aG hd, da hh, goInt], ?_⟩
     have : bV.length = es.size := by simpa using hr.1
     rw [this]; exact .sc _ _
    ·cases h
   ·cases h
  ·cases h
 ·cases h
def E6 (mem : List aC) (it : V) : Option V :=
 match it with
 | .ptr b 0 => match mem[b]? with
  | some (.fh m _ seen last) => match mem[m]? with
   | some (.map bV clock) => if clock = last then (match seen.getLast? with
    | some za => match bV.find? (fun e => e.2.1 == za) with
     | some e => some (.cC [gO e.1, e.2.2])
     | none => none
    | none => none) else none
   | _ => none
  | _ => none
 | _ => none
theorem dw.find {E : Env} (p : Nat → Bool) : ∀ {bV : List (Value × Nat × V)} {es : List MapEntry} {k : Value × Nat × V}, dw E bV es → bV.find? (fun e => p e.2.1) = some k → ∃ e, es.find? (fun e => p e.born) = some e ∧ e.key = k.1 ∧ bC E k.2.2 e.val
 | [], es, k, h, hf => by simp at hf
 | c :: r, es, k, h, hf => by
  obtain ⟨e, es', rfl, h1, h2, h3, h4⟩ := h.of_cons
  rw [List.find?_cons] at hf ⊢
  rw [h2]
  split at hf
  ·rename_i hp; cases hf; exact ⟨e, rfl, h1, h3⟩
  ·exact dw.find p h4 hf
theorem Ce {P : Program} {E : Env} {w : World} {a : Act} {st : St} (hs : bH E w a st) {it v : V} {x : Value} (hi : bC E it x) (h : E6 st.mem it = some v) : ∃ z, (Instr.entry x).run P w = .ok z w ∧ bC E v z := by
 unfold E6 at h
 split at h
 ·rename_i b
  split at h
  ·rename_i m since seen last hB
   split at h
   ·rename_i bV clock hM
    split at h
    ·rename_i mC
     split at h
     ·rename_i za rB
      split at h
      ·rename_i e he
       cases h
       obtain ⟨g, gm, em, cm, hb, Ll, hh, hf⟩ := hs.mem b _ hB
       obtain ⟨es, Yw, hr, hfm, h0⟩ := jn hs hM Ll
       cases hi with
       | ptr _ _ _ g' e' c' gu =>
       rw [hb] at gu; cases gu
       have fH : (getObj g).run P w = .ok (.mapIter (some gm) since seen.toArray last) w := by simp [getObj, Sem.run, hh]
       obtain ⟨en, h1, h2, h3⟩ := dw.find (fun n => n == za) hr he
       have SG : seen.toArray.back? = some za := by simpa using rB
       have zb : es.find? (fun e => e.born == za) = some en := by
        rw [← List.find?_toArray, Array.toArray_toList] at h1; exact h1
       refine ⟨.tuple #[en.key, en.val], ?_, ?_⟩
       ·subst mC
        simp only [Instr.entry,Sem.run_bind,fH,Result.andThen_ok,SG,da Yw,bne_self_eq_false,Bool.false_eq_true,if_false,zb]
        rfl
       ·refine .cC _ _ _ rfl fun i c y hc hy => ?_
        match i with
        | 0 => simp at hc hy; subst hc; subst hy; rw [h2]; exact gC E _
        | 1 => simp at hc hy; subst hc; subst hy; exact h3
        | i + 2 => simp at hc
      ·cases h
     ·cases h
    ·cases h
   ·cases h
  ·cases h
 ·cases h
theorem dk {E : Env} {v y : Value} (h : bC E (.sc v) y) : y = v := by cases h; rfl

theorem Cf {P : Program} {tt : Table} (ht : TT P tt) {E : Env} {w : World} {a : Act} {st : St} (hs : bH E w a st) {T : TypeId} {x v : V} {lo hi : Option Operand} {y : Value} (hx : bC E x y)
  (h : xv P tt st.mem T x (lo.map st.eval) (hi.map st.eval) = some v) : ∃ z, (Instr.sliceAt T y (lo.map a.eval) (hi.map a.eval) none).run P w = .ok z w ∧ bC E v z := by
 unfold xv at h
 split at h
 ·cases lo with
  | none =>
   cases hi with
   | none => exact mT hx h
   | some hi => exact jt (f := fun a h => Instr.sliceAt T a none (some h) none) hx (hs.eval hi) h
  | some lo =>
   cases hi with
   | none => exact jt (f := fun a l => Instr.sliceAt T a (some l) none none) hx (hs.eval lo) h
   | some hi =>
    simp only [Option.map_some] at h ⊢
    split at h
    ·rename_i hv XN
     rw [ga (hs.eval hi) XN]
     exact jt (f := fun a l => Instr.sliceAt T a (some l) (some hv) none) hx (hs.eval lo) h
    ·simp at h
 ·split at h
  ·simp at h
  ·rename_i e he
   split at h
   ·simp at h
   ·rename_i size hz
    cases lo with
    | none =>
     cases hi with
     | none =>
      obtain ⟨aa, len, cap, rfl, h0, h1, h2, h3, hr⟩ := kG hs hx h
      exact ⟨_, kH ht he hz w aa len cap none none 0 none (.inl ⟨rfl, rfl⟩) (.inl ⟨rfl, rfl⟩) h0 h1 h2 h3, hr⟩
     | some hi =>
      simp only [Option.map_some,Option.map_none] at h ⊢
      split at h
      ·rename_i n hn
       obtain ⟨k, hk⟩ := mU (hs.eval hi) hn
       obtain ⟨aa, len, cap, rfl, h0, h1, h2, h3, hr⟩ := kG hs hx h
       exact ⟨_, kH ht he hz w aa len cap none _ 0 (some n) (.inl ⟨rfl, rfl⟩) (.inr ⟨k, n, by rw [hk], rfl⟩) h0 h1 h2 h3, hr⟩
      ·simp at h
    | some lo =>
     simp only [Option.map_some] at h ⊢
     split at h
     ·simp at h
     ·rename_i l hl
      obtain ⟨k, hk⟩ := mU (hs.eval lo) hl
      cases hi with
      | none =>
       simp only [Option.map_none] at h ⊢
       obtain ⟨aa, len, cap, rfl, h0, h1, h2, h3, hr⟩ := kG hs hx h
       exact ⟨_, kH ht he hz w aa len cap _ none l none (.inr ⟨k, by rw [hk]⟩) (.inl ⟨rfl, rfl⟩) h0 h1 h2 h3, hr⟩
      | some hi =>
       simp only [Option.map_some] at h ⊢
       split at h
       ·rename_i n hn
        obtain ⟨k', gD⟩ := mU (hs.eval hi) hn
        obtain ⟨aa, len, cap, rfl, h0, h1, h2, h3, hr⟩ := kG hs hx h
        exact ⟨_, kH ht he hz w aa len cap _ _ l (some n) (.inr ⟨k, by rw [hk]⟩) (.inr ⟨k', n, by rw [gD], rfl⟩) h0 h1 h2 h3, hr⟩
       ·simp at h

def kY : List V → Option (List Value)
 | [] => some []
 | v :: r => match dj v with
  | some x => match kY r with | some l => some (x :: l) | none => none
  | none => none
theorem lU {E : Env} : ∀ {vs : List V} {xs l : List Value}, bo E vs xs → kY vs = some l → xs = l
 | [], xs, l, h, hl => by simp [kY] at hl; subst hl; exact h.of_nil
 | v :: vs, xs, l, h, hl => by
  obtain ⟨x, ys, rfl, h1, h2⟩ := h.of_cons
  simp only [kY] at hl
  split at hl
  ·rename_i x' Li
   split at hl
   ·rename_i l' SE
    simp only [Option.some.injEq] at hl; subst hl
    rw [ga h1 Li, lU h2 SE]
   ·simp at hl
  ·simp at hl

def ib (P : Program) (f : Array Value → Sem Value) (xs : List V) : Option V :=
 match kY xs with
 | some l => match b8 P (f l.toArray) with | some v => some (gO v) | none => none
 | none => none

theorem bH.lz {E : Env} {w : World} {a : Act} {st : St} (hs : bH E w a st) (xs : Array Operand) : bo E (xs.toList.map st.eval) (xs.map a.eval).toList := by
 refine ⟨by simp, fun i v x hv hx => ?_⟩
 simp only [List.getElem?_map,Array.toList_map,Option.map_eq_some_iff] at hv hx
 obtain ⟨o, ho, rfl⟩ := hv
 obtain ⟨o', NM, rfl⟩ := hx
 rw [ho] at NM; cases NM
 exact hs.eval o

def xx (P : Program) (tt : Table) (ts : Array TypeId) (ty : TypeId) : List V → Option V
 | [.slice rows] => match ts[0]? with
  | some t => match eX tt t with | some _ => some (.sc (.int .i64 rows.length)) | none => none
  | none => none
 | [.ms _ _ _ l] => match ts[0]? with
  | some t => match eX tt t with | some _ => some (.sc (.int .i64 l)) | none => none
  | none => none
 | xs => ib P (Builtin.len_ ts ty) xs

def acu (tt : Table) (S : TypeId) (f : Nat) (T : TypeId) (x : V) : Option V :=
 match x with
 | .agg cs => match LK tt S f with
  | some off => fA tt T (cs.drop off)
  | none => none
 | _ => none

def E7 (k : Int) : Bool := match aA.κ k with | some b => b | none => decide (k ≤ aA.n)
theorem xy (k : Int) : E7 k = decide (k ≤ aA.n) := by
 unfold E7
 split
 ·rename_i b h; exact (aA.ok k b h).symm
 ·rfl
def D1 (op : BinOp) (x y : V) : Option V :=
 match y with
 | .gn => match op, x with
  | .leq, .sc (.int .i64 k) => some (.sc (.bool (E7 k)))
  | .gtr, .sc (.int .i64 k) => some (.sc (.bool (!E7 k)))
  | _, _ => none
 | _ => none
theorem zd {P : Program} {E : Env} {w : World} {op : BinOp} {T : TypeId} {x y v : V} {a b : Value} (xo yo : Operand) (hx : bC E x a) (hy : bC E y b) (h : D1 op x y = some v) :
  ∃ z, (do eqGuard op T xo yo a b; binOp op T a b : Sem Value).run P w = .ok z w ∧ bC E v z := by
 unfold D1 at h
 split at h
 ·cases hy
  split at h
  ·rename_i k
   cases h
   cases hx
   refine ⟨.bool (decide (k ≤ aA.n)), by simp [binOp, Op.intCmp, eqGuard], by rw [xy]; exact .sc _ _⟩
  ·rename_i k
   cases h
   cases hx
   refine ⟨.bool (decide (k > aA.n)), by simp [binOp, Op.intCmp, eqGuard], ?_⟩
   have : (!E7 k) = decide (k > aA.n) := by
    rw [xy]
    by_cases h : k ≤ aA.n
    ·rw [decide_eq_true h, decide_eq_false (by omega)]; rfl
    ·rw [decide_eq_false h, decide_eq_true (by omega)]; rfl
   rw [this]; exact .sc _ _
  ·cases h
 ·cases h
def rC (P : Program) (op : BinOp) (T : TypeId) (y : V) : Option V :=
 match y with
 | .sc (.pointer none) => match P.underlying T with
  | some (.pointer _) => match op with
   | .eql => some (.sc (.bool false))
   | .neq => some (.sc (.bool true))
   | _ => none
  | _ => none
 | _ => none
def xz (P : Program) (op : BinOp) (T : TypeId) (x y : V) : Option V :=
 match x with
 | .cH _ => rC P op T y
 | .ptr _ _ => rC P op T y
 | .dZ _ _ _ _ => rC P op T y
 | _ => none
theorem xC {P : Program} {E : Env} {w : World} {op : BinOp} {T : TypeId} {x y v : V} {a b : Value} (xo yo : Operand) (hx : bC E x a) (hy : bC E y b) (h : xz P op T x y = some v) :
  ∃ z, (do eqGuard op T xo yo a b; binOp op T a b : Sem Value).run P w = .ok z w ∧ bC E v z := by
 have key : ∀ ad : Addr, a = .pointer (some ad) → rC P op T y = some v → ∃ z, (do eqGuard op T xo yo a b; binOp op T a b : Sem Value).run P w = .ok z w ∧ bC E v z := by
  rintro ad rfl h
  unfold rC at h
  split at h
  ·split at h
   ·rename_i e hT
    cases hy
    have he : (Op.equal T (.pointer (some ad)) (.pointer none)).run P w = .ok false w := by
     show (Op.equalIn (9999 + 1) T _ _).run P w = _
     unfold Op.equalIn
     simp [aG hT]
    split at h
    ·cases h
     exact ⟨.bool false, by simp [binOp, eqGuard, he], .sc _ _⟩
    ·cases h
     exact ⟨.bool true, by simp [binOp, eqGuard, he], .sc _ _⟩
    ·cases h
   ·cases h
  ·cases h
 unfold xz at h
 split at h
 ·cases hx with
  | cH _ _ ad xf hF hR => exact key ad rfl h
 ·cases hx with
  | ptr _ _ _ g e c hb => exact key _ rfl h
 ·cases hx with
  | dZ _ _ _ _ _ g e c hb => exact key _ rfl h
 ·cases h
def ju : List V → Option (List Int)
 | [] => some []
 | .sc (.int .u8 n) :: r => match ju r with | some l => some (n :: l) | none => none
 | _ => none
def mX (P : Program) (s d : TypeId) (rows : List V) : Option V :=
 match P.underlying s with
 | some (.slice e) => match P.underlying e with
  | some (.int .u8) => match P.underlying d with
   | some .string => match ju rows with | some ns => some (.sc (.string (strOfNums ns))) | none => none
   | _ => none
  | _ => none
 | _ => none
def tO (P : Program) (mem : List aC) (s d : TypeId) : V → Option V
 | .slice rows => mX P s d rows
 | .ms b v o l => match mem[b]? with
  | some (.rows v' e rs) => if v' = v ∧ e = 1 ∧ o + l ≤ rs.length then mX P s d ((rs.drop o).take l) else none
  | some (.pV v' e rs) => if v' = v ∧ e = 1 ∧ o + l ≤ rs.length then mX P s d ((rs.drop o).take l) else none
  | _ => none
 | x => oJ P (convert s d) x
theorem Hd (P : Program) (mem : List aC) (s d : TypeId) (x : Value) : tO P mem s d (.sc x) = oJ P (convert s d) (.sc x) := rfl
theorem mD : ∀ {rows : List V} {ns : List Int}, ju rows = some ns → ns.length = rows.length
 | [], ns, h => by simp [ju] at h; subst h; rfl
 | r :: rs, ns, h => by
  unfold ju at h
  split at h
  ·rename_i heq; exact absurd heq (by simp)
  ·rename_i n l heq
   cases heq
   split at h
   ·rename_i l' hl
    cases h
    simp [mD hl]
   ·cases h
  ·cases h
theorem jW : ∀ {rows : List V} {ns : List Int}, ju rows = some ns → ∀ (i : Nat) (r : V), rows[i]? = some r → r = .sc (.int .u8 (ns.getD i 0))
 | [], ns, h, i, r, hr => by simp at hr
 | r0 :: rs, ns, h, i, r, hr => by
  unfold ju at h
  split at h
  ·rename_i heq; exact absurd heq (by simp)
  ·rename_i n l heq
   cases heq
   split at h
   ·rename_i l' hl
    cases h
    cases i with
    | zero => simp at hr; subst hr; rfl
    | succ i => exact jW hl i r (by simpa using hr)
   ·cases h
  ·cases h
theorem lV {P : Program} {w : World} {E : Env} {s d : TypeId} {rows : List V} {v : V} {aa : Option Addr} {cap : Nat} (h : mX P s d rows = some v) (hn : rows ≠ [] → ∃ g o, aa = some ⟨g, o, none⟩ ∧ ∀ (i : Nat) (r : V), rows[i]? = some r → ∃ x, w.cell? ⟨g, o + i, none⟩ = some x ∧ bC E r x) :
  ∃ y, (convert s d (.slice aa rows.length cap)).run P w = .ok y w ∧ bC E v y := by
 unfold mX at h
 split at h
 ·rename_i e hs
  split at h
  ·rename_i he
   split at h
   ·rename_i hd
    split at h
    ·rename_i ns hb
     cases h
     refine ⟨_, ?_, .sc _ _⟩
     have hl := mD hb
     cases rows with
     | nil =>
      have : ns = [] := List.length_eq_zero_iff.1 hl
      subst this
      rw [run_convert_bytes_string w s d e aa _ cap hs he hd]
      cases aa with
      | none => simp [Conv.bytesToString]; rfl
      | some a0 =>
       have := run_bytesToString (P := P) w a0 0 cap [] (by simp [loadCells, loadCellsFrom])
       have e0 : strOfNums [] = ByteArray.empty := rfl
       rw [e0]
       simpa using this
     | cons r0 rr =>
      obtain ⟨g, o, rfl, hc⟩ := hn (by simp)
      refine run_convert_bytes_arg w s e hs he g o _ cap ns hl (fun i hi => ?_) d hd
      obtain ⟨x, hx, hr⟩ := hc i _ (List.getElem?_eq_getElem hi)
      rw [hx, jW hb i _ (List.getElem?_eq_getElem hi)] at *
      rw [dk hr]
    ·cases h
   ·cases h
  ·cases h
 ·cases h
theorem so {P : Program} {s d : TypeId} {rows : List V} {v : V} (h : mX P s d rows = some v) : ∃ ns, ju rows = some ns := by
 unfold mX at h
 split at h
 ·split at h
  ·split at h
   ·split at h
    ·rename_i ns hb; exact ⟨ns, hb⟩
    ·cases h
   ·cases h
  ·cases h
 ·cases h
theorem E8 {w : World} {ad : Addr} {x : Value} (h : w.cell? ad = some x) : ad.spot = none := by
 unfold World.cell? at h
 split at h
 ·split at h
  ·simp at h
  ·rename_i h1; cases hs : ad.spot with | none => rfl | some s => simp [hs] at h1
 ·simp at h
theorem ze {P : Program} {E : Env} {w : World} {a : Act} {st : St} (hs : bH E w a st) {s d : TypeId} {x v : V} {y : Value} (hx : bC E x y) (h : tO P st.mem s d x = some v) : ∃ z, (convert s d y).run P w = .ok z w ∧ bC E v z := by
 have ms : ∀ (b v' o l e : Nat) (rs : List V), bC E (.ms b v' o l) y → e = 1 → o + l ≤ rs.length → (∀ g e' c, E.bd b v' = some (g, e', c) → e' = e ∧ iX E.pure e rs (fun k => w.cell? ⟨g, k, none⟩)) →
   mX P s d ((rs.drop o).take l) = some v → ∃ z, (convert s d y).run P w = .ok z w ∧ bC E v z := by
  intro b v' o l e rs hr he hl jv hb
  obtain ⟨ns, Yx⟩ := so hb
  have hlen : ((rs.drop o).take l).length = l := by simp; omega
  cases hr with
  | eN =>
   have h0 : (rs.drop o).take 0 = [] := List.take_zero
   rw [h0] at hb
   exact lV (aa := none) (cap := 0) (w := w) (E := E) hb (fun ch => absurd rfl ch)
  | ms _ _ _ _ _ g e' c aa cap di Yy Lj wE =>
   have gu := hb
   rw [← hlen]
   refine lV hb fun ch => ?_
   have R3 : 0 < l := by
    rcases Nat.eq_zero_or_pos l with h0 | h0
    ·subst h0; exact absurd List.take_zero ch
    ·exact h0
   obtain ⟨O4, O5⟩ := jv g e' c di
   subst he
   subst O4
   refine ⟨g, o * 1, Yy R3, fun i r hi => ?_⟩
   have hi' : rs[o + i]? = some r := by
    rw [List.getElem?_take] at hi
    split at hi
    ·simpa using hi
    ·simp at hi
   obtain ⟨-, h2⟩ := O5 _ r hi'
   have Cg := jW Yx i r hi
   obtain ⟨x, hx, -, He⟩ := h2 0 r (by rw [Cg]; rfl)
   refine ⟨x, ?_, He.mono (Env.nY E)⟩
   have : (o + i) * 1 + 0 = o * 1 + i := by omega
   rw [← this]; exact hx
 unfold tO at h
 split at h
 ·rename_i rows
  obtain ⟨ns, Yx⟩ := so h
  cases hx with
  | slice _ _ aa cap oZ ad xf ha jU hz hF lT hR =>
   refine lV h fun ch => ?_
   have key : ∀ (i : Nat) (r : V), rows[i]? = some r → ∃ x, w.cell? (ad.add i) = some x ∧ bC E r x := fun i r hi => by
    have Cg := jW Yx i r hi
    have hc : r.cells = [r] := by rw [Cg]; rfl
    have he : oZ = 1 := by rw [← hz i r hi, hc]; rfl
    have h1 := hF i r 0 r hi (by rw [hc]; rfl)
    have h2 := hR i r 0 r hi (by rw [hc]; rfl)
    rw [he, Nat.mul_one, Nat.add_zero] at h1
    exact ⟨_, hs.F _ _ h1, h2.mono (Env.nY E)⟩
   obtain ⟨r0, h0⟩ : ∃ r0, rows[0]? = some r0 := by
    cases rows with
    | nil => exact absurd rfl ch
    | cons r0 rr => exact ⟨r0, rfl⟩
   obtain ⟨x0, GY, -⟩ := key 0 r0 h0
   have SH : ad.add 0 = ad := by simp [Addr.add]
   have GZ := E8 GY
   rw [SH] at GZ
   obtain ⟨g, o, sp⟩ := ad
   obtain rfl : sp = none := GZ
   refine ⟨g, o, ha ch, fun i r hi => ?_⟩
   obtain ⟨x, hx, hr⟩ := key i r hi
   exact ⟨x, by rw [← hx]; congr 1; unfold Addr.add; by_cases h0 : i = 0 <;> simp [h0], hr⟩
 ·rename_i b v' o l
  split at h
  ·rename_i v1 e rs hm
   split at h
   ·rename_i hc
    obtain ⟨rfl, rfl, hl⟩ := hc
    refine ms b v1 o l 1 rs hx rfl hl (fun g e' c di => ?_) h
    rcases hs.mem b _ hm with ⟨Yz, hn⟩ | ⟨g', T, xs, c', gu, hh, -, -, jv, -⟩
    ·rw [hn] at di; cases di
    ·rw [gu] at di; cases di
     refine ⟨rfl, fun i row hi => ?_⟩
     obtain ⟨h1, h2⟩ := jv i row hi
     refine ⟨h1, fun j cc hj => ?_⟩
     obtain ⟨x, hx, h3⟩ := h2 j cc hj
     exact ⟨x, (kF hh _).trans hx, h3⟩
   ·cases h
  ·rename_i v1 e rs hm
   split at h
   ·rename_i hc
    obtain ⟨rfl, rfl, hl⟩ := hc
    refine ms b v1 o l 1 rs hx rfl hl (fun g e' c di => ?_) h
    rcases hs.mem b _ hm with ⟨Yz, hn⟩ | ⟨g', c', gu, -, jv⟩
    ·rw [hn] at di; cases di
    ·rw [gu] at di; cases di
     refine ⟨rfl, fun i row hi => ?_⟩
     obtain ⟨h1, h2⟩ := jv i row hi
     refine ⟨h1, fun j cc hj => ?_⟩
     obtain ⟨x, hx, h3⟩ := h2 j cc hj
     exact ⟨x, hs.F _ _ hx, h3⟩
   ·cases h
  ·cases h
 ·exact mT hx h
def rn (op : BinOp) (T : TypeId) (x y : Operand) : Value → Value → Sem Value := fun u v => do eqGuard op T x y u v; binOp op T u v
def tP (P : Program) (tt : Table) (T : TypeId) (x i : V) : Option V :=
 match x with
 | .ptr b o => match i with
  | .sc (.int _ n) => match P.underlying T with
   | some (.array len e) => match kD tt e with
    | some size => if 0 ≤ n ∧ n < len then some (.ptr b (o + n.toNat * size)) else none
    | none => none
   | _ => none
  | _ => none
 | _ => none
theorem zf {P : Program} {tt : Table} (ht : TT P tt) {E : Env} {T : TypeId} {p i v : V} {x y : Value} (hp : bC E p x) (hi : bC E i y) (h : tP P tt T p i = some v) (w : World) :
  ∃ z, (Instr.indexAt T x y).run P w = .ok z w ∧ bC E v z := by
 unfold tP kD at h
 split at h
 ·rename_i b o
  split at h
  ·rename_i k n
   split at h
   ·rename_i len e hd
    cases hE : tt e with
    | none => rw [hE] at h; simp at h
    | some ie =>
     rw [hE] at h; simp only at h
     split at h
     ·rename_i h0
      cases h
      cases hi with
      | sc =>
      cases hp with
      | ptr _ _ _ g e' c hb =>
      refine ⟨.pointer (some ⟨g, o + n.toNat * ie.size, none⟩), ?_, .ptr _ _ _ g e' c hb⟩
      simp [Instr.indexAt, asIntOf, aG hd, Instr.sureAddr, ht.sizeOf hE, h0, add_lit]
     ·cases h
   ·cases h
  ·cases h
 ·cases h
def NN (rows : List V) : Bool → V
 | true => .full rows
 | false => .slice rows
def D2 (tt : Table) (T : TypeId) (x h m : V) : Option V :=
 match x with
 | .slice rows => match y8 h with
  | some a => match y8 m with
   | some b => match eX tt T with
    | some e => match kD tt e with
     | some _ => if 0 ≤ a ∧ a ≤ b ∧ b ≤ rows.length then some (NN (rows.take a.toNat) (decide (a = b))) else none
     | none => none
    | none => none
   | none => none
  | none => none
 | _ => none
theorem zh {P : Program} {tt : Table} (ht : TT P tt) {E : Env} {T : TypeId} {x h m v : V} {y z u : Value} (hx : bC E x y) (hh : bC E h z) (hm : bC E m u) (hc : D2 tt T x h m = some v) (w : World) :
  ∃ q, (Instr.sliceAt T y none (some z) (some u)).run P w = .ok q w ∧ bC E v q := by
 unfold D2 at hc
 split at hc
 ·rename_i rows
  split at hc
  ·rename_i a ha
   split at hc
   ·rename_i b hb
    obtain ⟨k1, rfl⟩ := mU hh ha
    obtain ⟨k2, rfl⟩ := mU hm hb
    unfold eX kD at hc
    cases hT : tt T with
    | none => rw [hT] at hc; simp at hc
    | some iT =>
     rw [hT] at hc; simp only at hc
     cases he : iT.elem with
     | none => rw [he] at hc; simp at hc
     | some e =>
      rw [he] at hc; simp only at hc
      cases hE : tt e with
      | none => rw [hE] at hc; simp at hc
      | some ie =>
       rw [hE] at hc; simp only at hc
       obtain ⟨d, hd, -, xu, -⟩ := ht.desc T iT hT
       obtain rfl := xu e he
       split at hc
       ·rename_i jQ
        obtain ⟨h0, h1, h2⟩ := jQ
        cases hc
        cases hx with
        | slice _ _ aa cap oZ ad xf haa jU hz hF lT hR =>
        have hlen : (rows.take a.toNat).length = a.toNat := by rw [List.length_take]; omega
        have dE : (Instr.sliceAt T (.slice aa rows.length cap) none (some (.int k1 a)) (some (.int k2 b))).run P w = .ok (.slice aa a.toNat b.toNat) w := by
         simp only [Instr.sliceAt,Instr.slice,Sem.run_bind,aG hd,Result.andThen_ok,Instr.sliceBounds,Instr.sliceBound,asIntOf,Sem.run_pure,ht.sizeOf hE,Option.isSome_some]
         rw [if_pos ⟨by omega, by omega⟩]
         simp only [Sem.run_pure,Result.andThen_ok]
         rw [if_pos ⟨by omega, by omega⟩]
         simp [Addr.add]
        refine ⟨_, dE, ?_⟩
        have hg : ∀ (i : Nat) (row : V), (rows.take a.toNat)[i]? = some row → rows[i]? = some row := fun i row hi => by
         rw [List.getElem?_take] at hi
         split at hi
         ·exact hi
         ·cases hi
        have := bC.slice E (rows.take a.toNat) aa b.toNat oZ ad xf (fun ch => haa fun h => ch (by rw [h, List.take_nil])) (by omega) (fun i row hi => hz _ _ (hg i row hi)) (fun i row j c hi hj => hF _ _ _ _ (hg i row hi) hj) (fun i row j c hi hj => lT _ _ _ _ (hg i row hi) hj) fun i row j c hi hj => hR _ _ _ _ (hg i row hi) hj
        rw [hlen] at this
        by_cases LL : a = b
        ·rw [decide_eq_true LL]
         have hbn : b.toNat = (rows.take a.toNat).length := by rw [hlen, LL]
         have h4 : (Value.slice aa a.toNat b.toNat) = .slice aa (rows.take a.toNat).length (rows.take a.toNat).length := by rw [← hbn, ← LL]
         rw [h4]
         exact .full _ _ _ (by rw [← h4]; exact this)
        ·rw [decide_eq_false LL]
         exact this
       ·cases hc
   ·cases hc
  ·cases hc
 ·cases hc
def xD (P : Program) (tt : Table) (S : TypeId) (f : Nat) (x : V) : Option V :=
 match x with
 | .agg cs => match P.underlying S with
  | some (.struct fs) => match fs[f]? with
   | some fd => fA tt fd.type (cs.drop fd.offset)
   | none => none
  | _ => none
 | _ => none
theorem wa {P : Program} {tt : Table} (ht : TT P tt) {E : Env} {S : TypeId} {f : Nat} {x v : V} {y : Value} (hx : bC E x y) (h : xD P tt S f x = some v) (w : World) : ∃ z, (Instr.field S y f).run P w = .ok z w ∧ bC E v z := by
 unfold xD at h
 split at h
 ·rename_i cs
  split at h
  ·rename_i fs hu
   split at h
   ·rename_i fd hf
    cases hx with
    | agg _ _ xs hl hr =>
     simp only [Instr.field,Sem.run_bind,aG hu,Result.andThen_ok,hf]
     unfold fA at h
     cases hi : tt fd.type with
     | none => rw [hi] at h; simp at h
     | some i =>
      rw [hi] at h; simp only at h
      cases ha : i.agg with
      | false =>
       simp only [ha,Bool.false_eq_true,if_false] at h
       have h0 : cs[fd.offset]? = some v := by simpa [List.head?_eq_getElem?] using h
       have aZ : fd.offset < xs.size := by rw [← hl]; exact (List.getElem?_eq_some_iff.1 h0).1
       refine ⟨xs[fd.offset], ?_, hr _ _ _ h0 (Array.getElem?_eq_getElem aZ)⟩
       simp [part, asAgg, ht.isAgg hi, ha, Array.getElem?_eq_getElem aZ]
      | true =>
       simp only [ha,if_true] at h
       split at h
       ·rename_i hle
        simp only [Option.some.injEq] at h; subst h
        rw [List.length_drop] at hle
        refine ⟨.agg (xs.extract fd.offset (fd.offset + i.size)), ?_, .agg _ _ _ (by simp; omega) fun j c z hc hz => ?_⟩
        ·simp [part, asAgg, ht.isAgg hi, ha, ht.sizeOf hi]
        ·have hj : j < i.size := by
          by_cases hj : j < i.size
          ·exact hj
          ·rw [List.getElem?_take] at hc; simp [hj] at hc
         rw [List.getElem?_take_of_lt hj, List.getElem?_drop] at hc
         refine hr (fd.offset + j) c z hc ?_
         rw [Array.getElem?_extract] at hz
         split at hz
         ·exact hz
         ·cases hz
       ·cases h
   ·cases h
  ·cases h
 ·cases h
def iJ (P : Program) (tt : Table) (st : St) (o : Oper) : Option V :=
 match o.op with
 | .move x => some (st.eval x)
 | .assign x => some (st.eval x)
 | .pick c a b => match st.eval c with | .sc (.bool t) => some (if t = true then st.eval a else st.eval b) | _ => none
 | .load T x => mB tt st.mem T (st.eval x)
 | .nilCheck x => O2 (st.eval x)
 | .binOp op T x y _ => match D1 op (st.eval x) (st.eval y) with
  | some v => some v
  | none => match xz P op T (st.eval x) (st.eval y) with
   | some v => some v
   | none => c5 P (rn op T x y) (st.eval x) (st.eval y)
 | .unOp op _ x => oJ P (Op.unary op) (st.eval x)
 | .convert s d x => tO P st.mem s d (st.eval x)
 | .makeFunc fn first cap => some (.bp fn (first.toList.map st.eval) (cap.toList.map st.eval))
 | .slice T x lo hi none => xv P tt st.mem T (st.eval x) (lo.map st.eval) (hi.map st.eval)
 | .fieldAddr S x f => xq tt S f (st.eval x)
 | .field S x f => xD P tt S f (st.eval x)
 | .slice T x none (some h) (some m) => D2 tt T (st.eval x) (st.eval h) (st.eval m)
 | .indexAddr T x i => match j9 tt st.mem T (st.eval x) (st.eval i) with
  | some v => some v
  | none => tP P tt T (st.eval x) (st.eval i)
 | .index T x i => c5 P (Instr.index T) (st.eval x) (st.eval i)
 | .extract t i => match st.eval t with | .cC vs => vs[i]? | _ => none
 | .lookup T x i ok => gb P st.mem T (st.eval x) (st.eval i) ok
 | .entry it => E6 st.mem (st.eval it)
 | .call { callee := .builtin .len, args := xs, argTypes := ts } => match rA st.mem ts P (xs.toList.map st.eval) with
  | some v => some v
  | none => xx P tt ts o.type (xs.toList.map st.eval)
 | .call { callee := .builtin .max, args := xs, argTypes := ts } => ib P (Builtin.max_ ts o.type) (xs.toList.map st.eval)
 | .call { callee := .builtin .min, args := xs, argTypes := ts } => ib P (Builtin.min_ ts o.type) (xs.toList.map st.eval)
 | _ => none

theorem mY {P : Program} {f : Array Value → Sem Value} {E : Env} {w : World} {xs : List V} {v : V} {ys : Array Value} (hx : bo E xs ys.toList) (h : ib P f xs = some v) : ∃ z, (f ys).run P w = .ok z w ∧ bC E v z := by
 unfold ib at h
 split at h
 ·rename_i l hl
  have := lU hx hl
  split at h
  ·rename_i z hz
   simp only [Option.some.injEq] at h; subst h
   subst this
   exact ⟨z, dD _ (by simpa using hz) w, gC E z⟩
  ·simp at h
 ·simp at h

theorem xE {P : Program} {tt : Table} (ht : TT P tt) {ts : Array TypeId} {ty t e : TypeId} (h0 : ts[0]? = some t) (he : eX tt t = some e) (w : World) (aa : Option Addr) (len cap : Nat) :
  (Builtin.len_ ts ty #[.slice aa len cap]).run P w = .ok (.int .i64 len) w := by
 unfold eX at he
 cases hT : tt t with
 | none => rw [hT] at he; simp at he
 | some iT =>
  rw [hT] at he; simp only at he
  obtain ⟨d, hd, -, xu, -⟩ := ht.desc t iT hT
  obtain rfl := xu e he
  simp [Builtin.len_, h0, aG hd, goInt]

theorem Ch {P : Program} {tt : Table} (ht : TT P tt) {E : Env} {w : World} {ts : Array TypeId} {ty : TypeId} {xs : List V} {v : V} {ys : Array Value} (hx : bo E xs ys.toList) (h : xx P tt ts ty xs = some v) :
  ∃ z, (Builtin.len_ ts ty ys).run P w = .ok z w ∧ bC E v z := by
 unfold xx at h
 split at h
 ·split at h
  ·rename_i t h0
   split at h
   ·rename_i e he
    simp only [Option.some.injEq] at h; subst h
    obtain ⟨x, r, hy, h1, h2⟩ := hx.of_cons
    have := h2.of_nil; subst this
    obtain rfl : ys = #[x] := by rw [← Array.toArray_toList (xs := ys), hy]
    cases h1 with
    | slice _ _ aa cap oZ ad xf ha jU hz hF lT hR => exact ⟨_, xE ht h0 he w aa _ cap, .sc _ _⟩
   ·simp at h
  ·simp at h
 ·split at h
  ·rename_i t h0
   split at h
   ·rename_i e he
    simp only [Option.some.injEq] at h; subst h
    obtain ⟨x, r, hy, h1, h2⟩ := hx.of_cons
    have := h2.of_nil; subst this
    obtain rfl : ys = #[x] := by rw [← Array.toArray_toList (xs := ys), hy]
    cases h1 with
    | eN => exact ⟨_, xE ht h0 he w none _ 0, .sc _ _⟩
    | ms _ _ _ _ _ g e' c aa cap hb hl Lj wE => exact ⟨_, xE ht h0 he w aa _ cap, .sc _ _⟩
   ·simp at h
  ·simp at h
 ·exact mY hx h

theorem bN {P : Program} {s : Sem Value} {w : World} {x : Value} (h : s.run P w = .ok x w) : (do pure (Next.value (← s)) : Sem Next).run P w = .ok (.value x) w := by
 simp [h]

theorem n4 {P : Program} {tt : Table} (ht : TT P tt) {E : Env} {w : World} {a : Act} {st : St} (hs : bH E w a st) {o : Oper} {v : V} (h : iJ P tt st o = some v) :
  ∃ x, (execOp a.eval o).run P w = .ok (.value x) w ∧ bC E v x := by
 obtain ⟨dst, op, type, pos, after, guard⟩ := o
 unfold iJ at h
 dsimp only at h
 split at h
 ·simp only [Option.some.injEq] at h; subst h; exact ⟨_, rfl, hs.eval _⟩
 ·simp only [Option.some.injEq] at h; subst h; exact ⟨_, rfl, hs.eval _⟩
 ·rename_i c x y
  split at h
  ·rename_i t hc
   simp only [Option.some.injEq] at h; subst h
   have := hs.eval c
   rw [hc] at this
   refine ⟨if t = true then a.eval x else a.eval y, ?_, ?_⟩
   ·simp [execOp, dk this, asBool]
   ·cases t <;> exact hs.eval _
  ·simp at h
 ·obtain ⟨y, h1, h2⟩ := sn ht hs (hs.eval _) h
  exact ⟨y, bN h1, h2⟩
 ·rename_i x
  have hx := hs.eval x
  generalize hy : a.eval x = y at hx
  have dE : ∀ z, (∀ m f c, z ≠ .func (.method m) f c) → z ≠ .pointer none → z ≠ .nilIface → z ≠ .nilFunc → a.eval x = z → (execOp a.eval { dst, op := .nilCheck x, type, pos, after, guard }).run P w = .ok (.value z) w := by
   intro z h1 h2 h3 h4 he
   simp only [execOp,he]
   rfl
  unfold O2 at h
  split at h <;> simp only [Option.some.injEq,reduceCtorEq] at h <;> subst h <;> rename_i hv <;> rw [hv] at hx
  ·cases hx with
   | ptr _ _ _ g e c hb => exact ⟨_, dE _ (by simp) (by simp) (by simp) (by simp) hy, .ptr _ _ _ g e c hb⟩
  ·cases hx with
   | dZ _ _ _ _ _ g e c hb => exact ⟨_, dE _ (by simp) (by simp) (by simp) (by simp) hy, .dZ _ _ _ _ _ g e c hb⟩
  ·cases hx with
   | cH _ _ ad xf hF hr => exact ⟨_, dE _ (by simp) (by simp) (by simp) (by simp) hy, .cH _ _ _ xf hF hr⟩
  ·cases hx with
   | bp _ f first cap xs ys h1 h2 h3 h4 => exact ⟨_, dE _ (by simp) (by simp) (by simp) (by simp) hy, .bp _ _ _ _ _ _ h1 h2 h3 h4⟩
  ·have := dk hx
   subst this
   exact ⟨_, dE _ (by simp) (by simp) (by simp) (by simp) hy, .sc _ _⟩
 ·rename_i op T x y _
  split at h
  ·rename_i hg
   cases h
   obtain ⟨z, h1, h2⟩ := zd (P := P) (w := w) (T := T) x y (hs.eval x) (hs.eval y) hg
   exact ⟨z, bN h1, h2⟩
  ·split at h
   ·rename_i hg
    cases h
    obtain ⟨z, h1, h2⟩ := xC (P := P) (w := w) (T := T) x y (hs.eval x) (hs.eval y) hg
    exact ⟨z, bN h1, h2⟩
   ·obtain ⟨z, h1, h2⟩ := jt (w := w) (hs.eval x) (hs.eval y) h
    exact ⟨z, bN h1, h2⟩
 ·obtain ⟨z, h1, h2⟩ := mT (w := w) (hs.eval _) h
  exact ⟨z, bN h1, h2⟩
 ·obtain ⟨z, h1, h2⟩ := ze (w := w) hs (hs.eval _) h
  exact ⟨z, bN h1, h2⟩
 ·rename_i fn first cap
  simp only [Option.some.injEq] at h; subst h
  have h1 := hs.lz first
  have h2 := hs.lz cap
  exact ⟨_, bN rfl, .bp _ _ _ _ _ _ (by simp) (by simp) (fun i c x hc hx => h1.2 i c x hc (by simpa using hx)) fun i c x hc hx => h2.2 i c x hc (by simpa using hx)⟩
 ·obtain ⟨z, h1, h2⟩ := Cf ht hs (hs.eval _) h
  exact ⟨z, bN h1, h2⟩
 ·obtain ⟨z, h1, h2⟩ := xr ht (hs.eval _) h w
  exact ⟨z, bN h1, h2⟩
 ·obtain ⟨z, h1, h2⟩ := wa ht (hs.eval _) h w
  exact ⟨z, bN h1, h2⟩
 ·obtain ⟨z, h1, h2⟩ := zh ht (hs.eval _) (hs.eval _) (hs.eval _) h w
  exact ⟨z, bN h1, h2⟩
 ·split at h
  ·rename_i hv
   cases h
   obtain ⟨z, h1, h2⟩ := xt ht hs (hs.eval _) (hs.eval _) hv
   exact ⟨z, bN h1, h2⟩
  ·obtain ⟨z, h1, h2⟩ := zf ht (hs.eval _) (hs.eval _) h w
   exact ⟨z, bN h1, h2⟩
 ·obtain ⟨z, h1, h2⟩ := jt (w := w) (hs.eval _) (hs.eval _) h
  exact ⟨z, bN h1, h2⟩
 ·rename_i t i
  split at h
  ·rename_i vs hv
   have := hs.eval t
   rw [hv] at this
   generalize hy : a.eval t = y at this
   cases this with
   | cC _ _ xs hl hr =>
    have hi : i < xs.size := by rw [← hl]; exact (List.getElem?_eq_some_iff.1 h).1
    exact ⟨xs[i], bN (by simp [hy, Instr.extract, Array.getElem?_eq_getElem hi]), hr i v _ h (Array.getElem?_eq_getElem hi)⟩
  ·simp at h
 ·obtain ⟨z, h1, h2⟩ := v8 hs (hs.eval _) (hs.eval _) h
  exact ⟨z, bN h1, h2⟩
 ·obtain ⟨z, h1, h2⟩ := Ce hs (hs.eval _) h
  exact ⟨z, bN h1, h2⟩
 ·split at h
  ·rename_i hl
   cases h
   obtain ⟨z, h1, h2⟩ := Cd hs (hs.lz _) hl
   exact ⟨z, bN h1, h2⟩
  ·obtain ⟨z, h1, h2⟩ := Ch ht (w := w) (hs.lz _) h
   exact ⟨z, bN h1, h2⟩
 ·obtain ⟨z, h1, h2⟩ := mY (w := w) (hs.lz _) h
  exact ⟨z, bN h1, h2⟩
 ·obtain ⟨z, h1, h2⟩ := mY (w := w) (hs.lz _) h
  exact ⟨z, bN h1, h2⟩
 ·simp at h
end Go.Eng
end

section
namespace Go.Eng
variable [aA]
open Go.RowKit (Below)

def bO (mem : List aC) (key : Nat) (B : aC) : List aC := if key < mem.length then mem.set key B else mem ++ [B]
def e6 (mem : List aC) (key : Nat) : Prop := mem[key]? = some .hole ∨ key = mem.length
def Env.with (E : Env) (key b7 : Nat) (t : Nat × Nat × Nat) : Env := { F := E.F, bd := fun k v => if k = key ∧ v = b7 then some t else E.bd k v, gl := E.gl }

theorem lW {mem : List aC} {key : Nat} (h : key ≤ mem.length) (B : aC) (k : Nat) : (bO mem key B)[k]? = if k = key then some B else mem[k]? := by
 unfold bO
 split
 ·rename_i aZ
  rw [List.getElem?_set]
  by_cases hk : key = k
  ·subst hk; simp [aZ]
  ·rw [if_neg hk, if_neg (fun e => hk e.symm)]
 ·rename_i gv
  have c9 : key = mem.length := by omega
  by_cases hk : k = key
  ·subst hk; rw [if_pos rfl, c9]; simp
  ·rw [if_neg hk, List.getElem?_append]
   split
   ·rfl
   ·rw [List.getElem?_eq_none (by simp; omega), List.getElem?_eq_none (by omega)]
theorem oL {mem : List aC} {key : Nat} (h : key ≤ mem.length) (B : aC) : mem.length ≤ (bO mem key B).length ∧ key < (bO mem key B).length := by
 unfold bO
 split <;> simp <;> omega
theorem e6.le {mem : List aC} {key : Nat} (h : e6 mem key) : key ≤ mem.length := by
 rcases h with h | h
 ·exact Nat.le_of_lt (List.getElem?_eq_some_iff.1 h).1
 ·omega
theorem bH.free {E : Env} {w : World} {a : Act} {st : St} (hs : bH E w a st) {key : Nat} (h : e6 st.mem key) : ∀ v, E.bd key v = none := by
 rcases h with h | h
 ·exact hs.mem _ _ h
 ·exact hs.top _ (by omega)
theorem Env.jo {E : Env} {key b7 : Nat} (h : E.bd key b7 = none) (t : Nat × Nat × Nat) : E.le (E.with key b7 t) :=
 ⟨fun _ _ h => h, fun b v u hb => by
  show (if b = key ∧ v = b7 then some t else E.bd b v) = some u
  rw [if_neg (fun e => by rw [e.1, e.2, h] at hb; cases hb)]; exact hb⟩

theorem j8.mono {E E' : Env} {w w' : World} {k : Nat} {B : aC} (h : j8 E w k B) (hle : E.le E') (Hf : ∀ v, E.bd k v = none → E'.bd k v = none)
  (tQ : ∀ g e c, E.bd k B.b7 = some (g, e, c) → w'.heap[g]? = w.heap[g]?) (hF : ∀ g e c o, E.bd k B.b7 = some (g, e, c) → E.F ⟨g, o, none⟩ = none → E'.F ⟨g, o, none⟩ = none) : j8 E' w' k B := by
 have jv : ∀ {e rs} {f f' : Nat → Option Value}, (∀ o x, f o = some x → f' o = some x) → iX E.pure e rs f → iX E'.pure e rs f' := fun hf hr i row hi => by
  obtain ⟨h1, h2⟩ := hr i row hi
  exact ⟨h1, fun j c hj => let ⟨x, hx, h1, hr⟩ := h2 j c hj; ⟨x, hf _ _ hx, h1, hr.mono (Env.gL hle)⟩⟩
 cases B with
 | hole => exact fun v => Hf v (h v)
 | dead => trivial
 | box cs =>
  obtain ⟨g, T, xs, hb, hh, hr, hf⟩ := h
  exact ⟨g, T, xs, hle.bd _ _ _ hb, (tQ _ _ _ hb).trans hh, hr.mono hle, fun o => hF _ _ _ o hb (hf o)⟩
 | rows v e rs =>
  rcases h with ⟨h1, h2⟩ | ⟨g, T, xs, c, hb, hh, ka, hl, hr, hf⟩
  ·exact .inl ⟨h1, Hf _ h2⟩
  ·exact .inr ⟨g, T, xs, c, hle.bd _ _ _ hb, (tQ _ _ _ hb).trans hh, ka, hl, jv (fun _ _ h => h) hr, fun o => hF _ _ _ o hb (hf o)⟩
 | loop s jV fr params assign body =>
  obtain ⟨l, fn, tmps, db, hb, hh, hr, hf⟩ := h
  exact ⟨l, fn, tmps, db, hle.bd _ _ _ hb, (tQ _ _ _ hb).trans hh, hr.mono hle, fun o => hF _ _ _ o hb (hf o)⟩
 | map bV clock =>
  obtain ⟨g, es, hb, hh, hr, hf⟩ := h
  exact ⟨g, es, hle.bd _ _ _ hb, (tQ _ _ _ hb).trans hh, hr.mono hle, fun o => hF _ _ _ o hb (hf o)⟩
 | fh m since seen last =>
  obtain ⟨g, gm, e, c, hb, hm, hh, hf⟩ := h
  exact ⟨g, gm, e, c, hle.bd _ _ _ hb, hle.bd _ _ _ hm, (tQ _ _ _ hb).trans hh, fun o => hF _ _ _ o hb (hf o)⟩
 | jP s pos =>
  obtain ⟨g, hb, hh, hf⟩ := h
  exact ⟨g, hle.bd _ _ _ hb, (tQ _ _ _ hb).trans hh, fun o => hF _ _ _ o hb (hf o)⟩
 | j7 =>
  obtain ⟨g, hb, hh, hf⟩ := h
  exact ⟨g, hle.bd _ _ _ hb, (tQ _ _ _ hb).trans hh, fun o => hF _ _ _ o hb (hf o)⟩
 | pV v e rs =>
  rcases h with ⟨h1, h2⟩ | ⟨g, c, hb, hl, hr⟩
  ·exact .inl ⟨h1, Hf _ h2⟩
  ·exact .inr ⟨g, c, hle.bd _ _ _ hb, hl, jv (fun _ _ h => hle.F _ _ h) hr⟩

theorem bH.new {E : Env} {w : World} {a : Act} {st : St} (hs : bH E w a st) {key : Nat} (hk : e6 st.mem key) {obj : Obj} {B : aC} {e c : Nat} (Hg : B.b7 = 0)
  (hB : j8 (E.with key 0 (w.heap.size, e, c)) (w.alloc obj) key B) :
  bH (E.with key 0 (w.heap.size, e, c)) (w.alloc obj) a { st with mem := bO st.mem key B } ∧ ec E w (E.with key 0 (w.heap.size, e, c)) (w.alloc obj) := by
 have wF := hs.free hk
 have hle := Env.jo (wF 0) (w.heap.size, e, c)
 have eg : ∀ k v, ¬ (k = key ∧ v = 0) → (E.with key 0 (w.heap.size, e, c)).bd k v = E.bd k v := fun k v ch => if_neg ch
 have c9 : (E.with key 0 (w.heap.size, e, c)).bd key 0 = some (w.heap.size, e, c) := if_pos ⟨rfl, rfl⟩
 have Lm : ∀ k v, k ≠ key → (E.with key 0 (w.heap.size, e, c)).bd k v = E.bd k v := fun k v ch => eg k v fun h => ch h.1
 refine ⟨⟨fun ad x hx => ?_, fun k v g e' c' hb => ?_, fun k B' pT => ?_, fun k gD v => ?_, fun k B' pT v hv => ?_, ?_, hs.fr.mono hle⟩, hle, fun k v g e' c' hb => ?_, fun ad x hx => .inl hx, rfl, rfl, rfl, by simp, fun b hb _ => Go.RowKit.Below.heap_alloc w _ b hb⟩
 ·rw [World.cell?_alloc_lt w _ ad (World.block_lt_of_cell? w ad (hs.F ad x hx))]; exact hs.F ad x hx
 ·by_cases c6 : k = key ∧ v = 0
  ·obtain ⟨rfl, rfl⟩ := c6; rw [c9] at hb; cases hb; simp
  ·rw [eg k v c6] at hb; have := hs.lt _ _ _ _ _ hb; simp; omega
 ·rw [lW hk.le] at pT
  split at pT
  ·rename_i c6; subst c6; cases pT; exact hB
  ·rename_i c6
   exact (hs.mem k B' pT).mono hle (fun v h => by rw [Lm k v c6]; exact h) (fun g e' c' hb => Go.RowKit.Below.heap_alloc w _ g (hs.lt _ _ _ _ _ hb)) fun _ _ _ o _ h => h
 ·have := oL hk.le B
  dsimp only at gD
  rw [Lm k v (by omega)]; exact hs.top k (by omega) v
 ·dsimp only at pT
  rw [lW hk.le] at pT
  split at pT
  ·rename_i c6; subst c6; cases pT; rw [eg k v (by omega)]; exact wF v
  ·rename_i c6; rw [Lm k v c6]; exact hs.b7 k B' pT v hv
 ·intro k k' v v' g e1 c1 e2 c2 h5 h6
  by_cases c6 : k = key ∧ v = 0 <;> by_cases xF : k' = key ∧ v' = 0
  ·rw [c6.1, xF.1]
  ·obtain ⟨rfl, rfl⟩ := c6; rw [c9] at h5; cases h5; rw [eg k' _ xF] at h6; have := hs.lt _ _ _ _ _ h6; omega
  ·obtain ⟨rfl, rfl⟩ := xF; rw [c9] at h6; cases h6; rw [eg k _ c6] at h5; have := hs.lt _ _ _ _ _ h5; omega
  ·rw [eg k _ c6] at h5; rw [eg k' _ xF] at h6
   exact hs.apart _ _ _ _ _ _ _ _ _ h5 h6
 ·by_cases c6 : k = key ∧ v = 0
  ·obtain ⟨rfl, rfl⟩ := c6; rw [c9] at hb; cases hb; exact .inr (Nat.le_refl _)
  ·rw [eg k v c6] at hb; exact .inl ⟨_, _, _, _, hb⟩

theorem bH.Hh {E : Env} {w : World} {a : Act} {st : St} (hs : bH E w a st) {key : Nat} (hk : e6 st.mem key) {xs : Array Value} {cs : List V} (hr : bo E cs xs.toList) (T : TypeId) :
  ∃ E', bH E' (w.alloc (.cells xs T (0, 0))) a { st with mem := bO st.mem key (.box cs) } ∧ ec E w E' (w.alloc (.cells xs T (0, 0))) ∧ bC E' (.ptr key 0) (.pointer (some ⟨w.heap.size, 0, none⟩)) := by
 have hle := Env.jo (hs.free hk 0) (w.heap.size, 0, 0)
 have := hs.new (obj := .cells xs T (0, 0)) (B := .box cs) (e := 0) (c := 0) hk rfl ⟨w.heap.size, T, xs, if_pos ⟨rfl, rfl⟩, heap_alloc_new w _, hr.mono hle, fun o => ?_⟩
 ·exact ⟨_, this.1, this.2, .ptr _ _ _ _ 0 0 (if_pos ⟨rfl, rfl⟩)⟩
 ·show E.F _ = none
  cases hx : E.F ⟨w.heap.size, o, none⟩ with
  | none => rfl
  | some x => have := World.block_lt_of_cell? w _ (hs.F _ _ hx); simp at this

theorem bH.pX {E : Env} {w : World} {a : Act} {st : St} (hs : bH E w a st) {key : Nat} (hk : e6 st.mem key) {xs : Array Value} {rs : List V} {e c : Nat} (T : TypeId) (ka : xs.size = c * e) (hl : rs.length ≤ c)
  (hr : iX E.pure e rs (fun o => xs[o]?)) :
  ∃ E', bH E' (w.alloc (.cells xs T (0, 0))) a { st with mem := bO st.mem key (.rows 0 e rs) } ∧ ec E w E' (w.alloc (.cells xs T (0, 0))) ∧ bC E' (.ms key 0 0 rs.length) (.slice (some ⟨w.heap.size, 0, none⟩) rs.length c) := by
 have hle := Env.jo (hs.free hk 0) (w.heap.size, e, c)
 have := hs.new (obj := .cells xs T (0, 0)) (B := .rows 0 e rs) (e := e) (c := c) hk rfl (.inr ⟨w.heap.size, T, xs, c, if_pos ⟨rfl, rfl⟩, heap_alloc_new w _, ka, hl, fun i row hi => ?_, fun o => ?_⟩)
 ·exact ⟨_, this.1, this.2, .ms _ _ _ _ _ w.heap.size e c _ _ (if_pos ⟨rfl, rfl⟩) (fun _ => by simp) (fun _ => ⟨rfl, rfl⟩) ⟨hl, Nat.zero_add _, fun _ => by simp⟩⟩
 ·obtain ⟨h1, h2⟩ := hr i row hi
  exact ⟨h1, fun j c' hj => let ⟨x, hx, h1, hr⟩ := h2 j c' hj; ⟨x, hx, h1, hr.mono (Env.gL hle)⟩⟩
 ·show E.F _ = none
  cases hx : E.F ⟨w.heap.size, o, none⟩ with
  | none => rfl
  | some x => have := World.block_lt_of_cell? w _ (hs.F _ _ hx); simp at this

theorem bH.LM {E : Env} {w : World} {a : Act} {st : St} (hs : bH E w a st) {key : Nat} (hk : e6 st.mem key) (e : Nat) : bH E w a { st with mem := bO st.mem key (.rows 0 e []) } := by
 have hn := hs.free hk
 refine ⟨hs.F, hs.lt, fun k B hB => ?_, fun k gD => hs.top k ?_, fun k B hB v hv => ?_, hs.apart, hs.fr⟩
 ·rw [lW hk.le] at hB
  split at hB
  ·rename_i c6; subst c6; cases hB; exact .inl ⟨rfl, hn 0⟩
  ·exact hs.mem k B hB
 ·have := oL hk.le (.rows 0 e []); dsimp only at gD; omega
 ·dsimp only at hB
  rw [lW hk.le] at hB
  split at hB
  ·rename_i c6; subst c6; exact hn v
  ·exact hs.b7 k B hB v hv
def fK (xs : Array Value) (o : Nat) : List Value → Array Value
 | [] => xs
 | v :: r => fK (xs.setIfInBounds o v) (o + 1) r
def gf (cs : List V) (o : Nat) : List V → List V
 | [] => cs
 | v :: r => gf (cs.set o v) (o + 1) r

theorem iA (vs : List Value) : ∀ (xs : Array Value) (o : Nat), (fK xs o vs).size = xs.size := by
 induction vs with
 | nil => intro xs o; rfl
 | cons v r ih => intro xs o; simp [fK, ih]
theorem tR (vs : List V) : ∀ (cs : List V) (o : Nat), (gf cs o vs).length = cs.length := by
 induction vs with
 | nil => intro cs o; rfl
 | cons v r ih => intro cs o; simp [gf, ih]
theorem sr {E : Env} (vs : List V) : ∀ (ys : List Value) (cs : List V) (xs : Array Value) (o : Nat), bo E vs ys → bo E cs xs.toList → bo E (gf cs o vs) (fK xs o ys).toList := by
 induction vs with
 | nil => intro ys cs xs o h k; have := h.of_nil; subst this; exact k
 | cons v r ih =>
  intro ys cs xs o h k
  obtain ⟨y, ys, rfl, h1, h2⟩ := h.of_cons
  exact ih ys _ _ _ h2 (by simpa using k.set o h1)
theorem fQ (vs : List Value) : ∀ (xs : Array Value) (o k : Nat), o + vs.length ≤ xs.size → (fK xs o vs)[k]? = if o ≤ k ∧ k < o + vs.length then vs[k - o]? else xs[k]? := by
 induction vs with
 | nil => intro xs o k _; simp [fK]; intro h1 h2; omega
 | cons v r ih =>
  intro xs o k h
  simp only [List.length_cons] at h
  rw [fK, ih _ _ _ (by simp; omega)]
  by_cases h1 : o + 1 ≤ k ∧ k < o + 1 + r.length
  ·rw [if_pos h1, if_pos ⟨by omega, by simp; omega⟩]
   have : k - o = (k - (o + 1)) + 1 := by omega
   rw [this, List.getElem?_cons_succ]
  ·rw [if_neg h1]
   by_cases h2 : k = o
   ·subst h2
    rw [if_pos ⟨Nat.le_refl _, by simp⟩]
    simp only [Nat.sub_self,List.getElem?_cons_zero]
    rw [Array.getElem?_setIfInBounds_self_of_lt (by omega)]
   ·rw [if_neg (by simp only [List.length_cons]; omega), Array.getElem?_setIfInBounds_ne (fun e => h2 e.symm)]
theorem zi (vs : List V) : ∀ (cs : List V) (o k : Nat), o + vs.length ≤ cs.length → (gf cs o vs)[k]? = if o ≤ k ∧ k < o + vs.length then vs[k - o]? else cs[k]? := by
 induction vs with
 | nil => intro xs o k _; simp [gf]; intro h1 h2; omega
 | cons v r ih =>
  intro xs o k h
  simp only [List.length_cons] at h
  rw [gf, ih _ _ _ (by simp; omega)]
  by_cases h1 : o + 1 ≤ k ∧ k < o + 1 + r.length
  ·rw [if_pos h1, if_pos ⟨by omega, by simp; omega⟩]
   have : k - o = (k - (o + 1)) + 1 := by omega
   rw [this, List.getElem?_cons_succ]
  ·rw [if_neg h1]
   by_cases h2 : k = o
   ·subst h2
    rw [if_pos ⟨Nat.le_refl _, by simp⟩]
    simp only [Nat.sub_self,List.getElem?_cons_zero]
    rw [List.getElem?_set]; simp; omega
   ·rw [if_neg (by simp only [List.length_cons]; omega), List.getElem?_set_ne (fun e => h2 e.symm)]

structure pY (w w' : World) (g : Nat) : Prop where
 os : w'.os = w.os
 tape : w'.tape = w.tape
 output : w'.output = w.output
 size : w'.heap.size = w.heap.size
 heap : ∀ b, b ≠ g → w'.heap[b]? = w.heap[b]?

theorem gS {P : Program} {g : Nat} {T : TypeId} (o : Nat) : ∀ (vs : List Value) (i : Nat) (w : World) (xs : Array Value), w.heap[g]? = some (.cells xs T (0, 0)) → o + i + vs.length ≤ xs.size →
  (∀ v ∈ vs, v.oneCell' = true) → ∃ w', (storeCells ⟨g, o, none⟩ vs i).run P w = .ok () w' ∧ w'.heap[g]? = some (.cells (fK xs (o + i) vs) T (0, 0)) ∧ pY w w' g := by
 intro vs
 induction vs with
 | nil => intro i w xs hh _ _; exact ⟨w, rfl, hh, rfl, rfl, rfl, rfl, fun _ _ => rfl⟩
 | cons v r ih =>
  intro i w xs hh hl h1
  simp only [List.length_cons] at hl
  have hc : w.cell? ⟨g, o + i, none⟩ = some (xs[o + i]'(by omega)) := by rw [kF hh, Array.getElem?_eq_getElem]
  have hf : w.frozen? ⟨g, o + i, none⟩ = false := by simp [World.frozen?, hh]
  have Ln : (w.setCell ⟨g, o + i, none⟩ v).heap[g]? = some (.cells (xs.setIfInBounds (o + i) v) T (0, 0)) := by
   simp [World.setCell, Array.getElem?_modify, hh]
  obtain ⟨w', h2, h3, h4⟩ := ih (i + 1) _ _ Ln (by simp; omega) (fun v hv => h1 v (List.mem_cons_of_mem _ hv))
  refine ⟨w', ?_, by rw [fK]; exact h3, h4.os, h4.tape, h4.output, by rw [h4.size]; simp, fun b hb => (h4.heap b hb).trans (Go.RowKit.Below.heap_setCell w _ v b hb)⟩
  rw [storeCells]
  simp only [Sem.run_bind,add_lit]
  rw [run_store P w _ v .plain (h1 v (List.mem_cons_self ..))]
  simp [stored, hc, hf, h2]

def xG : V → Bool
 | .sc v => v.oneCell'
 | .undef => false
 | .agg _ => false
 | .cC _ => false
 | _ => true
def iB : V → Option (List V)
 | .agg cs => if cs.all xG then some cs else none
 | v => if xG v then some [v] else none

theorem zj {E : Env} {c : V} {x : Value} (h : bC E c x) (ho : xG c = true) : x.oneCell' = true := by
 cases h <;> first | rfl | exact ho | simp [xG] at ho
theorem lX {E : Env} {v : V} {x : Value} {cs : List V} (h : bC E v x) (hc : iB v = some cs) : bo E cs x.cells.toList ∧ ∀ y ∈ x.cells.toList, y.oneCell' = true := by
 have key : ∀ (cs : List V) (xs : List Value), bo E cs xs → cs.all xG = true → ∀ y ∈ xs, y.oneCell' = true := by
  intro cs
  induction cs with
  | nil => intro xs h _ y hy; rw [h.of_nil] at hy; simp at hy
  | cons c r ih =>
   intro xs h ha y hy
   obtain ⟨x, ys, rfl, h1, h2⟩ := h.of_cons
   simp only [List.all_cons,Bool.and_eq_true] at ha
   rcases List.mem_cons.1 hy with rfl | hy
   ·exact zj h1 ha.1
   ·exact ih ys h2 ha.2 y hy
 unfold iB at hc
 split at hc
 ·split at hc
  ·rename_i BU cK
   simp only [Option.some.injEq] at hc; subst hc
   have := h.cells (by simp) (by simp)
   exact ⟨this, key _ _ this cK⟩
  ·simp at hc
 ·split at hc
  ·rename_i ch lT
   simp only [Option.some.injEq] at hc; subst hc
   have h1 : x.oneCell' = true := zj h lT
   have hx : x.cells = #[x] := by cases x <;> first | rfl | simp [Value.oneCell'] at h1
   rw [hx]
   exact ⟨.cons h (.nil _), fun y hy => by simp at hy; subst hy; exact h1⟩
  ·simp at hc

theorem bH.xH {E : Env} {w : World} {a : Act} {st : St} (hs : bH E w a st) {g : Nat} (hf : ∀ o, E.F ⟨g, o, none⟩ = none) {ad : Addr} {x : Value} (hx : E.F ad = some x) : ad.block ≠ g := by
 intro he
 have hc := hs.F ad x hx
 have GZ : ad.spot = none := by
  unfold World.cell? at hc
  split at hc
  ·split at hc
   ·simp at hc
   ·rename_i h; cases GZ : ad.spot with | none => rfl | some s => simp [GZ] at h
  ·simp at hc
 have : ad = ⟨g, ad.off, none⟩ := by cases ad; simp_all
 rw [this, hf] at hx
 cases hx

theorem bH.zo {E : Env} {w w' : World} {a : Act} {st : St} (hs : bH E w a st) {b g e c : Nat} {B B' : aC} (hm : st.mem[b]? = some B) (hh : B.held = true) (SI : B'.b7 = B.b7) (hb : E.bd b B.b7 = some (g, e, c)) (hf : ∀ o, E.F ⟨g, o, none⟩ = none)
  (ho : pY w w' g) (hB : j8 E w' b B') : bH E w' a { st with mem := st.mem.set b B' } ∧ ec E w E w' := by
 have aZ : b < st.mem.length := (List.getElem?_eq_some_iff.1 hm).1
 refine ⟨⟨fun ad x hx => ?_, fun k v g' e' c' hk => by rw [ho.size]; exact hs.lt _ _ _ _ _ hk, fun k B1 hk => ?_, fun k hk => hs.top k (by simpa using hk), fun k B1 hk v hv => ?_, hs.apart, hs.fr⟩,
  E.le_refl, fun k v g e c h => .inl ⟨k, v, e, c, h⟩, fun _ _ h => .inl h, ho.os, ho.tape, ho.output, by rw [ho.size]; exact Nat.le_refl _, fun b' gu ch => ho.heap b' fun e => by subst e; exact ch _ _ _ _ hb⟩
 ·have ch := hs.xH hf hx
  have : w'.heap[ad.block]? = w.heap[ad.block]? := ho.heap _ ch
  rw [← hs.F ad x hx]; simp [World.cell?, this]
 ·rw [List.getElem?_set] at hk
  by_cases gA : b = k
  ·subst gA; simp only [if_true,aZ] at hk; cases hk; exact hB
  ·rw [if_neg gA] at hk
   cases Lo : B1.held with
   | false => cases B1 <;> first | exact hs.mem k _ hk | trivial | simp [aC.held] at Lo
   | true =>
    refine (hs.mem k B1 hk).mono E.le_refl (fun _ h => h) (fun g' e' c' di => ho.heap _ fun e => ?_) fun _ _ _ _ _ h => h
    subst e
    exact gA (hs.apart _ _ _ _ _ _ _ _ _ hb di)
 ·dsimp only at hk
  rw [List.getElem?_set] at hk
  by_cases hqb : b = k
  ·subst hqb; simp only [if_true,aZ] at hk; cases hk; exact hs.b7 b B hm v (by omega)
  ·rw [if_neg hqb] at hk; exact hs.b7 k B1 hk v hv

def eO : V → Bool
 | .gn => true
 | .sc _ => true
 | .slice _ => true
 | .cH _ => true
 | .undef => true
 | _ => false
theorem xI {E : Env} {v : V} {x : Value} (h : bC E v x) (hp : eO v = true) : bC E.pure v x := by
 cases h with
 | undef => exact .undef _ _
 | gn => exact .gn _
 | sc => exact .sc _ _
 | slice _ rows a cap oZ ad xf ha jU hz hF h1 hR => exact .slice _ _ _ _ oZ ad xf ha jU hz hF h1 hR
 | cH _ cs ad xf hF hR => exact .cH _ _ _ xf hF hR
 | _ => simp [eO] at hp

def setRow (row : V) (o : Nat) (new : List V) : V :=
 match row with
 | .agg cs => .agg (gf cs o new)
 | r => match o, new with
  | 0, [c] => c
  | _, _ => r

theorem xJ {row : V} {o : Nat} {new : List V} (ho : o + new.length ≤ row.cells.length) (lT : new.all xG = true) (ch : new ≠ []) : (setRow row o new).cells = gf row.cells o new := by
 cases row with
 | agg cs => rfl
 | _ =>
  simp only [V.cells,List.length_cons,List.length_nil] at ho ⊢
  match new, ch with
  | [c], _ =>
   obtain rfl : o = 0 := by simp at ho; omega
   simp only [List.all_cons,List.all_nil,Bool.and_true] at lT
   cases c <;> first | rfl | simp [xG] at lT
  | _ :: _ :: _, _ => simp at ho; omega

def jF (tt : Table) (mem : List aC) (T : TypeId) (p v : V) : Option (List aC) :=
 match iB v with
 | none => none
 | some new =>
  if kD tt T = some new.length then
   match p with
   | .ptr b o => match mem[b]? with
    | some (.box cs) => if o + new.length ≤ cs.length then some (mem.set b (.box (gf cs o new))) else none
    | _ => none
   | .dZ b v i o => match mem[b]? with
    | some (.rows v' e rs) => match rs[i]? with
     | some row => if v' = v ∧ o + new.length ≤ row.cells.length ∧ new ≠ [] ∧ new.all eO = true ∧ new.all xG = true then some (mem.set b (.rows v' e (rs.set i (setRow row o new)))) else none
     | none => none
    | _ => none
   | _ => none
  else none
instance (new : List V) : Decidable (new ≠ []) := match new with | [] => .isFalse (by simp) | _ :: _ => .isTrue (by simp)

theorem bo.pure {E : Env} : ∀ {vs : List V} {xs : List Value}, bo E vs xs → vs.all eO = true → bo E.pure vs xs
 | [], xs, h, _ => by rw [h.of_nil]; exact .nil _
 | v :: vs, xs, h, hp => by
  obtain ⟨x, ys, rfl, h1, h2⟩ := h.of_cons
  simp only [List.all_cons,Bool.and_eq_true] at hp
  exact .cons (xI h1 hp.1) (bo.pure h2 hp.2)

theorem pZ {P : Program} {tt : Table} (ht : TT P tt) {E : Env} {w : World} {a : Act} {st : St} (hs : bH E w a st) {T : TypeId} {p v : V} {x y : Value} {aQ : List aC} (hp : bC E p x) (hv : bC E v y)
  (h : jF tt st.mem T p v = some aQ) : ∃ w', (Instr.storeAt T x y).run P w = .ok () w' ∧ bH E w' a { st with mem := aQ } ∧ ec E w E w' := by
 unfold jF at h
 split at h
 ·simp at h
 ·rename_i new kZ
  obtain ⟨hr, lT⟩ := lX hv kZ
  split at h
  ·rename_i ka
   have hlen : y.cells.size = new.length := by have := hr.1; simp at this; exact this.symm
   have dE : ∀ {g o : Nat} {xs : Array Value} {T' : TypeId}, w.heap[g]? = some (.cells xs T' (0, 0)) → o + new.length ≤ xs.size →
     ∃ w', (Instr.storeAt T (.pointer (some ⟨g, o, none⟩)) y).run P w = .ok () w' ∧ w'.heap[g]? = some (.cells (fK xs o y.cells.toList) T' (0, 0)) ∧ pY w w' g := fun {g o xs T'} hh hle => by
    obtain ⟨w', h1, h2, h3⟩ := gS (P := P) o y.cells.toList 0 w xs hh (by have := hr.1; simp at this ⊢; omega) lT
    refine ⟨w', ?_, by simpa using h2, h3⟩
    unfold kD at ka
    split at ka
    ·rename_i i hi
     simp only [Option.some.injEq] at ka
     simp only [Instr.storeAt,Instr.sureAddr,Sem.run_bind,Sem.run_pure,Result.andThen_ok,storeVar,ht.sizeOf hi,hlen,ka,ne_eq,not_true_eq_false,if_false]
     exact h1
    ·simp at ka
   split at h
   ·rename_i b o
    split at h
    ·rename_i cs hm
     split at h
     ·rename_i hle
      simp only [Option.some.injEq] at h; subst h
      cases hp with
      | ptr _ _ _ g e c hb =>
       obtain ⟨g', T', xs, gu, hh, wG, hf⟩ := hs.mem b _ hm
       rw [hb] at gu; cases gu
       obtain ⟨w', h1, h2, h3⟩ := dE (o := o) hh (by have := wG.1; simp at this; omega)
       exact ⟨w', h1, hs.zo hm rfl rfl hb hf h3 ⟨g, T', _, hb, h2, sr _ _ _ _ _ hr wG, hf⟩⟩
     ·simp at h
    ·simp at h
   ·rename_i b vv i o
    split at h
    ·rename_i v' e rs hm
     split at h
     ·rename_i row rz
      split at h
      ·rename_i mZ
       obtain ⟨rfl, hle, ch, wH, SJ⟩ := mZ
       simp only [Option.some.injEq] at h; subst h
       cases hp with
       | dZ _ _ _ _ _ g e' c hb =>
        rcases hs.mem b _ hm with ⟨rfl, -⟩ | ⟨g', T', xs, c', gu, hh, rq, mC, wG, hf⟩
        ·simp at rz
        rw [hb] at gu; cases gu
        obtain ⟨o2, hrc⟩ := wG i row rz
        have hi : i < rs.length := (List.getElem?_eq_some_iff.1 rz).1
        have hmul : i * e + e ≤ xs.size := by
         rw [rq, ← Nat.succ_mul]; exact Nat.mul_le_mul_right e (by omega)
        obtain ⟨w', h1, h2, h3⟩ := dE (o := i * e + o) hh (by omega)
        refine ⟨w', h1, hs.zo hm rfl rfl hb hf h3 (.inr ⟨g, T', _, c, hb, h2, by rw [iA]; exact rq, by simpa using mC, ?_, hf⟩)⟩
        have XO : y.cells.toList.length = new.length := hr.1.symm
        intro i' YA zp
        rw [List.getElem?_set] at zp
        by_cases YB : i = i'
        ·subst YB
         simp only [if_true,hi] at zp
         cases zp
         have hc := xJ hle SJ ch
         refine ⟨by rw [hc, tR]; exact o2, fun j cc hj => ?_⟩
         rw [hc, zi _ _ _ _ hle] at hj
         dsimp only
         rw [fQ _ _ _ _ (by rw [XO]; omega), XO]
         by_cases kX : o ≤ j ∧ j < o + new.length
         ·rw [if_pos kX] at hj
          rw [if_pos ⟨by omega, by omega⟩]
          obtain ⟨z, hz, YC⟩ := (hr.pure wH).get hj
          exact ⟨z, by rw [← hz]; congr 1; omega, lT z (List.mem_of_getElem? hz), YC⟩
         ·rw [if_neg kX] at hj
          rw [if_neg (by omega)]
          exact hrc j cc hj
        ·rw [if_neg YB] at zp
         obtain ⟨h5, h6⟩ := wG i' YA zp
         refine ⟨h5, fun j cc hj => ?_⟩
         obtain ⟨z, hz, SK, YC⟩ := h6 j cc hj
         have BT : j < e := by rw [← h5]; exact (List.getElem?_eq_some_iff.1 hj).1
         refine ⟨z, ?_, SK, YC⟩
         dsimp only
         rw [fQ _ _ _ _ (by rw [XO]; omega), XO, if_neg ?_]
         ·exact hz
         ·intro kX
          rcases Nat.lt_or_gt_of_ne YB with aZ | hgt
          ·have : (i + 1) * e ≤ i' * e := Nat.mul_le_mul_right e aZ
           rw [Nat.succ_mul] at this
           omega
          ·have : (i' + 1) * e ≤ i * e := Nat.mul_le_mul_right e hgt
           rw [Nat.succ_mul] at this
           omega
      ·simp at h
     ·simp at h
    ·simp at h
   ·simp at h
  ·simp at h
def ss (E : Env) (e : Nat) (rs : List V) (ys : Array Value) : Prop := ys.size = rs.length * e ∧ iX E e rs (fun o => ys[o]?)

theorem tS {i n j e : Nat} (hi : i < n) (hj : j < e) : i * e + j < n * e := by
 have : (i + 1) * e ≤ n * e := Nat.mul_le_mul_right e hi
 rw [Nat.succ_mul] at this; omega

theorem wI {P : Program} {E : Env} {w : World} {ad : Addr} {rows : List V} {size : Nat} (hz : ∀ (i : Nat) (row : V), rows[i]? = some row → row.cells.length = size)
  (h : ∀ (i : Nat) (row : V) (j : Nat) (c : V), rows[i]? = some row → row.cells[j]? = some c → ∃ x, w.cell? (ad.add (i * size + j)) = some x ∧ x.oneCell' = true ∧ bC E c x) :
  ∃ ys : Array Value, (loadCells ad (rows.length * size)).run P w = .ok ys w ∧ ss E size rows ys := by
 let f : Nat → Value := fun k => (w.cell? (ad.add k)).getD default
 have hf : ∀ k, k < rows.length * size → w.cell? (ad.add k) = some (f k) := fun k hk => by
  have hs : 0 < size := Nat.pos_of_ne_zero fun e => by subst e; simp at hk
  have hi : k / size < rows.length := by rwa [Nat.div_lt_iff_lt_mul hs]
  have hj : k % size < size := Nat.mod_lt _ hs
  have rz := List.getElem?_eq_getElem hi
  have mC := hz _ _ rz
  obtain ⟨x, hx, -⟩ := h _ _ (k % size) _ rz (List.getElem?_eq_getElem (by rw [mC]; exact hj))
  rw [Nat.mul_comm, Nat.div_add_mod] at hx
  simp [f, hx]
 refine ⟨((List.range (rows.length * size)).map f).toArray, run_loadCells w ad _ f hf, by simp, fun i row hi => ⟨hz i row hi, fun j c hj => ?_⟩⟩
 obtain ⟨x, hx, h1, hr⟩ := h i row j c hi hj
 have fI : i < rows.length := (List.getElem?_eq_some_iff.1 hi).1
 have BT : j < size := by rw [← hz i row hi]; exact (List.getElem?_eq_some_iff.1 hj).1
 refine ⟨x, ?_, h1, hr⟩
 have := tS fI BT
 simp [this, f, hx]

def rowsOf (mem : List aC) (size : Nat) : V → Option (List V)
 | .slice rows => if cf rows 0 size = true then some rows else none
 | .ms b v s l => match mem[b]? with
  | some (.rows v' e rs) => if v' = v ∧ e = size ∧ s + l ≤ rs.length then some ((rs.drop s).take l) else none
  | some (.pV v' e rs) => if v' = v ∧ e = size ∧ s + l ≤ rs.length then some ((rs.drop s).take l) else none
  | _ => none
 | .sc (.slice none 0 0) => some []
 | _ => none

theorem tm {rs : List V} {s l i : Nat} {row : V} (h : ((rs.drop s).take l)[i]? = some row) : rs[s + i]? = some row := by
 rw [List.getElem?_take] at h
 split at h
 ·simpa using h
 ·simp at h

theorem e7 {P : Program} {E : Env} {w : World} {a : Act} {st : St} (hs : bH E w a st) {size : Nat} {v : V} {x : Value} {rows : List V} (hr : bC E v x) (h : rowsOf st.mem size v = some rows) :
  ∃ aa cap, x = .slice aa rows.length cap ∧ rows.length ≤ cap ∧ ∃ ys : Array Value, (Builtin.firstCells size rows.length x).run P w = .ok ys w ∧ ss E.pure size rows ys := by
 have xK : ∀ n, n = 0 → ∃ ys : Array Value, (Builtin.firstCells size n (.slice none n 0)).run P w = .ok ys w ∧ ss E.pure size [] ys := fun n hn => by
  subst hn
  exact ⟨#[], rfl, by simp, fun i row hi => by simp at hi⟩
 unfold rowsOf at h
 split at h
 ·rename_i kc
  split at h
  ·rename_i rD
   simp only [Option.some.injEq] at h; subst h
   cases hr with
   | slice _ _ aa cap oZ ad xf ha jU hz hF lT hR =>
    refine ⟨aa, cap, rfl, jU, ?_⟩
    cases jv : kc with
    | nil =>
     subst jv
     cases aa with
     | none => exact xK 0 rfl
     | some a0 => exact ⟨#[], by simp [Builtin.firstCells, loadCells, loadCellsFrom], by simp, fun i row hi => by simp at hi⟩
    | cons r0 rr =>
     have ch : kc ≠ [] := by simp [jv]
     have he : oZ = size := by
      unfold cf at rD
      have h0 : kc[0]? = some r0 := by simp [jv]
      rw [h0] at rD
      simp only [beq_iff_eq] at rD
      rw [← rD, hz 0 _ h0]
     subst he
     obtain rfl := ha ch
     rw [← jv]
     exact wI (P := P) hz fun i row j c hi hj => ⟨_, hs.F _ _ (hF i row j c hi hj), lT i row j c hi hj, hR i row j c hi hj⟩
  ·simp at h
 ·rename_i b v s l
  have SL : ∀ (rs : List V), s + l ≤ rs.length → rows = (rs.drop s).take l → (∀ g e c, E.bd b v = some (g, e, c) → e = size ∧ iX E.pure size rs (fun o => w.cell? ⟨g, o, none⟩)) →
    ∃ aa cap, x = .slice aa rows.length cap ∧ rows.length ≤ cap ∧ ∃ ys : Array Value, (Builtin.firstCells size rows.length x).run P w = .ok ys w ∧ ss E.pure size rows ys := by
   intro rs hl jv hb
   have hlen : rows.length = l := by rw [jv]; simp; omega
   cases hr with
   | eN =>
    have : rows = [] := List.length_eq_zero_iff.1 hlen
    subst this
    exact ⟨none, 0, rfl, Nat.le_refl _, xK 0 rfl⟩
   | ms _ _ _ _ _ g e c aa cap di Yy Lj wE =>
    obtain ⟨rfl, SM⟩ := hb g e c di
    rw [← hlen]
    refine ⟨aa, cap, rfl, by omega, ?_⟩
    by_cases R3 : 0 < l
    ·obtain rfl := Yy R3
     refine wI (P := P) (fun i row hi => ?_) fun i row j c hi hj => ?_
     ·rw [jv] at hi; exact (SM _ _ (tm hi)).1
     ·rw [jv] at hi
      obtain ⟨x, hx, h1, h2⟩ := (SM _ _ (tm hi)).2 j c hj
      exact ⟨x, by rw [add_lit, ← hx]; congr 2; rw [Nat.add_mul]; omega, h1, h2⟩
    ·have : rows = [] := List.length_eq_zero_iff.1 (by omega)
     subst this
     cases aa with
     | none => exact ⟨#[], rfl, by simp, fun i row hi => by simp at hi⟩
     | some a0 => exact ⟨#[], by simp [Builtin.firstCells, loadCells, loadCellsFrom], by simp, fun i row hi => by simp at hi⟩
  split at h
  ·rename_i v' e rs hm
   split at h
   ·rename_i hc
    obtain ⟨rfl, hc⟩ := hc
    simp only [Option.some.injEq] at h
    refine SL rs hc.2 h.symm fun g e' c hb => ?_
    rcases hs.mem b _ hm with ⟨-, hn⟩ | ⟨g', T', xs, c', gu, hh, -, -, wG, -⟩
    ·rw [hb] at hn; cases hn
    ·rw [hb] at gu; cases gu
     refine ⟨hc.1, ?_⟩
     rw [hc.1] at wG
     intro i row hi
     obtain ⟨h1, h2⟩ := wG i row hi
     exact ⟨h1, fun j c hj => by dsimp only; rw [kF hh]; exact h2 j c hj⟩
   ·simp at h
  ·rename_i v' e rs hm
   split at h
   ·rename_i hc
    obtain ⟨rfl, hc⟩ := hc
    simp only [Option.some.injEq] at h
    refine SL rs hc.2 h.symm fun g e' c hb => ?_
    rcases hs.mem b _ hm with ⟨-, hn⟩ | ⟨g', c', gu, -, wG⟩
    ·rw [hb] at hn; cases hn
    rw [hb] at gu; cases gu
    refine ⟨hc.1, ?_⟩
    rw [hc.1] at wG
    intro i row hi
    obtain ⟨h1, h2⟩ := wG i row hi
    exact ⟨h1, fun j c hj => let ⟨x, hx, h⟩ := h2 j c hj; ⟨x, hs.F _ _ hx, h⟩⟩
   ·simp at h
  ·simp at h
 ·simp only [Option.some.injEq] at h; subst h
  obtain rfl := dk hr
  exact ⟨none, 0, rfl, Nat.le_refl _, xK 0 rfl⟩
 ·simp at h

def iN : V → V
 | .sc (.slice none 0 0) => .slice []
 | v => v
theorem lA {E : Env} {v : V} {x : Value} (h : bC E v x) : bC E (iN v) x := by
 unfold iN
 split
 ·obtain rfl := dk h
  exact .slice _ [] none 0 0 default (fun _ _ => default) (by simp) (by simp) (by simp) (by simp) (by simp) (by simp)
 ·exact h
def Ci : V → V
 | .agg cs => .agg (cs.map iN)
 | v => iN v
theorem Cj {v : V} {cs : List V} (h : iB v = some cs) : (Ci v).cells = cs.map iN := by
 unfold iB at h
 split at h
 ·split at h
  ·simp only [Option.some.injEq] at h; subst h; rfl
  ·simp at h
 ·rename_i ch
  split at h
  ·simp only [Option.some.injEq] at h; subst h
   cases v <;> first | exact absurd rfl (ch _) | rfl | skip
   rename_i v
   simp only [Ci,iN,List.map_cons,List.map_nil]
   split <;> rfl
  ·simp at h
theorem bo.iN {E : Env} : ∀ {vs : List V} {xs : List Value}, bo E vs xs → bo E (vs.map iN) xs
 | [], xs, h => h
 | v :: vs, xs, h => by
  obtain ⟨x, ys, rfl, h1, h2⟩ := h.of_cons
  exact .cons (lA h1) (bo.iN h2)

def n5 (size : Nat) : List V → Option (List V)
 | [] => some []
 | v :: r => match iB v with
  | some cs => if cs.length = size ∧ cs.all eO = true then (match n5 size r with | some rs => some (Ci v :: rs) | none => none) else none
  | none => none

def m4 : Nat → List (Nat × Operand) → Bool
 | _, [] => true
 | k, (i, _) :: r => i == k && m4 (k + 1) r

theorem su (off : Nat) : ∀ (l : List Value) (n : Nat) (cs : Array Value), (l.zipIdx n).foldl (fun cs (x : Value × Nat) => cs.setIfInBounds (off + x.2) x.1) cs = fK cs (off + n) l := by
 intro l
 induction l with
 | nil => intro n cs; rfl
 | cons v r ih => intro n cs; rw [List.zipIdx_cons, List.foldl_cons, ih, fK, Nat.add_assoc]

theorem Hi {E : Env} {size : Nat} : ∀ (parts : List (Nat × Operand)) (k : Nat) (ev : Operand → V) (av : Operand → Value) (Z : Array Value) (rs : List V), (∀ p ∈ parts, bC E (ev p.2) (av p.2)) → m4 k parts = true →
  n5 size (parts.map fun p => ev p.2) = some rs → (k + parts.length) * size ≤ Z.size →
  ∃ Z', Instr.fill (fun i => some (i * size, size)) Z (parts.map fun p => (p.1, av p.2)) = some Z' ∧ Z'.size = Z.size ∧ rs.length = parts.length ∧ (∀ o, o < k * size → Z'[o]? = Z[o]?) ∧
   iX E.pure size rs (fun o => Z'[k * size + o]?) := by
 intro parts
 induction parts with
 | nil =>
  intro k ev av Z rs _ _ hl _
  simp only [List.map_nil,n5,Option.some.injEq] at hl; subst hl
  exact ⟨Z, rfl, rfl, rfl, fun _ _ => rfl, fun i row hi => by simp at hi⟩
 | cons p r ih =>
  intro k ev av Z rs jX E9 hl ka
  obtain ⟨i, o⟩ := p
  simp only [m4,Bool.and_eq_true,beq_iff_eq] at E9
  obtain ⟨rfl, E9⟩ := E9
  simp only [List.map_cons,n5] at hl
  split at hl
  ·rename_i cs xp
   split at hl
   ·rename_i hc
    split at hl
    ·rename_i jw O6
     simp only [Option.some.injEq] at hl; subst hl
     obtain ⟨hr, lT⟩ := lX (jX (i, o) (List.mem_cons_self ..)) xp
     have NO : (av o).cells.size = size := by have := hr.1; simp at this; omega
     simp only [List.length_cons] at ka
     have hmul : i * size + size ≤ Z.size := by
      have : (i + 1) * size ≤ (i + (r.length + 1)) * size := Nat.mul_le_mul_right _ (by omega)
      rw [Nat.succ_mul] at this; omega
     obtain ⟨Z', h1, h2, h3, h4, h5⟩ := ih (i + 1) ev av (fK Z (i * size) (av o).cells.toList) jw (fun p hp => jX p (List.mem_cons_of_mem _ hp)) E9 O6 (by rw [iA]; rw [show i + 1 + r.length = i + (r.length + 1) from by omega]; exact ka)
     have hlen : (av o).cells.toList.length = size := by simpa using NO
     have GZ : ∀ q, (fK Z (i * size) (av o).cells.toList)[q]? = if i * size ≤ q ∧ q < i * size + size then (av o).cells.toList[q - i * size]? else Z[q]? := fun q => by
      rw [fQ _ _ _ _ (by rw [hlen]; exact hmul), hlen]
     refine ⟨Z', ?_, by rw [h2, iA], by simp [h3], fun q hq => ?_, fun q row hq => ?_⟩
     ·simp only [List.map_cons,Instr.fill,NO]
      rw [if_neg (by simp; omega)]
      rw [← h1]
      congr 1
      rw [← Array.foldl_toList, Array.toList_zipIdx]
      exact su (i * size) (av o).cells.toList 0 Z
     ·rw [h4 q (by rw [Nat.succ_mul]; omega), GZ, if_neg (by omega)]
     ·cases q with
      | zero =>
       simp only [List.getElem?_cons_zero,Option.some.injEq] at hq; subst hq
       rw [Cj xp]
       refine ⟨by simpa using hc.1, fun j c hj => ?_⟩
       have BT : j < size := by rw [← hc.1]; simpa using (List.getElem?_eq_some_iff.1 hj).1
       obtain ⟨x, hx, He⟩ := (hr.pure hc.2).iN.get hj
       refine ⟨x, ?_, lT x (List.mem_of_getElem? hx), He⟩
       dsimp only
       rw [Nat.zero_mul, Nat.zero_add, h4 _ (by rw [Nat.succ_mul]; omega), GZ, if_pos ⟨by omega, by omega⟩, ← hx]
       congr 1; omega
      | succ q =>
       simp only [List.getElem?_cons_succ] at hq
       obtain ⟨h6, h7⟩ := h5 q row hq
       refine ⟨h6, fun j c hj => ?_⟩
       obtain ⟨x, hx, G0, He⟩ := h7 j c hj
       refine ⟨x, ?_, G0, He⟩
       dsimp only at hx ⊢
       rw [← hx]
       congr 1
       rw [Nat.succ_mul, Nat.succ_mul]; omega
    ·simp at hl
   ·simp at hl
  ·simp at hl

def rE (tt : Table) (T : TypeId) (len : Nat) (parts : List (Nat × Operand)) (ev : Operand → V) : Option (Nat × List V) :=
 match eX tt T with
 | some e => match kD tt e with
  | some size => if m4 0 parts = true ∧ parts.length = len ∧ len * size ≤ 65536 then (match n5 size (parts.map fun p => ev p.2) with | some rs => some (size, rs) | none => none) else none
  | none => none
 | none => none

theorem xL {P : Program} {tt : Table} (ht : TT P tt) {E : Env} {w : World} {a : Act} {ev : Operand → V} {T : TypeId} {len size : Nat} {parts : Array (Nat × Operand)} {rs : List V} (ea : ∀ p ∈ parts.toList, bC E (ev p.2) (a.eval p.2))
  (h : rE tt T len parts.toList ev = some (size, rs)) :
  ∃ (Z : Array Value) (e : TypeId), (Instr.buildSlice T len (parts.map fun (i, x) => (i, a.eval x))).run P w = .ok (.slice (some ⟨w.heap.size, 0, none⟩) len len) (w.alloc (.cells Z e (0, 0))) ∧ Z.size = len * size ∧ rs.length = len ∧ iX E.pure size rs (fun o => Z[o]?) := by
 unfold rE eX kD at h
 cases hT : tt T with
 | none => rw [hT] at h; simp at h
 | some iT =>
  rw [hT] at h; simp only at h
  cases he : iT.elem with
  | none => rw [he] at h; simp at h
  | some e =>
   rw [he] at h; simp only at h
   cases hE : tt e with
   | none => rw [hE] at h; simp at h
   | some ie =>
    rw [hE] at h; simp only at h
    split at h
    ·rename_i hc
     obtain ⟨E9, hlen, adM⟩ := hc
     split at h
     ·rename_i jw Hj
      simp only [Option.some.injEq,Prod.mk.injEq] at h
      obtain ⟨rfl, rfl⟩ := h
      obtain ⟨d, hd, -, xu, -⟩ := ht.desc T iT hT
      obtain rfl := xu e he
      obtain ⟨info, vW, NP, -, z, hz, zq⟩ := ht.size e ie hE
      have hzero : ∀ w' : World, (zeroValue e).run P w' = .ok z w' := fun w' => by simp [zeroValue, dK vW, hz]
      obtain ⟨zc, XP⟩ : ∃ zc : Array Value, zc = if len * ie.size = 0 then #[] else z.cells := ⟨_, rfl⟩
      obtain ⟨Z', h1, h2, h3, -, h5⟩ := Hi (size := ie.size) parts.toList 0 ev a.eval ((Array.range (len * ie.size)).map (zc[· % zc.size]!)) jw ea E9 Hj (by simp [hlen])
      refine ⟨Z', e, ?_, by simpa using h2, by omega, by simpa using h5⟩
      have o3 : (parts.map fun (i, x) => (i, a.eval x)).toList = parts.toList.map fun p => (p.1, a.eval p.2) := by simp
      unfold Instr.buildSlice
      simp only [Sem.run_bind,aG hd,Result.andThen_ok,ht.sizeOf hE]
      rw [if_neg (by omega)]
      by_cases h0 : len * ie.size = 0
      ·simp only [h0,if_true,Sem.run_pure,Result.andThen_ok,o3]
       rw [if_pos h0] at XP
       subst XP
       rw [h0] at h1
       simp only [Sem.run_bind,Sem.run_pure,Result.andThen_ok,o3]
       simp only [h1]
       simp [newRow]
      ·simp only [h0,if_false,Sem.run_bind,hzero,Sem.run_pure,Result.andThen_ok,o3]
       rw [if_neg h0] at XP
       subst XP
       simp only [h1]
       simp [newRow]
     ·simp at h
    ·simp at h
end Go.Eng
end

section
namespace Go.Eng
variable [aA]
open Go.RowKit (Below)

section
variable {P : Program} {w : World}
theorem tT {t u ty e e' : TypeId} {i : TypeInfo} (ht : P.underlying t = some (.slice e)) (hu : P.underlying u = some (.slice e')) (hi : P.info? e = some i) (g mK fi n c : Nat) (aa : Option Addr) (news : Array Value)
  (hf : (Builtin.firstCells i.size n (.slice aa n c)).run P w = .ok news w) (p5 : mK + n ≤ fi) {w' : World} (rB : (storeCells ⟨g, mK * i.size, none⟩ news.toList).run P w = .ok () w') :
  (Builtin.append_ #[t, u] ty #[.slice (some ⟨g, 0, none⟩) mK fi, .slice aa n c]).run P w = .ok (.slice (some ⟨g, 0, none⟩) (mK + n) fi) w' := by
 simp [Builtin.append_, aG ht, aG hu, ee hi, Builtin.lenOf, p5, hf, add_lit, rB]

theorem fL {t u ty e e' : TypeId} {i : TypeInfo} (ht : P.underlying t = some (.slice e)) (hu : P.underlying u = some (.slice e')) (hi : P.info? e = some i) (c : Nat) (aa : Option Addr) (news : Array Value)
  (hf : (Builtin.firstCells i.size 0 (.slice aa 0 c)).run P w = .ok news w) :
  (Builtin.append_ #[t, u] ty #[.slice none 0 0, .slice aa 0 c]).run P w = .ok (.slice none 0 0) w := by
 simp [Builtin.append_, aG ht, aG hu, ee hi, Builtin.lenOf, hf]

theorem iC {t u ty e e' : TypeId} {i : TypeInfo} {z : Value} (ht : P.underlying t = some (.slice e)) (hu : P.underlying u = some (.slice e')) (hi : P.info? e = some i) (hz : i.zero = some z) (base : Option Addr) (mK fi n c : Nat)
  (aa : Option Addr) (SN news : Array Value) (SO : (Builtin.firstCells i.size mK (.slice base mK fi)).run P w.drew = .ok SN w.drew) (hf : (Builtin.firstCells i.size n (.slice aa n c)).run P w.drew = .ok news w.drew)
  (hg : fi < mK + n) (h63 : ((mK + n : Nat) : Int) ≤ 9223372036854775807) (Fa : Builtin.nextslicecap (mK + n) fi * i.bytes ≤ 281474976710656) :
  (Builtin.append_ #[t, u] ty #[.slice base mK fi, .slice aa n c]).run P w =
   .ok (.slice (some ⟨w.heap.size, 0, none⟩) (mK + n) (grownCap w (mK + n) fi e))
    (w.drew.alloc (.cells (SN ++ news ++ Builtin.zeroCells z.cells (grownCap w (mK + n) fi e - (mK + n))) e)) := by
 have hn : ¬ (mK + n ≤ fi) := by omega
 have YD : ¬ (9223372036854775807 < ((mK : Int) + (n : Int))) := by omega
 have YE : ¬ (281474976710656 < Builtin.nextslicecap (mK + n) fi * i.bytes) := by omega
 simp [Builtin.append_, aG ht, aG hu, dK hi, ee hi, zeroValue, hz, Builtin.lenOf, hn, YD, YE, Question.forced, hf, SO, newRow, grownCap]
end

def m5 (mem : List aC) (size : Nat) : V → Option (Option (Nat × Nat) × List V)
 | .sc (.slice none 0 0) => some (none, [])
 | .full rows => if cf rows 0 size = true then some (none, rows) else none
 | .ms b v 0 l => match mem[b]? with
  | some (.rows v' e rs) => if v' = v ∧ e = size ∧ rs.length = l then some (some (b, v), rs) else none
  | _ => none
 | _ => none

def zr : V → List V → Bool
 | .full _, [] => false
 | _, _ => true
theorem Hk (b v s l : Nat) (xs : List V) : zr (.ms b v s l) xs = true := rfl
theorem Hl (v : Value) (xs : List V) : zr (.sc v) xs = true := rfl
theorem Ck (v x : V) (xs : List V) : zr v (x :: xs) = true := by cases v <;> rfl
def eK (tt : Table) (mem : List aC) (ts : List TypeId) (s x : V) : Option (Nat × Option (Nat × Nat) × List V) :=
 match ts with
 | [t, u] => match tt t with
  | some it => match it.elem with
   | some e => match eX tt u with
    | some _ => match tt e with
     | some i =>
      if 0 < i.size ∧ i.bytes ≤ 4096 ∧ i.zero.length = i.size then
       match m5 mem i.size s with
       | some (o4, rs) => match rowsOf mem i.size x with
        | some xs => if rs.length + xs.length ≤ 34359738368 then (if zr s xs = true then some (i.size, o4, rs ++ xs) else none) else none
        | none => none
       | none => none
      else none
     | none => none
    | none => none
   | none => none
  | none => none
 | _ => none

def dt (mem : List aC) (key size : Nat) (rows : List V) : Option (Nat × Nat) → List aC × V
 | none => (bO mem key (.rows 0 size rows), .ms key 0 0 rows.length)
 | some (b, v) => (mem.set b (.rows (v + 1) size rows), .ms b (v + 1) 0 rows.length)

theorem bH.renew {E : Env} {w w' : World} {a : Act} {st : St} (hs : bH E w a st) {b v e0 g e c : Nat} {rs rows : List V} (hm : st.mem[b]? = some (.rows v e0 rs)) (hF : ∀ ad x, E.F ad = some x → w'.cell? ad = some x) (ka : w.heap.size ≤ w'.heap.size)
  (hg : g < w'.heap.size) (O7 : ∀ k B', k ≠ b → st.mem[k]? = some B' → B'.held = true → ∀ g' e' c', E.bd k B'.b7 = some (g', e', c') → w'.heap[g']? = w.heap[g']? ∧ g' ≠ g)
  (hB : j8 (E.with b (v + 1) (g, e, c)) w' b (.rows (v + 1) e rows)) (yZ : ∀ k v' e' c', E.bd k v' = some (g, e', c') → k = b) : bH (E.with b (v + 1) (g, e, c)) w' a { st with mem := st.mem.set b (.rows (v + 1) e rows) } := by
 have hn : ∀ v', v < v' → E.bd b v' = none := fun v' tK => hs.b7 b _ hm v' tK
 have hle : E.le (E.with b (v + 1) (g, e, c)) := Env.jo (hn _ (Nat.lt_succ_self v)) _
 have c9 : (E.with b (v + 1) (g, e, c)).bd b (v + 1) = some (g, e, c) := if_pos ⟨rfl, rfl⟩
 have eg : ∀ k v', ¬ (k = b ∧ v' = v + 1) → (E.with b (v + 1) (g, e, c)).bd k v' = E.bd k v' := fun k v' ch => if_neg ch
 have Lm : ∀ k v', k ≠ b → (E.with b (v + 1) (g, e, c)).bd k v' = E.bd k v' := fun k v' ch => eg k v' fun h => ch h.1
 have aZ : b < st.mem.length := (List.getElem?_eq_some_iff.1 hm).1
 have fH : ∀ (k : Nat) (B : aC), (st.mem.set b (.rows (v + 1) e rows))[k]? = some B → (k = b ∧ B = .rows (v + 1) e rows) ∨ (k ≠ b ∧ st.mem[k]? = some B) := fun k B hk => by
  rw [List.getElem?_set] at hk
  by_cases gA : b = k
  ·subst gA; simp only [if_true,aZ] at hk; cases hk; exact .inl ⟨rfl, rfl⟩
  ·rw [if_neg gA] at hk; exact .inr ⟨fun e => gA e.symm, hk⟩
 refine ⟨hF, fun k v' g' e' c' hb => ?_, fun k B hk => ?_, fun k hk v' => ?_, fun k B hk v' tK => ?_, fun k k' v1 v2 g' e1 c1 e2 c2 h5 h6 => ?_, hs.fr.mono hle⟩
 ·by_cases hq : k = b ∧ v' = v + 1
  ·obtain ⟨rfl, rfl⟩ := hq; rw [c9] at hb; cases hb; exact hg
  ·rw [eg k v' hq] at hb; exact Nat.lt_of_lt_of_le (hs.lt _ _ _ _ _ hb) ka
 ·rcases fH k B hk with ⟨rfl, rfl⟩ | ⟨gA, gD⟩
  ·exact hB
  ·cases Lo : B.held with
   | false =>
    have := hs.mem k B gD
    cases B with
    | hole => exact fun v' => by rw [Lm k v' gA]; exact this v'
    | dead => trivial
    | _ => simp [aC.held] at Lo
   | true => exact (hs.mem k B gD).mono hle (fun v' h => by rw [Lm k v' gA]; exact h) (fun g' e' c' di => (O7 k B gA gD Lo g' e' c' di).1) fun _ _ _ _ _ h => h
 ·have gD : st.mem.length ≤ k := by simpa using hk
  rw [Lm k v' (by omega)]; exact hs.top k gD v'
 ·rcases fH k B hk with ⟨rfl, rfl⟩ | ⟨gA, gD⟩
  ·have : v + 1 < v' := tK
   rw [eg k v' (by omega)]; exact hn v' (by omega)
  ·rw [Lm k v' gA]; exact hs.b7 k B gD v' tK
 ·by_cases hq : k = b ∧ v1 = v + 1 <;> by_cases Lp : k' = b ∧ v2 = v + 1
  ·rw [hq.1, Lp.1]
  ·obtain ⟨rfl, rfl⟩ := hq; rw [c9] at h5; cases h5; rw [eg k' _ Lp] at h6; exact (yZ _ _ _ _ h6).symm
  ·obtain ⟨rfl, rfl⟩ := Lp; rw [c9] at h6; cases h6; rw [eg k _ hq] at h5; exact yZ _ _ _ _ h5
  ·rw [eg k _ hq] at h5; rw [eg k' _ Lp] at h6
   exact hs.apart _ _ _ _ _ _ _ _ _ h5 h6

theorem bH.zv {E : Env} {w : World} {a : Act} {st : St} (hs : bH E w a st) {b v e0 e : Nat} {rs : List V} (hm : st.mem[b]? = some (.rows v e0 rs)) : bH E w a { st with mem := st.mem.set b (.rows (v + 1) e []) } := by
 have hn : ∀ v', v < v' → E.bd b v' = none := fun v' tK => hs.b7 b _ hm v' tK
 have aZ : b < st.mem.length := (List.getElem?_eq_some_iff.1 hm).1
 have fH : ∀ (k : Nat) (B : aC), (st.mem.set b (.rows (v + 1) e []))[k]? = some B → (k = b ∧ B = .rows (v + 1) e []) ∨ (k ≠ b ∧ st.mem[k]? = some B) := fun k B hk => by
  rw [List.getElem?_set] at hk
  by_cases gA : b = k
  ·subst gA; simp only [if_true,aZ] at hk; cases hk; exact .inl ⟨rfl, rfl⟩
  ·rw [if_neg gA] at hk; exact .inr ⟨fun e => gA e.symm, hk⟩
 refine ⟨hs.F, hs.lt, fun k B hk => ?_, fun k hk v' => hs.top k (by simpa using hk) v', fun k B hk v' tK => ?_, hs.apart, hs.fr⟩
 ·rcases fH k B hk with ⟨rfl, rfl⟩ | ⟨gA, gD⟩
  ·exact .inl ⟨rfl, hn _ (Nat.lt_succ_self v)⟩
  ·exact hs.mem k B gD
 ·rcases fH k B hk with ⟨rfl, rfl⟩ | ⟨gA, gD⟩
  ·exact hn v' (Nat.lt_of_succ_lt tK)
  ·exact hs.b7 k B gD v' tK

theorem jq {E : Env} {e : Nat} {rs xs : List V} {A B C : Array Value} (h1 : ss E e rs A) (h2 : ss E e xs B) : iX E e (rs ++ xs) (fun o => (A ++ B ++ C)[o]?) := by
 intro i row hi
 rw [List.getElem?_append] at hi
 split at hi
 ·rename_i aZ
  obtain ⟨h3, h4⟩ := h1.2 i row hi
  refine ⟨h3, fun j c hj => ?_⟩
  obtain ⟨x, hx, hr⟩ := h4 j c hj
  dsimp only at hx
  have O8 : i * e + j < A.size := (Array.getElem?_eq_some_iff.1 hx).1
  refine ⟨x, ?_, hr⟩
  dsimp only
  rw [Array.append_assoc, Array.getElem?_append_left O8, hx]
 ·rename_i gv
  obtain ⟨h3, h4⟩ := h2.2 (i - rs.length) row hi
  refine ⟨h3, fun j c hj => ?_⟩
  obtain ⟨x, hx, hr⟩ := h4 j c hj
  dsimp only at hx
  have O8 : (i - rs.length) * e + j < B.size := (Array.getElem?_eq_some_iff.1 hx).1
  refine ⟨x, ?_, hr⟩
  dsimp only
  have hmul : i * e = A.size + (i - rs.length) * e := by
   rw [h1.1, ← Nat.add_mul]; congr 1; omega
  rw [Array.append_assoc, Array.getElem?_append_right (by omega), Array.getElem?_append_left (by omega), ← hx]
  congr 1; omega

theorem xM {E : Env} {b v s l : Nat} {x : Value} (h : bC E (.ms b v s l) x) : (l = 0 ∧ x = .slice none 0 0) ∨
  ∃ g e c a cap, x = .slice a l cap ∧ E.bd b v = some (g, e, c) ∧ (0 < l → a = some ⟨g, s * e, none⟩) ∧ (s = 0 → a = some ⟨g, 0, none⟩ ∧ cap = c) ∧ (l ≤ cap ∧ s + cap = c ∧ (0 < cap → a = some ⟨g, s * e, none⟩)) := by
 cases h with
 | eN => exact .inl ⟨rfl, rfl⟩
 | ms _ _ _ _ _ g e c a cap hb hl h0 hc => exact .inr ⟨g, e, c, a, cap, rfl, hb, hl, h0, hc⟩

theorem sw {E : Env} {e : Nat} {xs : List V} {A : Array Value} (tU : 0 < e) (h : ss E e xs A) : ∀ v ∈ A.toList, v.oneCell' = true := by
 intro v hv
 obtain ⟨q, hq, rfl⟩ := List.mem_iff_getElem.1 hv
 have Lp : q < xs.length * e := by rw [← h.1]; simpa using hq
 have hiq : q / e < xs.length := by rwa [Nat.div_lt_iff_lt_mul tU]
 have rz := List.getElem?_eq_getElem hiq
 obtain ⟨YF, p6⟩ := h.2 _ _ rz
 obtain ⟨vv, XQ, BV, -⟩ := p6 (q % e) _ (List.getElem?_eq_getElem (by rw [YF]; exact Nat.mod_lt _ tU))
 dsimp only at XQ
 rw [Nat.mul_comm, Nat.div_add_mod] at XQ
 have : A.toList[q] = vv := by
  have O9 : q < A.size := by simpa using hq
  rw [Array.getElem?_eq_getElem O9] at XQ
  simpa using XQ
 rw [this]; exact BV

theorem wb {P : Program} {tt : Table} (ht : TT P tt) {E : Env} {w : World} {a : Act} {st : St} (hs : bH E w a st) {ts : Array TypeId} {ty : TypeId} {s x : V} {y z : Value} {size : Nat} {o4 : Option (Nat × Nat)} {rows : List V} {key : Nat}
  (hk : e6 st.mem key) (Cl : bC E s y) (He : bC E x z) (h : eK tt st.mem ts.toList s x = some (size, o4, rows)) :
  ∃ v w' E', (Builtin.append_ ts ty #[y, z]).run P w = .ok v w' ∧ bH E' w' a { st with mem := (dt st.mem key size rows o4).1 } ∧ ec E w E' w' ∧ bC E' (dt st.mem key size rows o4).2 v := by
 unfold eK at h
 split at h
 ·rename_i t u G1
  obtain rfl : ts = #[t, u] := by rw [← Array.toArray_toList (xs := ts), G1]
  split at h
  ·rename_i it hT
   split at h
   ·rename_i e he
    split at h
    ·rename_i e' G2
     split at h
     ·rename_i i hE
      split at h
      ·rename_i hc
       obtain ⟨tU, tV, zq⟩ := hc
       split at h
       ·rename_i adO rs jR
        split at h
        ·rename_i xs rq
         split at h
         ·rename_i hlen
          split at h
          case isFalse => cases h
          rename_i YG
          simp only [Option.some.injEq,Prod.mk.injEq] at h
          obtain ⟨rfl, rfl, rfl⟩ := h
          obtain ⟨d, hd, -, xu, -⟩ := ht.desc t it hT
          obtain rfl := xu e he
          have y0 : ∃ e1, P.underlying u = some (.slice e1) := by
           unfold eX at G2
           split at G2
           ·rename_i iu hU
            obtain ⟨d, hd, -, xu, -⟩ := ht.desc u iu hU
            exact ⟨e', by rw [hd, xu e' G2]⟩
           ·simp at G2
          obtain ⟨e1, y0⟩ := y0
          obtain ⟨info, vW, NP, SP, z0, Pa, SK⟩ := ht.size e i hE
          have Pb : z0.cells.size = info.size := by rw [NP, ← zq, ← SK]; simp
          rw [← NP] at rq jR tU ⊢
          rw [← SP] at tV
          have NQ : bH E w.drew a st := hs.drew
          obtain ⟨xa, xc, rfl, hxc, xA, G0, Lq⟩ := e7 (P := P) hs He rq
          obtain ⟨xa', xc', heq, -, xB, SQ, Pc⟩ := e7 (P := P) NQ He rq
          simp only [Value.slice.injEq] at heq
          obtain ⟨rfl, -, rfl⟩ := heq
          have Fa : ∀ fi, fi < rs.length + xs.length → Builtin.nextslicecap (rs.length + xs.length) fi * info.bytes ≤ 281474976710656 := fun fi aZ =>
           growslice_fits aZ (Nat.le_trans (Nat.mul_le_mul hlen tV) (by decide))
          have o2 : (rs ++ xs).length = rs.length + xs.length := by simp
          have gv : ∀ fi, rs.length + xs.length ≤ grownCap w (rs.length + xs.length) fi e := fun fi => grownCap_ge w (rs.length + xs.length) fi e
          have m6 : ∀ (fi : Nat) (A : Array Value), ss E.pure info.size rs A → (A ++ xB ++ Builtin.zeroCells z0.cells (grownCap w (rs.length + xs.length) fi e - (rs.length + xs.length))).size = grownCap w (rs.length + xs.length) fi e * info.size := fun fi A hrA => by
           simp only [Array.size_append,size_zeroCells,Pb,hrA.1,Pc.1,← Nat.add_mul]
           congr 1; have := gv fi; omega
          unfold m5 at jR
          split at jR
          ·-- nil
           simp only [Option.some.injEq,Prod.mk.injEq] at jR
           obtain ⟨rfl, rfl⟩ := jR
           obtain rfl := dk Cl
           by_cases h0 : xs.length = 0
           ·have SR : xs = [] := List.length_eq_zero_iff.1 h0
            subst SR
            exact ⟨_, w, E, fL (ty := ty) hd y0 vW xc xa xA G0, hs.LM hk info.size, ec.refl E w, .eN _ _ _ _⟩
           ·have dE := iC (ty := ty) hd y0 vW Pa none 0 0 xs.length xc xa #[] xB rfl SQ (by omega) (by omega) (Fa 0 (by simp; omega))
            obtain ⟨E', h5, h6, h7⟩ := bH.pX NQ (key := key) hk (xs := #[] ++ xB ++ Builtin.zeroCells z0.cells (grownCap w (([] : List V).length + xs.length) 0 e - (([] : List V).length + xs.length))) (rs := [] ++ xs) (e := info.size)
             (c := grownCap w (([] : List V).length + xs.length) 0 e) e (m6 0 #[] ⟨by simp, fun i row hi => by simp at hi⟩) (by rw [o2]; exact gv 0) (jq ⟨by simp, fun i row hi => by simp at hi⟩ Pc)
            refine ⟨_, _, E', dE, h5, (ec.drew E w).trans h6, ?_⟩
            simp only [dt]
            rw [o2] at h7 ⊢
            exact h7
          ·-- rows xN room
           rename_i kc
           split at jR
           case isFalse => cases jR
           rename_i rD
           simp only [Option.some.injEq,Prod.mk.injEq] at jR
           obtain ⟨rfl, rfl⟩ := jR
           have GY : 0 < xs.length := by
            cases xs with
            | nil => simp [zr] at YG
            | cons _ _ => simp
           cases Cl with
           | full _ _ sa Cl =>
           have O5 : rowsOf st.mem info.size (.slice kc) = some kc := by simp only [rowsOf]; rw [if_pos rD]
           obtain ⟨sa', sc, heq, hsc, A, p7, ru⟩ := e7 (P := P) NQ Cl O5
           simp only [Value.slice.injEq] at heq
           obtain ⟨rfl, -, rfl⟩ := heq
           have dE := iC (ty := ty) hd y0 vW Pa sa kc.length kc.length xs.length xc xa A xB p7 SQ (by omega) (by omega) (Fa _ (by omega))
           obtain ⟨E', h5, h6, h7⟩ := bH.pX NQ (key := key) hk (xs := A ++ xB ++ Builtin.zeroCells z0.cells (grownCap w (kc.length + xs.length) kc.length e - (kc.length + xs.length))) (rs := kc ++ xs) (e := info.size)
            (c := grownCap w (kc.length + xs.length) kc.length e) e (m6 kc.length A ru) (by rw [o2]; exact gv _) (jq ru Pc)
           refine ⟨_, _, E', dE, h5, (ec.drew E w).trans h6, ?_⟩
           simp only [dt]
           rw [o2] at h7 ⊢
           exact h7
          ·rename_i b v l
           split at jR
           ·rename_i v' eb jw hm
            split at jR
            ·rename_i NR
             obtain ⟨rfl, rfl, NS⟩ := NR
             simp only [Option.some.injEq,Prod.mk.injEq] at jR
             obtain ⟨rfl, rfl⟩ := jR
             have O5 : rowsOf st.mem info.size (.ms b v' 0 l) = some jw := by
              simp [rowsOf, hm, NS]
              rw [← NS]; simp
             obtain ⟨sa, sc, rfl, hsc, A, p7, ru⟩ := e7 (P := P) NQ Cl O5
             simp only [dt]
             by_cases p5 : jw.length + xs.length ≤ sc
             ·-- there is room
              rcases xM Cl with ⟨R3, Hm⟩ | ⟨g, eb', c, sa', sc', Hm, hb, hl, Lj, wE⟩
              ·simp only [Value.slice.injEq] at Hm
               obtain ⟨rfl, YH, rfl⟩ := Hm
               have GY : xs = [] := List.length_eq_zero_iff.1 (by omega)
               have Pe : jw = [] := List.length_eq_zero_iff.1 (by omega)
               subst GY; subst Pe
               exact ⟨_, w, E, fL (ty := ty) hd y0 vW xc xa xA G0, hs.zv hm, ec.refl E w, .eN _ _ _ _⟩
              ·simp only [Value.slice.injEq] at Hm
               obtain ⟨rfl, -, rfl⟩ := Hm
               obtain ⟨rfl, NT⟩ := Lj rfl
               have YI := NT.symm
               subst YI
               rcases hs.mem b _ hm with ⟨-, hn⟩ | ⟨g', T', cur, c', gu, hh, xp, mC, wG, hf⟩
               ·rw [hb] at hn; cases hn
               rw [hb] at gu; cases gu
               have tW : jw.length * info.size + xA.toList.length ≤ cur.size := by
                have := Lq.1
                simp only [Array.length_toList]
                rw [this, xp, ← Nat.add_mul]; exact Nat.mul_le_mul_right _ p5
               obtain ⟨w', rB, Ln, xO⟩ := gS (P := P) (g := g) (T := T') (jw.length * info.size) xA.toList 0 w cur hh (by simpa using tW) (sw tU Lq)
               have dE := tT (ty := ty) hd y0 vW g jw.length c xs.length xc xa xA G0 p5 rB
               have hle : E.le (E.with b (v' + 1) (g, info.size, c)) := Env.jo (hs.b7 b _ hm _ (Nat.lt_succ_self v')) _
               have c9 : (E.with b (v' + 1) (g, info.size, c)).bd b (v' + 1) = some (g, info.size, c) := if_pos ⟨rfl, rfl⟩
               refine ⟨_, w', E.with b (v' + 1) (g, info.size, c), dE, hs.renew hm (fun ad y hy => ?_) (by rw [xO.size]; exact Nat.le_refl _) (by rw [xO.size]; exact hs.lt _ _ _ _ _ hb) (fun k B' gA gD NU g' e' c' di => ?_) ?_ (fun k v2 e2 c2 h => hs.apart _ _ _ _ _ _ _ _ _ h hb),
                ⟨hle, fun k q g' e' c' gA => ?_, fun ad y hy => .inl hy, xO.os, xO.tape, xO.output, by rw [xO.size]; exact Nat.le_refl _, fun b' gu ch => xO.heap b' fun e => by subst e; exact ch _ _ _ _ hb⟩, ?_⟩
               ·have ch := hs.xH hf hy
                rw [← hs.F ad y hy]; simp [World.cell?, xO.heap _ ch]
               ·have SS : g' ≠ g := fun e => by
                 subst e
                 exact gA (hs.apart _ _ _ _ _ _ _ _ _ di hb)
                exact ⟨xO.heap _ SS, SS⟩
               ·refine .inr ⟨g, T', _, c, c9, Ln, by rw [iA]; exact xp, by rw [o2]; exact p5, ?_, hf⟩
                intro q row hq
                simp only [Nat.add_zero]
                have YJ : xA.toList.length = xs.length * info.size := by simpa using Lq.1
                rw [List.getElem?_append] at hq
                split at hq
                ·rename_i aZ
                 obtain ⟨h3, h4⟩ := wG q row hq
                 refine ⟨h3, fun j cc hj => ?_⟩
                 obtain ⟨v, hv, BV, Fb⟩ := h4 j cc hj
                 have BT : j < info.size := by rw [← h3]; exact (List.getElem?_eq_some_iff.1 hj).1
                 refine ⟨v, ?_, BV, Fb⟩
                 rw [fQ _ _ _ _ tW, if_neg (by have := tS aZ BT; omega)]
                 exact hv
                ·rename_i YK
                 obtain ⟨h3, h4⟩ := Lq.2 _ row hq
                 refine ⟨h3, fun j cc hj => ?_⟩
                 obtain ⟨v, hv, BV, Fb⟩ := h4 j cc hj
                 have BT : j < info.size := by rw [← h3]; exact (List.getElem?_eq_some_iff.1 hj).1
                 have XR : q - jw.length < xs.length := (List.getElem?_eq_some_iff.1 hq).1
                 have hmul : q * info.size = jw.length * info.size + (q - jw.length) * info.size := by rw [← Nat.add_mul]; congr 1; omega
                 refine ⟨v, ?_, BV, Fb⟩
                 rw [fQ _ _ _ _ tW, if_pos (by have := tS XR BT; omega)]
                 dsimp only at hv
                 rw [← hv, Array.getElem?_toList]
                 congr 1; omega
               ·by_cases hq : k = b ∧ q = v' + 1
                ·obtain ⟨rfl, rfl⟩ := hq; rw [c9] at gA; cases gA; exact .inl ⟨_, _, _, _, hb⟩
                ·have : (E.with b (v' + 1) (g, info.size, c)).bd k q = E.bd k q := if_neg hq
                 rw [this] at gA; exact .inl ⟨_, _, _, _, gA⟩
               ·rw [o2]
                exact .ms _ _ _ _ _ g info.size c _ _ c9 (fun _ => by simp) (fun _ => ⟨rfl, rfl⟩) ⟨p5, Nat.zero_add _, fun _ => by simp⟩
             ·-- a new block
              have aZ : sc < jw.length + xs.length := by omega
              have dE := iC (ty := ty) hd y0 vW Pa sa jw.length sc xs.length xc xa A xB p7 SQ aZ (by omega) (Fa sc aZ)
              have hle : E.le (E.with b (v' + 1) (w.heap.size, info.size, grownCap w (jw.length + xs.length) sc e)) := Env.jo (hs.b7 b _ hm _ (Nat.lt_succ_self v')) _
              have c9 : (E.with b (v' + 1) (w.heap.size, info.size, grownCap w (jw.length + xs.length) sc e)).bd b (v' + 1) = some (w.heap.size, info.size, grownCap w (jw.length + xs.length) sc e) := if_pos ⟨rfl, rfl⟩
              refine ⟨_, _, E.with b (v' + 1) (w.heap.size, info.size, grownCap w (jw.length + xs.length) sc e), dE, hs.renew hm (fun ad y hy => ?_) (by simp) (by simp) (fun k B' gA gD NU g' e' c' di => ?_) ?_ (fun k v2 e2 c2 h => absurd (hs.lt _ _ _ _ _ h) (Nat.lt_irrefl _)),
               ⟨hle, fun k q g' e' c' gA => ?_, fun ad y hy => .inl hy, rfl, rfl, rfl, by simp, fun b' gu ch => Go.RowKit.Below.heap_alloc w.drew _ b' gu⟩, ?_⟩
              ·rw [World.cell?_alloc_lt w.drew _ ad (World.block_lt_of_cell? w ad (hs.F ad y hy))]; exact hs.F ad y hy
              ·have := hs.lt _ _ _ _ _ di
               exact ⟨Go.RowKit.Below.heap_alloc w.drew _ g' this, by omega⟩
              ·refine .inr ⟨w.heap.size, e, _, _, c9, heap_alloc_new w.drew _, m6 sc A ru, by rw [o2]; exact gv sc, ?_, fun o => ?_⟩
               ·intro q row hq
                obtain ⟨h3, h4⟩ := jq (C := Builtin.zeroCells z0.cells (grownCap w (jw.length + xs.length) sc e - (jw.length + xs.length))) ru Pc q row hq
                exact ⟨h3, fun j cc hj => let ⟨v, hv, BV, Fb⟩ := h4 j cc hj; ⟨v, hv, BV, Fb.mono (Env.gL hle)⟩⟩
               ·show E.F _ = none
                cases hx : E.F ⟨w.heap.size, o, none⟩ with
                | none => rfl
                | some x => have := World.block_lt_of_cell? w _ (hs.F _ _ hx); simp at this
              ·by_cases hq : k = b ∧ q = v' + 1
               ·obtain ⟨rfl, rfl⟩ := hq; rw [c9] at gA; cases gA; exact .inr (Nat.le_refl _)
               ·have : (E.with b (v' + 1) (w.heap.size, info.size, grownCap w (jw.length + xs.length) sc e)).bd k q = E.bd k q := if_neg hq
                rw [this] at gA; exact .inl ⟨_, _, _, _, gA⟩
              ·rw [o2]
               exact .ms _ _ _ _ _ w.heap.size info.size _ _ _ c9 (fun _ => by simp) (fun _ => ⟨rfl, rfl⟩) ⟨gv sc, Nat.zero_add _, fun _ => by simp⟩
            ·simp at jR
           ·simp at jR
          ·simp at jR
         ·simp at h
        ·simp at h
       ·simp at h
      ·simp at h
     ·simp at h
    ·simp at h
   ·simp at h
  ·simp at h
 ·simp at h
end Go.Eng
end

section
namespace Go.Eng
variable [aA]

theorem dw.set {E : Env} {bV : List (Value × Nat × V)} {es : List MapEntry} (h : dw E bV es) (i : Nat) {kb : Value × Nat × V} {e : MapEntry} (h1 : e.key = kb.1) (h2 : e.born = kb.2.1) (h3 : bC E kb.2.2 e.val) : dw E (bV.set i kb) (es.set i e) := by
  refine ⟨by simp [h.1], fun j k e' hk he => ?_⟩
  by_cases D3 : i = j
  · subst D3
    rw [List.getElem?_set] at hk he
    simp only [if_true] at hk he
    split at hk
    · split at he
      · cases hk; cases he; exact ⟨h1, h2, h3⟩
      · cases he
    · cases hk
  · rw [List.getElem?_set_ne D3] at hk he; exact h.2 j k e' hk he
theorem dw.push {E : Env} {bV : List (Value × Nat × V)} {es : List MapEntry} (h : dw E bV es) {kb : Value × Nat × V} {e : MapEntry} (h1 : e.key = kb.1) (h2 : e.born = kb.2.1) (h3 : bC E kb.2.2 e.val) : dw E (bV ++ [kb]) (es ++ [e]) := by
  refine ⟨by simp [h.1], fun j k e' hk he => ?_⟩
  by_cases hj : j < bV.length
  · rw [List.getElem?_append_left hj] at hk; rw [List.getElem?_append_left (by have := h.1; omega)] at he; exact h.2 j k e' hk he
  · rw [List.getElem?_append_right (by omega)] at hk; rw [List.getElem?_append_right (by have := h.1; omega)] at he
    rw [h.1] at hk
    cases hd : j - es.length with
    | zero => rw [hd] at hk he; simp at hk he; subst hk; subst he; exact ⟨h1, h2, h3⟩
    | succ n => rw [hd] at hk; simp at hk
theorem dw.erase {E : Env} : ∀ {bV : List (Value × Nat × V)} {es : List MapEntry}, dw E bV es → ∀ (i : Nat), dw E (bV.eraseIdx i) (es.eraseIdx i)
  | [], es, h, i => by rw [h.of_nil]; exact ⟨rfl, fun j k e hk => by simp at hk⟩
  | k :: r, es, h, i => by
    obtain ⟨e, es', rfl, h1, h2, h3, h4⟩ := h.of_cons
    cases i with
    | zero => exact h4
    | succ i =>
      have h5 := dw.erase h4 i
      simp only [List.eraseIdx_cons_succ]
      refine ⟨by simp [h5.1], fun j k' e' hk he => ?_⟩
      cases j with
      | zero => simp at hk he; subst hk; subst he; exact ⟨h1, h2, h3⟩
      | succ j => exact h5.2 j k' e' (by simpa using hk) (by simpa using he)

def insertAt (P : Program) (kt : TypeId) (key : Value) (v : V) (bV : List (Value × Nat × V)) (clock : Nat) : Option (List (Value × Nat × V) × Nat) :=
  match lx P kt key bV with
  | some (some (i, _)) => match bV[i]? with
    | some e => if Instr.sameBits 10000 e.1 key = true then some (bV.set i (key, e.2.1, v), clock) else none
    | none => none
  | some none => some (bV ++ [(key, clock, v)], clock + 1)
  | none => none
def bX (P : Program) (mem : List aC) (T : TypeId) (m k v : V) : Option (List aC) :=
  match eJ P T with
  | some (kt, _) => match dj k with
    | some key => if oK P kt key = true then
        match m with
        | .mp b => match mem[b]? with
          | some (.map bV clock) => match insertAt P kt key v bV clock with
            | some (kvs', clock') => some (mem.set b (.map kvs' clock'))
            | none => none
          | _ => none
        | _ => none
      else none
    | none => none
  | none => none
def D4 (P : Program) (kt et : TypeId) (key : Value) (bV : List (Value × Nat × V)) (clock : Nat) : Option (List (Value × Nat × V) × Nat × V) :=
  match lx P kt key bV with
  | some (some (i, v)) => match bV[i]? with
    | some e => if Instr.sameBits 10000 e.1 key = true then some (bV.set i (key, e.2.1, e.2.2), clock, .cC [v, .sc (.int .i64 e.2.1)]) else none
    | none => none
  | some none => match zeroV P et with
    | some z => some (bV ++ [(key, clock, z)], clock + 1, .cC [z, .sc (.int .i64 clock)])
    | none => none
  | none => none
def rF (P : Program) (mem : List aC) (T : TypeId) (m k : V) : Option (List aC × V) :=
  match eJ P T with
  | some (kt, et) => match dj k with
    | some key => if oK P kt key = true then
        match m with
        | .mp b => match mem[b]? with
          | some (.map bV clock) => match D4 P kt et key bV clock with
            | some (kvs', clock', v) => some (mem.set b (.map kvs' clock'), v)
            | none => none
          | _ => none
        | _ => none
      else none
    | none => none
  | none => none
def rG (mem : List aC) (m s v : V) : Option (List aC) :=
  match m, s with
  | .mp b, .sc (.int _ n) => match mem[b]? with
    | some (.map bV clock) => match bV.findIdx? (fun e => (e.2.1 : Int) == n) with
      | some i => match bV[i]? with
        | some e => some (mem.set b (.map (bV.set i (e.1, e.2.1, v)) clock))
        | none => none
      | none => none
    | _ => none
  | _, _ => none
def n6 (P : Program) (mem : List aC) (ts : Array TypeId) : List V → Option (List aC)
  | [.mp b, k] => match ts[0]? with
    | some T => match eJ P T with
      | some (kt, _) => match dj k with
        | some key => if oK P kt key = true then
            match mem[b]? with
            | some (.map bV clock) => match lx P kt key bV with
              | some (some (i, _)) => some (mem.set b (.map (bV.eraseIdx i) clock))
              | some none => some (mem.set b (.map bV clock))
              | none => none
            | _ => none
          else none
        | none => none
      | none => none
    | none => none
  | _ => none

theorem m7 {w : World} {g : Nat} {o : Obj} : pY w { w with heap := w.heap.setIfInBounds g o } g :=
  ⟨rfl, rfl, rfl, by simp, fun b hb => Array.getElem?_setIfInBounds_ne (fun e => hb e.symm)⟩
theorem heap_set {w : World} {g : Nat} {o o' : Obj} (h : w.heap[g]? = some o) : ({ w with heap := w.heap.setIfInBounds g o' } : World).heap[g]? = some o' := by
  have : g < w.heap.size := by
    rcases Nat.lt_or_ge g w.heap.size with h1 | h1
    · exact h1
    · rw [Array.getElem?_eq_none h1] at h; cases h
  simp [this]
theorem bH.lY {E : Env} {w : World} {a : Act} {st : St} (hs : bH E w a st) {b g e c : Nat} {bV kvs' : List (Value × Nat × V)} {clock clock' : Nat} {es es' : Array MapEntry} (hm : st.mem[b]? = some (.map bV clock)) (hb : E.bd b 0 = some (g, e, c)) (hh : w.heap[g]? = some (.map es clock))
    (hf : ∀ o, E.F ⟨g, o, none⟩ = none) (hr : dw E kvs' es'.toList) :
    bH E { w with heap := w.heap.setIfInBounds g (.map es' clock') } a { st with mem := st.mem.set b (.map kvs' clock') } ∧ ec E w E { w with heap := w.heap.setIfInBounds g (.map es' clock') } := by
  obtain ⟨-, -, -, -, h0⟩ := jn hs hm hb
  cases h0
  exact hs.zo hm rfl (B' := .map kvs' clock') rfl hb hf m7 ⟨g, es', hb, heap_set hh, hr, hf⟩

theorem o5 {es : Array MapEntry} {i : Nat} {e : MapEntry} (h : es[i]? = some e) (f : MapEntry → MapEntry) : (es.modify i f).toList = es.toList.set i (f e) := by
  apply List.ext_getElem?
  intro j
  rw [Array.getElem?_toList, Array.getElem?_modify, List.getElem?_set]
  by_cases D3 : i = j
  · subst D3
    have : i < es.size := (Array.getElem?_eq_some_iff.1 h).1
    have he : es[i] = e := (Array.getElem?_eq_some_iff.1 h).2
    simp [this, he]
  · simp [D3]
theorem wJ {P : Program} {w : World} {o4 new : Value} (h : Instr.sameBits 10000 o4 new = true) : (Instr.keyThatStays o4 new).run P w = .ok new w := by simp [Instr.keyThatStays, h]

theorem oM {P : Program} {E : Env} {w : World} {a : Act} {st : St} (hs : bH E w a st) {T : TypeId} {m k v : V} {x y z : Value} {aQ : List aC} (hm : bC E m x) (hk : bC E k y) (hv : bC E v z) (h : bX P st.mem T m k v = some aQ) :
    ∃ w', (Instr.mapUpdate T x y z).run P w = .ok () w' ∧ bH E w' a { st with mem := aQ } ∧ ec E w E w' := by
  unfold bX at h
  split at h
  · rename_i kt et hd
    have hd := gP hd
    split at h
    · rename_i key c9
      cases ga hk c9
      split at h
      · rename_i dx
        have GX := fun b => kI dx b w
        split at h
        · rename_i b
          obtain ⟨g, e, c, rfl, hb⟩ := o1 hm
          split at h
          · rename_i bV clock hB
            obtain ⟨es, hh, hr, hf, -⟩ := jn hs hB hb
            split at h
            · rename_i kvs' clock' hi
              cases h
              unfold insertAt at hi
              split at hi
              · rename_i i u Hn
                obtain ⟨r', h1, h2⟩ := ef hr w Hn
                match r', h2 with
                | some (j', z'), h2 =>
                  obtain ⟨rfl, h3, kb, en, h4, h5, h6, h7⟩ := h2
                  have Pf : es[i]? = some en := by simpa using h5
                  split at hi
                  · rename_i kb' gA
                    rw [gA] at h4; cases h4
                    split at hi
                    · rename_i Ho
                      cases hi
                      obtain ⟨p1, p2, p3⟩ := hr.2 i _ _ gA h5
                      have dE : (Instr.mapUpdate T (.map (some g)) y z).run P w = .ok () { w with heap := w.heap.setIfInBounds g (.map (es.modify i fun e => { e with key := y, val := z }) clock) } := by
                        have := e5 (P := P) (o' := .map (es.modify i fun e => { e with key := y, val := z }) clock) hh (by simp)
                        simp [Instr.mapUpdate, aG hd, da hh, GX, h1, Pf, p1, wJ Ho, this]
                      obtain ⟨q1, q2⟩ := hs.lY hB hb hh hf (clock' := clock) (kvs' := bV.set i (y, kb.2.1, v)) (es' := es.modify i fun e => { e with key := y, val := z }) (by rw [o5 Pf]; exact hr.set i rfl p2 hv)
                      exact ⟨_, dE, q1, q2⟩
                    · cases hi
                  · cases hi
              · rename_i Hn
                obtain ⟨r', h1, h2⟩ := ef hr w Hn
                match r', h2 with
                | none, h2 =>
                  cases hi
                  have dE : (Instr.mapUpdate T (.map (some g)) y z).run P w = .ok () { w with heap := w.heap.setIfInBounds g (.map (es.push { key := y, val := z, born := clock }) (clock + 1)) } := by
                    have := e5 (P := P) (o' := .map (es.push { key := y, val := z, born := clock }) (clock + 1)) hh (by simp)
                    simp [Instr.mapUpdate, aG hd, da hh, GX, h1, this]
                  obtain ⟨q1, q2⟩ := hs.lY hB hb hh hf (clock' := clock + 1) (kvs' := bV ++ [(y, clock, v)]) (es' := es.push { key := y, val := z, born := clock }) (by rw [Array.toList_push]; exact hr.push rfl rfl hv)
                  exact ⟨_, dE, q1, q2⟩
              · cases hi
            · cases h
          · cases h
        · cases h
      · cases h
    · cases h
  · cases h

theorem zw {E : Env} {v : V} {x : Value} (h : bC E v x) (n : Nat) : bC E (.cC [v, .sc (.int .i64 n)]) (.tuple #[x, goInt n]) := by
  refine .cC _ _ _ rfl fun i c y hc hy => ?_
  match i with
  | 0 => simp at hc hy; subst hc; subst hy; exact h
  | 1 => simp at hc hy; subst hc; subst hy; exact .sc _ _
  | i + 2 => simp at hc
theorem xP {P : Program} {E : Env} {w : World} {a : Act} {st : St} (hs : bH E w a st) {T : TypeId} {m k v : V} {x y : Value} {aQ : List aC} (hm : bC E m x) (hk : bC E k y) (h : rF P st.mem T m k = some (aQ, v)) :
    ∃ z w', (Instr.mapEntry T x y).run P w = .ok z w' ∧ bH E w' a { st with mem := aQ } ∧ ec E w E w' ∧ bC E v z := by
  unfold rF at h
  split at h
  · rename_i kt et hd
    have hd := gP hd
    split at h
    · rename_i key c9
      cases ga hk c9
      split at h
      · rename_i dx
        have GX := fun b => kI dx b w
        split at h
        · rename_i b
          obtain ⟨g, e, c, rfl, hb⟩ := o1 hm
          split at h
          · rename_i bV clock hB
            obtain ⟨es, hh, hr, hf, -⟩ := jn hs hB hb
            split at h
            · rename_i kvs' clock' v' hi
              cases h
              unfold D4 at hi
              split at hi
              · rename_i i u Hn
                obtain ⟨r', h1, h2⟩ := ef hr w Hn
                match r', h2 with
                | some (j', z'), h2 =>
                  obtain ⟨rfl, h3, kb, en, h4, h5, h6, h7⟩ := h2
                  have Pf : es[i]? = some en := by simpa using h5
                  split at hi
                  · rename_i kb' gA
                    rw [gA] at h4; cases h4
                    split at hi
                    · rename_i Ho
                      cases hi
                      obtain ⟨p1, p2, p3⟩ := hr.2 i _ _ gA h5
                      have dE : (Instr.mapEntry T (.map (some g)) y).run P w = .ok (.tuple #[z', goInt en.born]) { w with heap := w.heap.setIfInBounds g (.map (es.modify i fun e => { e with key := y }) clock) } := by
                        have := e5 (P := P) (o' := .map (es.modify i fun e => { e with key := y }) clock) hh (by simp)
                        simp [Instr.mapEntry, aG hd, da hh, GX, h1, Pf, p1, wJ Ho, this]
                      obtain ⟨q1, q2⟩ := hs.lY hB hb hh hf (clock' := clock) (kvs' := bV.set i (y, kb.2.1, kb.2.2)) (es' := es.modify i fun e => { e with key := y }) (by rw [o5 Pf]; exact hr.set i rfl p2 p3)
                      exact ⟨_, _, dE, q1, q2, by rw [p2]; exact zw h3 _⟩
                    · cases hi
                  · cases hi
              · rename_i Hn
                obtain ⟨r', h1, h2⟩ := ef hr w Hn
                match r', h2 with
                | none, h2 =>
                  split at hi
                  · rename_i z0 Pa
                    cases hi
                    obtain ⟨zz, h3, h4⟩ := mW Pa E w
                    have dE : (Instr.mapEntry T (.map (some g)) y).run P w = .ok (.tuple #[zz, goInt clock]) { w with heap := w.heap.setIfInBounds g (.map (es.push { key := y, val := zz, born := clock }) (clock + 1)) } := by
                      have := e5 (P := P) (o' := .map (es.push { key := y, val := zz, born := clock }) (clock + 1)) hh (by simp)
                      simp [Instr.mapEntry, aG hd, da hh, GX, h1, h3, this]
                    obtain ⟨q1, q2⟩ := hs.lY hB hb hh hf (clock' := clock + 1) (kvs' := bV ++ [(y, clock, z0)]) (es' := es.push { key := y, val := zz, born := clock }) (by rw [Array.toList_push]; exact hr.push rfl rfl h4)
                    exact ⟨_, _, dE, q1, q2, zw h4 _⟩
                  · cases hi
              · cases hi
            · cases h
          · cases h
        · cases h
      · cases h
    · cases h
  · cases h

theorem sx {E : Env} (n : Int) : ∀ {bV : List (Value × Nat × V)} {es : List MapEntry}, dw E bV es → bV.findIdx? (fun e => (e.2.1 : Int) == n) = es.findIdx? (fun e => (e.born : Int) == n)
  | [], es, h => by rw [h.of_nil]; rfl
  | k :: r, es, h => by
    obtain ⟨e, es', rfl, h1, h2, h3, h4⟩ := h.of_cons
    rw [List.findIdx?_cons, List.findIdx?_cons, h2, sx n h4]
theorem xQ {P : Program} {E : Env} {w : World} {a : Act} {st : St} (hs : bH E w a st) {T : TypeId} {m s v : V} {x y z : Value} {aQ : List aC} (hm : bC E m x) (hk : bC E s y) (hv : bC E v z) (h : rG st.mem m s v = some aQ) :
    ∃ w', (Instr.entryStore T x y z).run P w = .ok () w' ∧ bH E w' a { st with mem := aQ } ∧ ec E w E w' := by
  unfold rG at h
  split at h
  · rename_i b k n
    obtain ⟨g, e, c, rfl, hb⟩ := o1 hm
    obtain rfl := nZ hk
    split at h
    · rename_i bV clock hB
      obtain ⟨es, hh, hr, hf, -⟩ := jn hs hB hb
      split at h
      · rename_i i hi
        split at h
        · rename_i kb gA
          cases h
          obtain ⟨en, h5, p1, p2, p3⟩ := hr.get gA
          have Pf : es[i]? = some en := by simpa using h5
          have Pg : es.findIdx? (fun e => (e.born : Int) == n) = some i := by
            rw [sx n hr, ← List.findIdx?_toArray, Array.toArray_toList] at hi; exact hi
          have dE : (Instr.entryStore T (.map (some g)) (.int k n) z).run P w = .ok () { w with heap := w.heap.setIfInBounds g (.map (es.modify i fun e => { e with val := z }) clock) } := by
            have := e5 (P := P) (o' := .map (es.modify i fun e => { e with val := z }) clock) hh (by simp)
            simp [Instr.entryStore, da hh, asInt, asIntOf, Pg, this]
          obtain ⟨q1, q2⟩ := hs.lY hB hb hh hf (clock' := clock) (kvs' := bV.set i (kb.1, kb.2.1, v)) (es' := es.modify i fun e => { e with val := z }) (by rw [o5 Pf]; exact hr.set i p1 p2 hv)
          exact ⟨_, dE, q1, q2⟩
        · cases h
      · cases h
    · cases h
  · cases h

theorem we {P : Program} {E : Env} {w : World} {a : Act} {st : St} (hs : bH E w a st) {ts : Array TypeId} {ty : TypeId} {xs : List V} {ys : Array Value} {aQ : List aC} (hx : bo E xs ys.toList) (h : n6 P st.mem ts xs = some aQ) :
    ∃ w', (Builtin.delete_ ts ty ys).run P w = .ok (.tuple #[]) w' ∧ bH E w' a { st with mem := aQ } ∧ ec E w E w' := by
  unfold n6 at h
  split at h
  · rename_i b k
    obtain ⟨x, r, hy, Cg, hx⟩ := hx.of_cons
    obtain ⟨y, r2, hz, Cm, hx⟩ := hx.of_cons
    have := hx.of_nil
    subst this; subst hz
    obtain rfl : ys = #[x, y] := by rw [← Array.toArray_toList (xs := ys), hy]
    obtain ⟨g, e, c, rfl, hb⟩ := o1 Cg
    split at h
    · rename_i T h0
      split at h
      · rename_i kt et hd
        have hd := gP hd
        split at h
        · rename_i key c9
          cases ga Cm c9
          split at h
          · rename_i dx
            have GX := fun b => kI dx b w
            split at h
            · rename_i bV clock hB
              obtain ⟨es, hh, hr, hf, -⟩ := jn hs hB hb
              split at h
              · rename_i i u Hn
                cases h
                obtain ⟨r', h1, h2⟩ := ef hr w Hn
                match r', h2 with
                | some (j', z'), h2 =>
                  obtain ⟨rfl, h3, kb, en, h4, h5, h6, h7⟩ := h2
                  have dE : (Builtin.delete_ ts ty #[.map (some g), y]).run P w = .ok (.tuple #[]) { w with heap := w.heap.setIfInBounds g (.map (es.eraseIdxIfInBounds i) clock) } := by
                    have := e5 (P := P) (o' := .map (es.eraseIdxIfInBounds i) clock) hh (by simp)
                    simp [Builtin.delete_, h0, aG hd, da hh, GX, h1, this]
                  obtain ⟨q1, q2⟩ := hs.lY hB hb hh hf (clock' := clock) (kvs' := bV.eraseIdx i) (es' := es.eraseIdxIfInBounds i) (by rw [Array.toList_eraseIdxIfInBounds]; exact hr.erase i)
                  exact ⟨_, dE, q1, q2⟩
              · rename_i Hn
                cases h
                obtain ⟨r', h1, h2⟩ := ef hr w Hn
                match r', h2 with
                | none, h2 =>
                  have dE : (Builtin.delete_ ts ty #[.map (some g), y]).run P w = .ok (.tuple #[]) { w with heap := w.heap.setIfInBounds g (.map es clock) } := by
                    have := e5 (P := P) (o' := .map es clock) hh (by simp)
                    simp [Builtin.delete_, h0, aG hd, da hh, GX, h1, this]
                  obtain ⟨q1, q2⟩ := hs.lY hB hb hh hf (clock' := clock) (kvs' := bV) (es' := es) hr
                  exact ⟨_, dE, q1, q2⟩
              · cases h
            · cases h
          · cases h
        · cases h
      · cases h
    · cases h
  · cases h

/-! ### ranging -/

def leftOf (bV : List (Value × Nat × V)) (seen : List Nat) : List (Value × Nat × V) := bV.filter fun e => !seen.contains e.2.1
def tX (bV : List (Value × Nat × V)) (seen : List Nat) (since : Nat) : List (Value × Nat × V) := (leftOf bV seen).filter fun e => e.2.1 < since
def Hp (bV : List (Value × Nat × V)) (seen : List Nat) (since : Nat) : List (Value × Nat × V) := (leftOf bV seen).filter fun e => e.2.1 ≥ since
def xR (bV : List (Value × Nat × V)) (seen : List Nat) (last : Nat) : Bool := !seen.isEmpty && !bV.isEmpty && bV.all fun e => e.2.1 ≥ last
def tY : V := .cC [.sc (.bool false)]
def Hq (e : Value × Nat × V) : V := .cC [.sc (.bool true), gO e.1, e.2.2]
def NV (s : ByteArray) (pos : Nat) : V := .cC [.sc (.bool true), .sc (.int .i64 pos), .sc (.int .i32 (Utf8.decode s pos).1)]
def p8 (st : St) (dst : Option Tmp) (it : V) (str : Bool) (Q : St → Prop) : Prop :=
  match it with
  | .ptr b 0 => match st.mem[b]? with
    | some (.fh m since seen last) => match st.mem[m]? with
      | some (.map bV clock) => str = false ∧ xR bV seen last = false ∧ (tX bV seen since = [] → Q (st.put dst tY)) ∧
          ∀ e ∈ tX bV seen since ++ Hp bV seen since, Q ({ st with mem := st.mem.set b (.fh m since (seen ++ [e.2.1]) clock) }.put dst (Hq e))
      | _ => False
    | some (.jP s pos) => str = true ∧ if pos < s.size then Q ({ st with mem := st.mem.set b (.jP s (pos + (Utf8.decode s pos).2)) }.put dst (NV s pos)) else Q (st.put dst tY)
    | some .j7 => str = false ∧ Q (st.put dst tY)
    | _ => False
  | _ => False

theorem dw.filter {E : Env} (p : Nat → Bool) : ∀ {bV : List (Value × Nat × V)} {es : List MapEntry}, dw E bV es → dw E (bV.filter fun e => p e.2.1) (es.filter fun e => p e.born)
  | [], es, h => by rw [h.of_nil]; exact ⟨rfl, fun j k e hk => by simp at hk⟩
  | k :: r, es, h => by
    obtain ⟨e, es', rfl, h1, h2, h3, h4⟩ := h.of_cons
    have h5 := dw.filter p h4
    simp only [List.filter_cons,h2]
    split
    · refine ⟨by simp [h5.1], fun j k' e' hk he => ?_⟩
      cases j with
      | zero => simp at hk he; subst hk; subst he; exact ⟨h1, h2, h3⟩
      | succ j => exact h5.2 j k' e' (by simpa using hk) (by simpa using he)
    · exact h5
theorem dw.all {E : Env} (p : Nat → Bool) : ∀ {bV : List (Value × Nat × V)} {es : List MapEntry}, dw E bV es → (bV.all fun e => p e.2.1) = es.all fun e => p e.born
  | [], es, h => by rw [h.of_nil]; rfl
  | k :: r, es, h => by
    obtain ⟨e, es', rfl, h1, h2, h3, h4⟩ := h.of_cons
    simp only [List.all_cons,h2,dw.all p h4]
theorem dw.append {E : Env} {a b : List (Value × Nat × V)} {x y : List MapEntry} (h : dw E a x) (k : dw E b y) : dw E (a ++ b) (x ++ y) := by
  refine ⟨by simp [h.1, k.1], fun j kk e hk he => ?_⟩
  by_cases hj : j < a.length
  · rw [List.getElem?_append_left hj] at hk; rw [List.getElem?_append_left (by have := h.1; omega)] at he; exact h.2 j kk e hk he
  · rw [List.getElem?_append_right (by omega)] at hk; rw [List.getElem?_append_right (by have := h.1; omega)] at he
    rw [h.1] at hk
    exact k.2 _ kk e hk he
theorem Fc {E : Env} {k : Value × Nat × V} {e : MapEntry} (h1 : e.key = k.1) (h3 : bC E k.2.2 e.val) : bC E (Hq k) (.tuple #[.bool true, e.key, e.val]) := by
  refine .cC _ _ _ rfl fun i c y hc hy => ?_
  match i with
  | 0 => simp at hc hy; subst hc; subst hy; exact .sc _ _
  | 1 => simp at hc hy; subst hc; subst hy; rw [h1]; exact gC E _
  | 2 => simp at hc hy; subst hc; subst hy; exact h3
  | i + 3 => simp at hc

theorem ua {P : Program} {w : World} {n : Nat} (hn : 0 < n) : ∃ i w', (choose (.mapNext n)).run P w = .ok i w' ∧ i < n ∧ (w' = w ∨ w' = w.drew) := by
  unfold choose
  rw [Sem.run]
  split
  · exact ⟨0, w, rfl, hn, .inl rfl⟩
  · exact ⟨_, _, rfl, Nat.mod_lt _ hn, .inr rfl⟩
theorem bH.Ph {E : Env} {w w' : World} {a : Act} {st : St} (hs : bH E w a st) (h : w' = w ∨ w' = w.drew) : bH E w' a st ∧ ec E w E w' ∧ w'.heap = w.heap := by
  rcases h with rfl | rfl
  · exact ⟨hs, ec.refl _ _, rfl⟩
  · exact ⟨hs.drew, ec.drew _ _, rfl⟩
theorem zy {P : Program} {E : Env} {w : World} {a : Act} {st : St} (hs : bH E w a st) {dst : Option Tmp} {it : V} {x : Value} {str : Bool} {ty : TypeId} {Q : St → Prop} (hi : bC E it x) (h : p8 st dst it str Q) :
    ∃ z w' st', (Instr.next x str ty).run P w = .ok z w' ∧ bH E w' (a.put dst z) st' ∧ ec E w E w' ∧ Q st' := by
  unfold p8 at h
  split at h
  · rename_i b
    split at h
    · rename_i m since seen last hB
      split at h
      · rename_i bV clock hM
        obtain ⟨rfl, rB, SU, cK⟩ := h
        obtain ⟨g, gm, em, cm, hb, Ll, hh, hf⟩ := hs.mem b _ hB
        obtain ⟨es, Yw, hr, hfm, h0⟩ := jn hs hM Ll
        cases h0
        cases hi with
        | ptr _ _ _ g' e' c' gu =>
        rw [hb] at gu; cases gu
        have fH : (getObj g).run P w = .ok (.mapIter (some gm) since seen.toArray last) w := by simp [getObj, Sem.run, hh]
        have Pj : (!seen.toArray.isEmpty && !es.isEmpty && es.all (fun e => decide (e.born ≥ last))) = false := by
          rw [← rB]
          unfold xR
          have e1 : seen.toArray.isEmpty = seen.isEmpty := by simp
          have e2 : es.isEmpty = bV.isEmpty := by
            have h1 := hr.1
            rw [Bool.eq_iff_iff, Array.isEmpty_iff_size_eq_zero, List.isEmpty_iff, ← List.length_eq_zero_iff, h1, Array.length_toList]
          rw [e1, e2, ← Array.all_toList, ← dw.all (fun n => decide (n ≥ last)) hr]
        have NW : (es.filter fun e => !seen.toArray.contains e.born).toList = es.toList.filter fun e => !seen.contains e.born := by
          rw [Array.toList_filter]; simp
        have hl := dw.filter (fun n => !seen.contains n) hr
        have ho := dw.filter (fun n => decide (n < since)) hl
        have hw := dw.filter (fun n => decide (n ≥ since)) hl
        have SV := ho.append hw
        obtain ⟨L, hL⟩ : ∃ L, L = es.filter fun e => !seen.toArray.contains e.born := ⟨_, rfl⟩
        have hO : (L.filter fun e => decide (e.born < since)).toList = (es.toList.filter fun e => !seen.contains e.born).filter fun e => decide (e.born < since) := by rw [Array.toList_filter, hL, NW]
        have hN : (L.filter fun e => decide (e.born ≥ since)).toList = (es.toList.filter fun e => !seen.contains e.born).filter fun e => decide (e.born ≥ since) := by rw [Array.toList_filter, hL, NW]
        rw [← hO] at ho
        rw [← hO, ← hN] at SV
        generalize hOO : L.filter (fun e => decide (e.born < since)) = O at ho SV
        generalize hNN : L.filter (fun e => decide (e.born ≥ since)) = N at SV
        have YL : O.isEmpty = (tX bV seen since).isEmpty := by
          have h1 := ho.1
          rw [Bool.eq_iff_iff, Array.isEmpty_iff_size_eq_zero, List.isEmpty_iff, ← List.length_eq_zero_iff, ← Array.length_toList, ← h1]; rfl
        have SX : 0 < ((if O.isEmpty then #[none] else #[]) ++ (O ++ N).map some : Array (Option MapEntry)).size := by
          by_cases Hr : O.isEmpty = true
          · rw [if_pos Hr]; simp; omega
          · rw [if_neg Hr]
            have : O.size ≠ 0 := fun h => Hr (Array.isEmpty_iff_size_eq_zero.2 h)
            simp; omega
        obtain ⟨i, w1, hc1, NR, NS⟩ := ua (P := P) (w := w) SX
        obtain ⟨s1, v1, XS⟩ := hs.Ph NS
        have dE : ∀ {R}, (match ((if O.isEmpty then #[none] else #[]) ++ (O ++ N).map some : Array (Option MapEntry))[i]? with
            | some (some e) => do setObj g (.mapIter (some gm) since (seen.toArray.push e.born) clock); pure (Value.tuple #[.bool true, e.key, e.val])
            | some none => (pure (Value.tuple #[.bool false]) : Sem Value)
            | none => stuck "Next: no such candidate").run P w1 = R → (Instr.next (.pointer (some ⟨g, 0, none⟩)) false ty).run P w = R := fun hR => by
          rw [← hR]
          simp only [Instr.next,Sem.run_bind,fH,Result.andThen_ok,da Yw,Pj,Bool.false_eq_true,if_false,← hL,hOO,hNN,hc1]
          rfl
        have YM := Array.getElem?_eq_getElem NR
        by_cases kX : i < (if O.isEmpty then #[none] else #[] : Array (Option MapEntry)).size
        · have Hr : O.isEmpty = true := by
            by_cases Hr : O.isEmpty = true
            · exact Hr
            · rw [if_neg Hr] at kX; simp at kX
          rw [if_pos Hr] at kX
          have hi0 : i = 0 := by simp at kX; omega
          subst hi0
          have hold : tX bV seen since = [] := by rw [YL] at Hr; exact List.isEmpty_iff.1 Hr
          refine ⟨_, w1, _, dE (R := Result.ok (Value.tuple #[.bool false]) w1) ?_, s1.put dst (.cC _ _ _ rfl fun i c y hc hy => ?_), v1, SU hold⟩
          · rw [if_pos Hr, Array.getElem?_append_left (by simp)]; rfl
          · match i with
            | 0 => simp at hc hy; subst hc; subst hy; exact .sc _ _
            | i + 1 => simp at hc
        · obtain ⟨j, hj, SY⟩ : ∃ j, j < (O ++ N).size ∧ ((if O.isEmpty then #[none] else #[]) ++ (O ++ N).map some : Array (Option MapEntry))[i]? = some (some ((O ++ N)[j]!)) := by
            refine ⟨i - (if O.isEmpty then #[none] else #[] : Array (Option MapEntry)).size, ?_, ?_⟩
            · have := NR; simp only [Array.size_append,Array.size_map] at this ⊢; omega
            · rw [Array.getElem?_append_right (by omega), Array.getElem?_map]
              have aZ : i - (if O.isEmpty then #[none] else #[] : Array (Option MapEntry)).size < (O ++ N).size := by have := NR; simp only [Array.size_append,Array.size_map] at this ⊢; omega
              rw [Array.getElem?_eq_getElem aZ, getElem!_pos (O ++ N) _ aZ]; rfl
          rw [getElem!_pos (O ++ N) _ hj] at SY
          obtain ⟨kb, gA⟩ : ∃ kb, (tX bV seen since ++ Hp bV seen since)[j]? = some kb := ⟨_, List.getElem?_eq_getElem (by have h1 := SV.1; simp only [List.length_append,Array.length_toList] at h1; simp only [List.length_append]; simp only [Array.size_append] at hj; exact Nat.lt_of_lt_of_eq hj h1.symm)⟩
          obtain ⟨en, bk, p1, p2, p3⟩ := SV.get gA
          have YN : (O ++ N)[j] = en := by
            have : (O ++ N).toList[j]? = some en := by rw [Array.toList_append]; exact bk
            rw [Array.getElem?_toList, Array.getElem?_eq_getElem hj] at this
            simpa using this
          rw [YN] at SY
          have R4 : w1.heap[g]? = some (.mapIter (some gm) since seen.toArray last) := by rw [XS]; exact hh
          have pT : j8 E { w1 with heap := w1.heap.setIfInBounds g (.mapIter (some gm) since (seen.toArray.push en.born) clock) } b (.fh m since (seen ++ [kb.2.1]) clock) := by
            refine ⟨g, gm, 0, 0, hb, Ll, ?_, hf⟩
            rw [heap_set R4, p2]; simp
          obtain ⟨q1, q2⟩ := s1.zo hB rfl (B' := .fh m since (seen ++ [kb.2.1]) clock) rfl hb hf m7 pT
          refine ⟨.tuple #[.bool true, en.key, en.val], _, _, dE ?_, q1.put dst (Fc p1 p3), v1.trans q2, cK kb (List.mem_of_getElem? gA)⟩
          rw [SY]
          have := e5 (P := P) (o' := .mapIter (some gm) since (seen.toArray.push en.born) clock) R4 (by simp)
          dsimp only
          rw [Sem.run_bind, this]; rfl
      · exact h.elim
    · rename_i s pos hB
      obtain ⟨rfl, ub⟩ := h
      obtain ⟨g, hb, hh, hf⟩ := hs.mem b _ hB
      cases hi with
      | ptr _ _ _ g' e' c' gu =>
      rw [hb] at gu; cases gu
      have fH : (getObj g).run P w = .ok (.stringIter s pos) w := by simp [getObj, Sem.run, hh]
      split at ub
      · rename_i aZ
        obtain ⟨q1, q2⟩ := hs.zo hB rfl (B' := .jP s (pos + (Utf8.decode s pos).2)) rfl hb hf (m7 (o := .stringIter s (pos + (Utf8.decode s pos).2))) ⟨g, hb, heap_set hh, hf⟩
        refine ⟨.tuple #[.bool true, goInt pos, .int .i32 (Utf8.decode s pos).1], _, _, ?_, q1.put dst (.cC _ _ _ rfl fun i c y hc hy => ?_), q2, ub⟩
        · have := e5 (P := P) (o' := .stringIter s (pos + (Utf8.decode s pos).2)) hh (by simp)
          simp [Instr.next, fH, aZ, this]
        · match i with
          | 0 => simp at hc hy; subst hc; subst hy; exact .sc _ _
          | 1 => simp at hc hy; subst hc; subst hy; exact .sc _ _
          | 2 => simp at hc hy; subst hc; subst hy; exact .sc _ _
          | i + 3 => simp at hc
      · rename_i aZ
        refine ⟨.tuple #[.bool false], w, _, by simp [Instr.next, fH, aZ], hs.put dst (.cC _ _ _ rfl fun i c y hc hy => ?_), ec.refl _ _, ub⟩
        match i with
        | 0 => simp at hc hy; subst hc; subst hy; exact .sc _ _
        | i + 1 => simp at hc
    · rename_i hB
      obtain ⟨rfl, ub⟩ := h
      obtain ⟨g, hb, hh, hf⟩ := hs.mem b _ hB
      cases hi with
      | ptr _ _ _ g' e' c' gu =>
      rw [hb] at gu; cases gu
      have fH : (getObj g).run P w = .ok (.mapIter none 0 #[] 0) w := by simp [getObj, Sem.run, hh]
      refine ⟨.tuple #[.bool false], w, _, by simp [Instr.next, fH], hs.put dst (.cC _ _ _ rfl fun i c y hc hy => ?_), ec.refl _ _, ub⟩
      match i with
      | 0 => simp at hc hy; subst hc; subst hy; exact .sc _ _
      | i + 1 => simp at hc
    · exact h.elim
  · exact h.elim

def lB (P : Program) (mem : List aC) (T : TypeId) (x : V) : Option aC :=
  match x with
  | .mp b => match mem[b]? with
    | some (.map _ clock) => match eJ P T with | some _ => some (.fh b clock [] clock) | none => none
    | _ => none
  | .sc (.map none) => match eJ P T with | some _ => some .j7 | none => none
  | .sc (.string s) => match P.underlying T with | some .string => some (.jP s 0) | _ => none
  | _ => none
theorem D5 {E : Env} {w : World} {a : Act} {st : St} (hs : bH E w a st) (o : Nat) : E.F ⟨w.heap.size, o, none⟩ = none := by
  cases hx : E.F ⟨w.heap.size, o, none⟩ with
  | none => rfl
  | some x => have := World.block_lt_of_cell? w _ (hs.F _ _ hx); simp at this
theorem bH.newObj {E : Env} {w : World} {a : Act} {st : St} (hs : bH E w a st) {key : Nat} (hk : e6 st.mem key) {obj : Obj} {B : aC} (hv : B.b7 = 0) (hB : j8 (E.with key 0 (w.heap.size, 0, 0)) (w.alloc obj) key B) :
    ∃ E', bH E' (w.alloc obj) a { st with mem := bO st.mem key B } ∧ ec E w E' (w.alloc obj) ∧ E'.bd key 0 = some (w.heap.size, 0, 0) := by
  have := hs.new (obj := obj) (B := B) (e := 0) (c := 0) hk hv hB
  exact ⟨_, this.1, this.2, if_pos ⟨rfl, rfl⟩⟩
theorem uc {P : Program} {E : Env} {w : World} {a : Act} {st : St} (hs : bH E w a st) {key : Nat} (hk : e6 st.mem key) {T : TypeId} {x : V} {y : Value} {B : aC} (hx : bC E x y) (h : lB P st.mem T x = some B) :
    ∃ E' w', (Instr.range T y).run P w = .ok (.pointer (some ⟨w.heap.size, 0, none⟩)) w' ∧ bH E' w' a { st with mem := bO st.mem key B } ∧ ec E w E' w' ∧ bC E' (.ptr key 0) (.pointer (some ⟨w.heap.size, 0, none⟩)) := by
  have c9 : (E.with key 0 (w.heap.size, 0, 0)).bd key 0 = some (w.heap.size, 0, 0) := if_pos ⟨rfl, rfl⟩
  unfold lB at h
  split at h
  · rename_i b
    split at h
    · rename_i bV clock hB
      split at h
      · rename_i p hp
        cases h
        obtain ⟨kt, et⟩ := p
        have hd := gP hp
        obtain ⟨g, e, c, rfl, hb⟩ := o1 hx
        obtain ⟨es, hh, hr, -⟩ := jn hs hB hb
        have ch : b ≠ key := fun e => by subst e; rw [hs.free hk 0] at hb; cases hb
        obtain ⟨E', h1, h2, h3⟩ := hs.newObj hk (obj := .mapIter (some g) clock #[] clock) (B := .fh b clock [] clock) rfl ⟨w.heap.size, g, e, c, c9, (if_neg fun h => ch h.1).trans hb, heap_alloc_new w _, fun o => D5 (E := E) hs o⟩
        exact ⟨E', _, by simp [Instr.range, aG hd, da hh, newObj, Sem.run], h1, h2, .ptr _ _ _ _ 0 0 h3⟩
      · cases h
    · cases h
  · obtain rfl := nZ hx
    split at h
    · rename_i p hp
      cases h
      obtain ⟨kt, et⟩ := p
      have hd := gP hp
      obtain ⟨E', h1, h2, h3⟩ := hs.newObj hk (obj := .mapIter none 0 #[] 0) (B := .j7) rfl ⟨w.heap.size, c9, heap_alloc_new w _, fun o => D5 (E := E) hs o⟩
      exact ⟨E', _, by simp [Instr.range, aG hd, newObj, Sem.run], h1, h2, .ptr _ _ _ _ 0 0 h3⟩
    · cases h
  · rename_i s
    obtain rfl := nZ hx
    split at h
    · rename_i hd
      cases h
      obtain ⟨E', h1, h2, h3⟩ := hs.newObj hk (obj := .stringIter s 0) (B := .jP s 0) rfl ⟨w.heap.size, c9, heap_alloc_new w _, fun o => D5 (E := E) hs o⟩
      exact ⟨E', _, by simp [Instr.range, aG hd, newObj, Sem.run], h1, h2, .ptr _ _ _ _ 0 0 h3⟩
    · cases h
  · cases h
theorem wg {P : Program} {E : Env} {w : World} {a : Act} {st : St} (hs : bH E w a st) {key : Nat} (hk : e6 st.mem key) (T : TypeId) :
    ∃ E' w', (Instr.makeMap T none).run P w = .ok (.map (some w.heap.size)) w' ∧ bH E' w' a { st with mem := bO st.mem key (.map [] 0) } ∧ ec E w E' w' ∧ bC E' (.mp key) (.map (some w.heap.size)) := by
  have c9 : (E.with key 0 (w.heap.size, 0, 0)).bd key 0 = some (w.heap.size, 0, 0) := if_pos ⟨rfl, rfl⟩
  obtain ⟨E', h1, h2, h3⟩ := hs.newObj hk (obj := .map #[] 0) (B := .map [] 0) rfl ⟨w.heap.size, #[], c9, heap_alloc_new w _, ⟨rfl, fun i k e h => by simp at h⟩, fun o => D5 (E := E) hs o⟩
  exact ⟨E', _, by simp [Instr.makeMap, newObj, Sem.run], h1, h2, .mp _ _ _ 0 0 h3⟩
def tn (i : Ti) : V := if i.agg = true then .agg (i.zero.map fun z => iN (.sc z)) else match i.zero with | z :: _ => iN (.sc z) | [] => .undef
def sy (tt : Table) (T : TypeId) (l c : V) : Option (Nat × List V × Nat) :=
  match l, c with
  | .sc (.int _ l), .sc (.int _ c) => match eX tt T with
    | some e => match tt e with
      | some i => if 0 ≤ l ∧ l ≤ c ∧ i.bytes * c ≤ 281474976710656 ∧ c ≤ 1152921504606846976 ∧ 0 < i.size ∧ i.zero.length = i.size ∧ i.zero.all Value.oneCell' = true ∧ (i.agg = true ∨ i.size = 1) then some (i.size, List.replicate l.toNat (tn i), c.toNat) else none
      | none => none
    | none => none
  | _, _ => none
theorem wh {i : Ti} (h : i.agg = true ∨ i.size = 1) (hz : i.zero.length = i.size) : (tn i).cells = i.zero.map fun z => iN (.sc z) := by
  unfold tn
  split
  · rfl
  · rename_i hn
    have h1 : i.size = 1 := by rcases h with h | h
                               · exact absurd h hn
                               · exact h
    match SZ : i.zero with
    | [] => rw [SZ] at hz; simp at hz; omega
    | [z] => simp only [List.map_cons,List.map_nil]; unfold iN; split <;> rfl
    | _ :: _ :: _ => rw [SZ] at hz; simp at hz; omega
theorem zH {P : Program} {tt : Table} (ht : TT P tt) {E : Env} {w : World} {a : Act} {st : St} (hs : bH E w a st) {key : Nat} (hk : e6 st.mem key) {T : TypeId} {l c : V} {x y : Value} {size cap : Nat} {rs : List V} (hl : bC E l x) (hc : bC E c y)
    (h : sy tt T l c = some (size, rs, cap)) :
    ∃ E' w', (Instr.makeSlice T x y).run P w = .ok (.slice (some ⟨w.heap.size, 0, none⟩) rs.length cap) w' ∧ bH E' w' a { st with mem := bO st.mem key (.rows 0 size rs) } ∧ ec E w E' w' ∧ bC E' (.ms key 0 0 rs.length) (.slice (some ⟨w.heap.size, 0, none⟩) rs.length cap) := by
  unfold sy at h
  split at h
  · rename_i k1 l k2 c
    obtain rfl := nZ hl
    obtain rfl := nZ hc
    unfold eX at h
    cases hT : tt T with
    | none => rw [hT] at h; simp at h
    | some iT =>
      rw [hT] at h; simp only at h
      cases he : iT.elem with
      | none => rw [he] at h; simp at h
      | some e =>
        rw [he] at h; simp only at h
        cases hE : tt e with
        | none => rw [hE] at h; simp at h
        | some i =>
          rw [hE] at h; simp only at h
          split at h
          · rename_i mZ
            obtain ⟨h0, h1, hb, sA, tU, zq, lT, LN⟩ := mZ
            cases h
            obtain ⟨d, hd, -, xu, -⟩ := ht.desc T iT hT
            obtain rfl := xu e he
            obtain ⟨info, vW, NP, SP, z, hz, SZ⟩ := ht.size e i hE
            have Pb : z.cells.size = i.size := by rw [← zq, ← SZ]; simp
            have hwl : IntKind.i64.wrap l = l := by rw [IntWalk.i64_in _ (by omega)]
            have hwc : IntKind.i64.wrap c = c := by rw [IntWalk.i64_in _ (by omega)]
            obtain ⟨xs, rq⟩ : ∃ xs : Array Value, xs = (Array.range (c.toNat * i.size)).map (z.cells[· % z.cells.size]!) := ⟨_, rfl⟩
            have dE : (Instr.makeSlice T (.int k1 l) (.int k2 c)).run P w = .ok (.slice (some ⟨w.heap.size, 0, none⟩) l.toNat c.toNat) (w.alloc (.cells xs e (0, 0))) := by
              have e0 : (decide (c < 0) || decide ((info.bytes : Int) * c > 2 ^ 48)) = false := by
                rw [SP]
                simp only [Bool.or_eq_false_iff,decide_eq_false_iff_not]
                exact ⟨by omega, by omega⟩
              have e1 : (decide (l < 0)) = false := by simp; omega
              have e2 : (decide (l > c)) = false := by simp; omega
              have S0 : (zeroValue e).run P (w) = .ok z w := by simp [zeroValue, dK vW, hz]
              simp only [Instr.makeSlice,Sem.run_bind,aG hd,Result.andThen_ok,asInt,asIntOf,Sem.run_pure,dK vW,hwl,hwc,e0,e1,e2,Bool.or_self,Bool.false_eq_true,if_false,run_askRoom,ee vW,NP]
              by_cases hn : c.toNat * i.size = 0
              · have GY : xs = #[] := by rw [rq, hn]; simp
                have Pe : ∀ f : Nat → Value, Array.map f (Array.range 0) = #[] := fun f => Array.eq_empty_of_size_eq_zero (by simp)
                simp only [hn,if_true,Sem.run_pure,Result.andThen_ok,Pe,GY]
                rfl
              · simp only [hn,if_false,Sem.run_bind,S0,Result.andThen_ok,Sem.run_pure]
                simp [newRow, rq]
            obtain ⟨E', g1, g2, g3⟩ := hs.pX hk (xs := xs) (rs := List.replicate l.toNat (tn i)) (e := i.size) (c := c.toNat) e (by rw [rq]; simp) (by simp; omega) (fun q row hq => by
              rw [List.getElem?_replicate] at hq
              split at hq
              · rename_i XR
                cases hq
                have m6 := wh LN zq
                refine ⟨by rw [m6]; simpa using zq, fun j cc hj => ?_⟩
                rw [m6, List.getElem?_map, Option.map_eq_some_iff] at hj
                obtain ⟨v, hv, rfl⟩ := hj
                have BT : j < i.size := by rw [← zq]; exact (List.getElem?_eq_some_iff.1 hv).1
                have aZ : q * i.size + j < c.toNat * i.size := by
                  have : (q + 1) * i.size ≤ c.toNat * i.size := Nat.mul_le_mul_right _ (by omega)
                  rw [Nat.succ_mul] at this; omega
                have YO : (q * i.size + j) % i.size = j := by rw [Nat.add_comm, Nat.add_mul_mod_self_right, Nat.mod_eq_of_lt BT]
                refine ⟨v, ?_, List.all_eq_true.1 lT v (List.mem_of_getElem? hv), lA (.sc _ _)⟩
                rw [rq]
                have hzj : z.cells[j]? = some v := by rw [← Array.getElem?_toList, SZ]; exact hv
                have hjz : j < z.cells.size := by omega
                simp only [Array.getElem?_map,Array.getElem?_range,aZ,if_true,Option.map_some,Pb,YO]
                rw [getElem!_pos z.cells j hjz]
                rw [Array.getElem?_eq_getElem hjz] at hzj
                exact hzj
              · cases hq)
            refine ⟨E', _, ?_, g1, g2, ?_⟩
            · simpa using dE
            · simpa using g3
          · cases h
  · cases h
end Go.Eng
end

section
namespace Go.Eng
variable [aA]
open Go.RowKit (Below)
def kJ (tt : Table) (mem : List aC) (ts : List TypeId) (s x : V) : Option (Nat × Nat × Nat × Nat × List V × List V) :=
 match s with
 | .ms b v o l => match mem[b]? with
  | some (.rows v' eb rs) => match ts with
   | [t, u] => match eX tt t with
    | some e => match eX tt u with
     | some _ => match tt e with
      | some i =>
       if v' = v ∧ eb = i.size ∧ o + l = rs.length ∧ 0 < i.size ∧ i.bytes ≤ 4096 ∧ i.zero.length = i.size then
        match rowsOf mem i.size x with
        | some xs => if l + xs.length ≤ 34359738368 then some (i.size, b, v, l, rs.drop o, xs) else none
        | none => none
       else none
      | none => none
     | none => none
    | none => none
   | _ => none
  | _ => none
 | _ => none
theorem wi {P : Program} {tt : Table} (ht : TT P tt) {E : Env} {w : World} {a : Act} {st : St} (hs : bH E w a st) {ts : Array TypeId} {ty : TypeId} {s x : V} {y z : Value} {size b v l : Nat} {XT xs : List V}
  (Cl : bC E s y) (He : bC E x z) (h : kJ tt st.mem ts.toList s x = some (size, b, v, l, XT, xs)) :
  ∃ u w' E' o' jw, (Builtin.append_ ts ty #[y, z]).run P w = .ok u w' ∧ jw.drop o' = XT ++ xs ∧ o' + (l + xs.length) = jw.length ∧ bH E' w' a { st with mem := st.mem.set b (.rows (v + 1) size jw) } ∧ ec E w E' w' ∧ bC E' (.ms b (v + 1) o' (l + xs.length)) u := by
 unfold kJ at h
 split at h
 ·rename_i b1 v1 o l1
  split at h
  ·rename_i v' eb rs hm
   split at h
   ·rename_i t u G1
    obtain rfl : ts = #[t, u] := by rw [← Array.toArray_toList (xs := ts), G1]
    split at h
    ·rename_i e he
     split at h
     ·rename_i e' G2
      split at h
      ·rename_i i hE
       split at h
       ·rename_i hc
        obtain ⟨rfl, rfl, S2, tU, tV, zq⟩ := hc
        split at h
        ·rename_i o6 rq
         split at h
         ·rename_i hlen
          simp only [Option.some.injEq,Prod.mk.injEq] at h
          obtain ⟨rfl, rfl, rfl, rfl, rfl, rfl⟩ := h
          have und : ∀ {t e : TypeId}, eX tt t = some e → P.underlying t = some (.slice e) := fun {t e} he => by
           unfold eX at he
           split at he
           ·rename_i iu hU
            obtain ⟨d, hd, -, xu, -⟩ := ht.desc t iu hU
            rw [hd, xu e he]
           ·simp at he
          have hd := und he
          have y0 := und G2
          obtain ⟨info, vW, NP, SP, z0, Pa, SK⟩ := ht.size e i hE
          have Pb : z0.cells.size = info.size := by rw [NP, ← zq, ← SK]; simp
          rw [← NP] at rq tU hm ⊢
          rw [← SP] at tV
          have NQ : bH E w.drew a st := hs.drew
          obtain ⟨xa, xc, rfl, hxc, xA, G0, Lq⟩ := e7 (P := P) hs He rq
          obtain ⟨xa', xc', heq, -, xB, SQ, Pc⟩ := e7 (P := P) NQ He rq
          simp only [Value.slice.injEq] at heq
          obtain ⟨rfl, -, rfl⟩ := heq
          have Fa : ∀ fi, fi < l1 + o6.length → Builtin.nextslicecap (l1 + o6.length) fi * info.bytes ≤ 281474976710656 := fun fi aZ =>
           growslice_fits aZ (Nat.le_trans (Nat.mul_le_mul hlen tV) (by decide))
          have ic : (rs.drop o).length = l1 := by rw [List.length_drop]; omega
          have o2 : (rs.drop o ++ o6).length = l1 + o6.length := by rw [List.length_append, ic]
          have gv : ∀ fi, l1 + o6.length ≤ grownCap w (l1 + o6.length) fi e := fun fi => grownCap_ge w (l1 + o6.length) fi e
          have O5 : rowsOf st.mem info.size (.ms b1 v' o l1) = some (rs.drop o) := by
           have h1 : o + l1 ≤ rs.length := by omega
           simp [rowsOf, hm, h1]
           rw [List.take_of_length_le (by rw [List.length_drop]; omega)]
          obtain ⟨sa, sc, rfl, hsc, A, p7, ru⟩ := e7 (P := P) NQ Cl O5
          rw [ic] at p7 Cl ⊢
          have m6 : ∀ fi, (A ++ xB ++ Builtin.zeroCells z0.cells (grownCap w (l1 + o6.length) fi e - (l1 + o6.length))).size = grownCap w (l1 + o6.length) fi e * info.size := fun fi => by
           simp only [Array.size_append,size_zeroCells,Pb,ru.1,Pc.1,ic,← Nat.add_mul]
           congr 1; have := gv fi; omega
          by_cases p5 : l1 + o6.length ≤ sc
          ·rcases xM Cl with ⟨R3, Hm⟩ | ⟨g, eb', c, sa', sc', Hm, hb, hl, Lj, wE⟩
           ·simp only [Value.slice.injEq] at Hm
            obtain ⟨rfl, YH, rfl⟩ := Hm
            have GY : o6 = [] := List.length_eq_zero_iff.1 (by omega)
            subst GY
            have G3 : l1 = 0 := by omega
            subst G3
            have Pe : rs.drop o = [] := List.length_eq_zero_iff.1 ic
            rw [Pe]
            exact ⟨_, w, E, 0, [], fL (ty := ty) hd y0 vW xc xa xA G0, rfl, rfl, hs.zv hm, ec.refl E w, .eN _ _ _ _⟩
           ·simp only [Value.slice.injEq] at Hm
            obtain ⟨rfl, -, rfl⟩ := Hm
            obtain ⟨hc1, NR, NS⟩ := wE
            rcases hs.mem b1 _ hm with ⟨-, hn⟩ | ⟨g', T', cur, c', gu, hh, xp, mC, wG, hf⟩
            ·rw [hb] at hn; cases hn
            rw [hb] at gu; cases gu
            by_cases YP : sc = 0
            ·-- nothing at all
             have GY : o6 = [] := List.length_eq_zero_iff.1 (by omega)
             subst GY
             have G3 : l1 = 0 := by omega
             subst G3
             subst YP
             have Pe : rs.drop o = [] := List.length_eq_zero_iff.1 ic
             have dE : (Builtin.append_ #[t, u] ty #[.slice sa 0 0, .slice xa 0 xc]).run P w = .ok (.slice sa 0 0) w := by
              cases sa with
              | none => exact fL (ty := ty) hd y0 vW xc xa xA G0
              | some ad =>
               have hxe : xA.toList = [] := by
                have := Lq.1
                simp at this
                simpa using this
               have hfc : (Builtin.firstCells info.size 0 (.slice xa 0 xc)).run P w = .ok xA w := G0
               simp [Builtin.append_, aG hd, aG y0, ee vW, Builtin.lenOf, hfc, hxe, storeCells]
             have hle : E.le (E.with b1 (v' + 1) (g, info.size, c)) := Env.jo (hs.b7 b1 _ hm _ (Nat.lt_succ_self v')) _
             have c9 : (E.with b1 (v' + 1) (g, info.size, c)).bd b1 (v' + 1) = some (g, info.size, c) := if_pos ⟨rfl, rfl⟩
             refine ⟨_, w, E.with b1 (v' + 1) (g, info.size, c), o, rs, dE, by simp [Pe], by omega, hs.renew hm hs.F (Nat.le_refl _) (hs.lt _ _ _ _ _ hb) (fun k B' gA gD NU g' e' c' di => ⟨rfl, fun e => by subst e; exact gA (hs.apart _ _ _ _ _ _ _ _ _ di hb)⟩) ?_ (fun k v2 e2 c2 h => hs.apart _ _ _ _ _ _ _ _ _ h hb),
              ⟨hle, fun k q g' e' c' gA => ?_, fun ad y hy => .inl hy, rfl, rfl, rfl, Nat.le_refl _, fun _ _ _ => rfl⟩, ?_⟩
             ·exact .inr ⟨g, T', cur, c, c9, hh, xp, mC, fun q row hq => let ⟨h3, h4⟩ := wG q row hq; ⟨h3, fun j cc hj => let ⟨v, hv, BV, Fb⟩ := h4 j cc hj; ⟨v, hv, BV, Fb.mono (Env.gL hle)⟩⟩, hf⟩
             ·by_cases hq : k = b1 ∧ q = v' + 1
              ·obtain ⟨rfl, rfl⟩ := hq; rw [c9] at gA; cases gA; exact .inl ⟨_, _, _, _, hb⟩
              ·have : (E.with b1 (v' + 1) (g, info.size, c)).bd k q = E.bd k q := if_neg hq
               rw [this] at gA; exact .inl ⟨_, _, _, _, gA⟩
             ·exact .ms _ _ _ _ _ g info.size c _ _ c9 (fun h => absurd h (by simp)) (fun h => Lj h) ⟨by simp, NR, fun h => absurd h (Nat.lt_irrefl _)⟩
            ·obtain rfl := NS (by omega)
             have tW : rs.length * info.size + xA.toList.length ≤ cur.size := by
              have := Lq.1
              simp only [Array.length_toList]
              rw [this, xp, ← Nat.add_mul]; exact Nat.mul_le_mul_right _ (by omega)
             obtain ⟨w', rB, Ln, xO⟩ := gS (P := P) (g := g) (T := T') (rs.length * info.size) xA.toList 0 w cur hh (by simpa using tW) (sw tU Lq)
             have dE : (Builtin.append_ #[t, u] ty #[.slice (some ⟨g, o * info.size, none⟩) l1 sc, .slice xa o6.length xc]).run P w = .ok (.slice (some ⟨g, o * info.size, none⟩) (l1 + o6.length) sc) w' := by
              have Hs : (storeCells (Addr.add ⟨g, o * info.size, none⟩ (l1 * info.size)) xA.toList).run P w = .ok () w' := by
               rw [add_lit, ← Nat.add_mul, S2]; exact rB
              simp [Builtin.append_, aG hd, aG y0, ee vW, Builtin.lenOf, p5, G0, Hs]
             have hle : E.le (E.with b1 (v' + 1) (g, info.size, c)) := Env.jo (hs.b7 b1 _ hm _ (Nat.lt_succ_self v')) _
             have c9 : (E.with b1 (v' + 1) (g, info.size, c)).bd b1 (v' + 1) = some (g, info.size, c) := if_pos ⟨rfl, rfl⟩
             refine ⟨_, w', E.with b1 (v' + 1) (g, info.size, c), o, rs ++ o6, dE, by rw [List.drop_append_of_le_length (by omega)], by rw [List.length_append]; omega, hs.renew hm (fun ad y hy => ?_) (by rw [xO.size]; exact Nat.le_refl _) (by rw [xO.size]; exact hs.lt _ _ _ _ _ hb) (fun k B' gA gD NU g' e' c' di => ?_) ?_ (fun k v2 e2 c2 h => hs.apart _ _ _ _ _ _ _ _ _ h hb),
              ⟨hle, fun k q g' e' c' gA => ?_, fun ad y hy => .inl hy, xO.os, xO.tape, xO.output, by rw [xO.size]; exact Nat.le_refl _, fun b' gu ch => xO.heap b' fun e => by subst e; exact ch _ _ _ _ hb⟩, ?_⟩
             ·have ch := hs.xH hf hy
              rw [← hs.F ad y hy]; simp [World.cell?, xO.heap _ ch]
             ·have SS : g' ≠ g := fun e => by
               subst e
               exact gA (hs.apart _ _ _ _ _ _ _ _ _ di hb)
              exact ⟨xO.heap _ SS, SS⟩
             ·refine .inr ⟨g, T', _, c, c9, Ln, by rw [iA]; exact xp, by rw [List.length_append]; omega, ?_, hf⟩
              intro q row hq
              simp only [Nat.add_zero]
              have YJ : xA.toList.length = o6.length * info.size := by simpa using Lq.1
              rw [List.getElem?_append] at hq
              split at hq
              ·rename_i aZ
               obtain ⟨h3, h4⟩ := wG q row hq
               refine ⟨h3, fun j cc hj => ?_⟩
               obtain ⟨v, hv, BV, Fb⟩ := h4 j cc hj
               have BT : j < info.size := by rw [← h3]; exact (List.getElem?_eq_some_iff.1 hj).1
               refine ⟨v, ?_, BV, Fb⟩
               rw [fQ _ _ _ _ tW, if_neg (by have := tS aZ BT; omega)]
               exact hv
              ·rename_i YK
               obtain ⟨h3, h4⟩ := Lq.2 _ row hq
               refine ⟨h3, fun j cc hj => ?_⟩
               obtain ⟨v, hv, BV, Fb⟩ := h4 j cc hj
               have BT : j < info.size := by rw [← h3]; exact (List.getElem?_eq_some_iff.1 hj).1
               have XR : q - rs.length < o6.length := (List.getElem?_eq_some_iff.1 hq).1
               have hmul : q * info.size = rs.length * info.size + (q - rs.length) * info.size := by rw [← Nat.add_mul]; congr 1; omega
               refine ⟨v, ?_, BV, Fb⟩
               rw [fQ _ _ _ _ tW, if_pos (by have := tS XR BT; omega)]
               dsimp only at hv
               rw [← hv, Array.getElem?_toList]
               congr 1; omega
             ·by_cases hq : k = b1 ∧ q = v' + 1
              ·obtain ⟨rfl, rfl⟩ := hq; rw [c9] at gA; cases gA; exact .inl ⟨_, _, _, _, hb⟩
              ·have : (E.with b1 (v' + 1) (g, info.size, c)).bd k q = E.bd k q := if_neg hq
               rw [this] at gA; exact .inl ⟨_, _, _, _, gA⟩
             ·exact .ms _ _ _ _ _ g info.size c _ _ c9 (fun _ => rfl) (fun h => Lj h) ⟨p5, NR, fun _ => rfl⟩
          ·-- a new block
           have aZ : sc < l1 + o6.length := by omega
           have dE := iC (ty := ty) hd y0 vW Pa sa l1 sc o6.length xc xa A xB p7 SQ aZ (by omega) (Fa sc aZ)
           have hle : E.le (E.with b1 (v' + 1) (w.heap.size, info.size, grownCap w (l1 + o6.length) sc e)) := Env.jo (hs.b7 b1 _ hm _ (Nat.lt_succ_self v')) _
           have c9 : (E.with b1 (v' + 1) (w.heap.size, info.size, grownCap w (l1 + o6.length) sc e)).bd b1 (v' + 1) = some (w.heap.size, info.size, grownCap w (l1 + o6.length) sc e) := if_pos ⟨rfl, rfl⟩
           refine ⟨_, _, E.with b1 (v' + 1) (w.heap.size, info.size, grownCap w (l1 + o6.length) sc e), 0, rs.drop o ++ o6, dE, rfl, by rw [o2]; omega, hs.renew hm (fun ad y hy => ?_) (by simp) (by simp) (fun k B' gA gD NU g' e' c' di => ?_) ?_ (fun k v2 e2 c2 h => absurd (hs.lt _ _ _ _ _ h) (Nat.lt_irrefl _)),
            ⟨hle, fun k q g' e' c' gA => ?_, fun ad y hy => .inl hy, rfl, rfl, rfl, by simp, fun b' gu ch => Go.RowKit.Below.heap_alloc w.drew _ b' gu⟩, ?_⟩
           ·rw [World.cell?_alloc_lt w.drew _ ad (World.block_lt_of_cell? w ad (hs.F ad y hy))]; exact hs.F ad y hy
           ·have := hs.lt _ _ _ _ _ di
            exact ⟨Go.RowKit.Below.heap_alloc w.drew _ g' this, by omega⟩
           ·refine .inr ⟨w.heap.size, e, _, _, c9, heap_alloc_new w.drew _, m6 sc, by rw [o2]; exact gv sc, ?_, fun o => ?_⟩
            ·intro q row hq
             obtain ⟨h3, h4⟩ := jq (C := Builtin.zeroCells z0.cells (grownCap w (l1 + o6.length) sc e - (l1 + o6.length))) ru Pc q row hq
             exact ⟨h3, fun j cc hj => let ⟨v, hv, BV, Fb⟩ := h4 j cc hj; ⟨v, hv, BV, Fb.mono (Env.gL hle)⟩⟩
            ·show E.F _ = none
             cases hx : E.F ⟨w.heap.size, o, none⟩ with
             | none => rfl
             | some x => have := World.block_lt_of_cell? w _ (hs.F _ _ hx); simp at this
           ·by_cases hq : k = b1 ∧ q = v' + 1
            ·obtain ⟨rfl, rfl⟩ := hq; rw [c9] at gA; cases gA; exact .inr (Nat.le_refl _)
            ·have : (E.with b1 (v' + 1) (w.heap.size, info.size, grownCap w (l1 + o6.length) sc e)).bd k q = E.bd k q := if_neg hq
             rw [this] at gA; exact .inl ⟨_, _, _, _, gA⟩
           ·exact .ms _ _ _ _ _ w.heap.size info.size _ _ _ c9 (fun _ => by simp) (fun _ => ⟨rfl, rfl⟩) ⟨gv sc, Nat.zero_add _, fun _ => by simp⟩
         ·simp at h
        ·simp at h
       ·simp at h
      ·simp at h
     ·simp at h
    ·simp at h
   ·simp at h
  ·simp at h
 ·simp at h
end Go.Eng
end

section
namespace Go.Eng
variable [aA]
open Go.RowKit (Below)

def cq (mem : List aC) : V → Option V
  | .undef => some .undef
  | .sc v => some (iN (.sc v))
  | .slice rows => some (.slice rows)
  | .full rows => some (.slice rows)
  | .cH cs => some (.cH cs)
  | .gn => some .gn
  | .ms b v s l => match mem[b]? with
    | some (.rows v' _ rs) => if v' = v ∧ s + l ≤ rs.length then some (.slice ((rs.drop s).take l)) else none
    | some (.pV v' _ rs) => if v' = v ∧ s + l ≤ rs.length then some (.slice ((rs.drop s).take l)) else none
    | _ => none
  | .bp f [] [] => some (.sc (.func f #[] #[]))
  | _ => none
def eh (mem : List aC) : List V → Option (List V)
  | [] => some []
  | c :: r => match cq mem c with
    | some c' => match eh mem r with | some r' => some (c' :: r') | none => none
    | none => none
def e8 (mem : List aC) : V → Option V
  | .agg cs => match eh mem cs with | some l => some (.agg l) | none => none
  | v => cq mem v
def dq (mem : List aC) : List V → Option (List V)
  | [] => some []
  | c :: r => match e8 mem c with
    | some c' => match dq mem r with | some r' => some (c' :: r') | none => none
    | none => none
def Fe (mem : List aC) : V → Option V
  | .cC vs => match dq mem vs with | some l => some (.cC l) | none => none
  | v => e8 mem v

def gM : V → List (Nat × Nat)
  | .ms b v _ _ => [(b, v)]
  | _ => []
def cL : V → List (Nat × Nat)
  | .agg cs => cs.flatMap gM
  | v => gM v
def refs : V → List (Nat × Nat)
  | .cC vs => vs.flatMap cL
  | v => cL v

def Env.lR (E : Env) (w : World) (keys : List (Nat × Nat)) : Env :=
  { F := fun ad => match E.F ad with
      | some x => some x
      | none => if keys.any (fun k => match E.bd k.1 k.2 with | some (g, _, _) => g == ad.block | none => false) then w.cell? ad else none
    bd := E.bd
    gl := E.gl.mono fun ad x h => by simp only [h] }
theorem Env.rH (E : Env) (w : World) (keys : List (Nat × Nat)) : E.le (E.lR w keys) := ⟨fun ad x h => by simp [Env.lR, h], fun _ _ _ h => h⟩
theorem Env.D6 {E : Env} {w : World} {keys : List (Nat × Nat)} (hF : ∀ ad x, E.F ad = some x → w.cell? ad = some x) {ad : Addr} {x : Value} (h : (E.lR w keys).F ad = some x) : w.cell? ad = some x := by
  unfold Env.lR at h
  dsimp only at h
  split at h
  · rename_i y hy; cases h; exact hF _ _ hy
  · split at h
    · exact h
    · cases h
theorem Env.xS {E : Env} {w : World} {keys : List (Nat × Nat)} {ad : Addr} {x : Value} (h : (E.lR w keys).F ad = some x) : E.F ad = some x ∨ ∃ k ∈ keys, ∃ e c, E.bd k.1 k.2 = some (ad.block, e, c) := by
  unfold Env.lR at h
  dsimp only at h
  split at h
  · rename_i y hy; cases h; exact .inl hy
  · split at h
    · rename_i b9
      obtain ⟨k, hk, hm⟩ := List.any_eq_true.1 b9
      split at hm
      · rename_i g e c hb
        simp only [beq_iff_eq] at hm; subst hm
        exact .inr ⟨k, hk, e, c, hb⟩
      · cases hm
    · cases h
theorem Env.Pk {E : Env} {w : World} {keys : List (Nat × Nat)} {k v g e c : Nat} (hk : (k, v) ∈ keys) (hb : E.bd k v = some (g, e, c)) {o : Nat} {x : Value} (hn : E.F ⟨g, o, none⟩ = none) (hx : w.cell? ⟨g, o, none⟩ = some x) : (E.lR w keys).F ⟨g, o, none⟩ = some x := by
  have : keys.any (fun k => match E.bd k.1 k.2 with | some (g', _, _) => g' == g | none => false) = true := List.any_eq_true.2 ⟨(k, v), hk, by simp [hb]⟩
  unfold Env.lR
  dsimp only
  rw [hn]
  dsimp only
  rw [if_pos this]; exact hx

theorem zI {E : Env} {w : World} {a : Act} {st : St} (hs : bH E w a st) {keys : List (Nat × Nat)} {k v g e c : Nat} (hk : (k, v) ∈ keys) (hb : E.bd k v = some (g, e, c)) {B : aC} (hm : st.mem[k]? = some B) {rs : List V} {e' : Nat}
    (hB : B = .rows v e' rs ∨ B = .pV v e' rs) : e' = e ∧ rs.length ≤ c ∧ iX E.pure e rs (fun o => (E.lR w keys).F ⟨g, o, none⟩) := by
  rcases hB with rfl | rfl
  · rcases hs.mem k _ hm with ⟨-, hn⟩ | ⟨g', T, xs, c', gu, hh, ka, hl, hr, hf⟩
    · rw [hb] at hn; cases hn
    · rw [hb] at gu; cases gu
      refine ⟨rfl, hl, fun i row hi => ?_⟩
      obtain ⟨h1, h2⟩ := hr i row hi
      exact ⟨h1, fun j cc hj => let ⟨x, hx, h⟩ := h2 j cc hj; ⟨x, Env.Pk hk hb (hf _) (by rw [kF hh]; exact hx), h⟩⟩
  · rcases hs.mem k _ hm with ⟨-, hn⟩ | ⟨g', c', gu, hl, hr⟩
    · rw [hb] at hn; cases hn
    rw [hb] at gu; cases gu
    refine ⟨rfl, hl, fun i row hi => ?_⟩
    obtain ⟨h1, h2⟩ := hr i row hi
    exact ⟨h1, fun j cc hj => let ⟨x, hx, h⟩ := h2 j cc hj; ⟨x, (Env.rH E w keys).F _ _ hx, h⟩⟩

theorem k6 {E : Env} {w : World} {a : Act} {st : St} (hs : bH E w a st) {keys : List (Nat × Nat)} {v v' : V} {x : Value} (hr : bC E v x) (h : cq st.mem v = some v') (hk : ∀ k ∈ gM v, k ∈ keys) : bC (E.lR w keys).pure v' x := by
  have hle := Env.gL (Env.rH E w keys)
  have SL : ∀ {b v s l : Nat} {B : aC} {rs : List V} {e' : Nat}, bC E (.ms b v s l) x → (b, v) ∈ keys → st.mem[b]? = some B → (B = .rows v e' rs ∨ B = .pV v e' rs) → s + l ≤ rs.length → bC (E.lR w keys).pure (.slice ((rs.drop s).take l)) x := by
    intro b v s l B rs e' hr di hm hB hl
    have hlen : ((rs.drop s).take l).length = l := by simp; omega
    rcases xM hr with ⟨rfl, rfl⟩ | ⟨g, e, c, aa, cap, rfl, hb, G3, -, hlc⟩
    · rw [show (rs.drop s).take 0 = [] from by simp]
      exact .slice _ [] none 0 0 default (fun _ _ => default) (by simp) (by simp) (by simp) (by simp) (by simp) (by simp)
    · obtain ⟨rfl, o2, SM⟩ := zI hs di hb hm hB
      have fH : ∀ (i : Nat) (row : V) (j : Nat) (cc : V), ((rs.drop s).take l)[i]? = some row → row.cells[j]? = some cc → ∃ y, (E.lR w keys).F ⟨g, (s + i) * e' + j, none⟩ = some y ∧ y.oneCell' = true ∧ bC E.pure cc y := fun i row j cc hi hj =>
        (SM _ _ (tm hi)).2 j cc hj
      let xf : Nat → Nat → Value := fun i j => ((E.lR w keys).F ⟨g, (s + i) * e' + j, none⟩).getD default
      have y9 : bC (E.lR w keys).pure (.slice ((rs.drop s).take l)) (.slice aa ((rs.drop s).take l).length cap) := by
        refine .slice _ _ _ _ e' ⟨g, s * e', none⟩ xf (fun ch => G3 ?_) (by rw [hlen]; exact hlc.1) (fun i row hi => (SM _ _ (tm hi)).1) (fun i row j cc hi hj => ?_) (fun i row j cc hi hj => ?_) fun i row j cc hi hj => ?_
        · have : ((rs.drop s).take l).length ≠ 0 := fun h0 => ch (List.length_eq_zero_iff.1 h0)
          omega
        · obtain ⟨y, hy, -⟩ := fH i row j cc hi hj
          have Pg : s * e' + (i * e' + j) = (s + i) * e' + j := by rw [Nat.add_mul]; omega
          rw [add_lit, Pg]
          show (E.lR w keys).F _ = some (xf i j)
          simp [xf, hy]
        · obtain ⟨y, hy, h1, -⟩ := fH i row j cc hi hj
          simp [xf, hy, h1]
        · obtain ⟨y, hy, -, h2⟩ := fH i row j cc hi hj
          have : xf i j = y := by simp [xf, hy]
          rw [this]; exact h2.mono hle
      rw [hlen] at y9; exact y9
  unfold cq at h
  split at h
  · simp only [Option.some.injEq] at h; subst h; exact .undef _ _
  · simp only [Option.some.injEq] at h; subst h; exact lA (by rw [dk hr]; exact .sc _ _)
  · simp only [Option.some.injEq] at h; subst h
    cases hr with
    | slice _ _ a cap oZ ad xf ha jU hz hF h1 hR => exact (bC.slice E.pure _ a cap oZ ad xf ha jU hz hF h1 hR).mono hle
  · simp only [Option.some.injEq] at h; subst h
    cases hr with
    | full _ _ a h =>
    cases h with
    | slice _ _ a cap oZ ad xf ha jU hz hF h1 hR => exact (bC.slice E.pure _ a _ oZ ad xf ha (Nat.le_refl _) hz hF h1 hR).mono hle
  · simp only [Option.some.injEq] at h; subst h
    cases hr with
    | cH _ _ ad xf hF hR => exact (bC.cH E.pure _ ad xf hF hR).mono hle
  · simp only [Option.some.injEq] at h; subst h
    cases hr with
    | gn => exact .gn _
  · rename_i b v s l
    have di : (b, v) ∈ keys := hk (b, v) (by simp [gM])
    split at h
    · rename_i v' e rs hm
      split at h
      · rename_i hl; obtain ⟨rfl, hl⟩ := hl; simp only [Option.some.injEq] at h; subst h; exact SL hr di hm (.inl rfl) hl
      · cases h
    · rename_i v' e rs hm
      split at h
      · rename_i hl; obtain ⟨rfl, hl⟩ := hl; simp only [Option.some.injEq] at h; subst h; exact SL hr di hm (.inr rfl) hl
      · cases h
    · cases h
  · simp only [Option.some.injEq] at h; subst h
    cases hr with
    | bp _ f _ _ xs ys hx hy h1 h2 =>
      have e1 : xs = #[] := by simpa using hx.symm
      have e2 : ys = #[] := by simpa using hy.symm
      subst e1; subst e2; exact .sc _ _
  · cases h

theorem m8 {E : Env} {w : World} {a : Act} {st : St} (hs : bH E w a st) {keys : List (Nat × Nat)} : ∀ {vs vs' : List V} {xs : List Value}, bo E vs xs → eh st.mem vs = some vs' → (∀ k ∈ vs.flatMap gM, k ∈ keys) →
    bo (E.lR w keys).pure vs' xs
  | [], vs', xs, hr, h, _ => by simp [eh] at h; subst h; rw [hr.of_nil]; exact .nil _
  | v :: vs, vs', xs, hr, h, hk => by
    obtain ⟨x, ys, rfl, h1, h2⟩ := hr.of_cons
    simp only [eh] at h
    split at h
    · rename_i c' hc
      split at h
      · rename_i r' y1
        simp only [Option.some.injEq] at h; subst h
        exact .cons (k6 hs h1 hc fun k gD => hk k (by simp [gD])) (m8 hs h2 y1 fun k gD => hk k (by simp at gD ⊢; exact .inr gD))
      · cases h
    · cases h

theorem ud {E : Env} {w : World} {a : Act} {st : St} (hs : bH E w a st) {keys : List (Nat × Nat)} {v v' : V} {x : Value} (hr : bC E v x) (h : e8 st.mem v = some v') (hk : ∀ k ∈ cL v, k ∈ keys) : bC (E.lR w keys).pure v' x := by
  unfold e8 at h
  split at h
  · split at h
    · rename_i cs l hl
      simp only [Option.some.injEq] at h; subst h
      cases hr with
      | agg _ _ xs hlen hh =>
        have := m8 hs (xs := xs.toList) ⟨by simpa using hlen, fun i c x hc hx => hh i c x hc (by simpa using hx)⟩ hl (by simpa [cL] using hk)
        exact .agg _ _ _ (by simpa using this.1) fun i c x hc hx => this.2 i c x hc (by simpa using hx)
    · cases h
  · rename_i ch
    refine k6 hs hr h fun k gD => hk k ?_
    cases v <;> first | exact gD | exact absurd rfl (ch _)
theorem iZ {E : Env} {w : World} {a : Act} {st : St} (hs : bH E w a st) {keys : List (Nat × Nat)} : ∀ {vs vs' : List V} {xs : List Value}, bo E vs xs → dq st.mem vs = some vs' → (∀ k ∈ vs.flatMap cL, k ∈ keys) →
    bo (E.lR w keys).pure vs' xs
  | [], vs', xs, hr, h, _ => by simp [dq] at h; subst h; rw [hr.of_nil]; exact .nil _
  | v :: vs, vs', xs, hr, h, hk => by
    obtain ⟨x, ys, rfl, h1, h2⟩ := hr.of_cons
    simp only [dq] at h
    split at h
    · rename_i c' hc
      split at h
      · rename_i r' y1
        simp only [Option.some.injEq] at h; subst h
        exact .cons (ud hs h1 hc fun k gD => hk k (by simp [gD])) (iZ hs h2 y1 fun k gD => hk k (by simp at gD ⊢; exact .inr gD))
      · cases h
    · cases h
theorem wK {E : Env} {w : World} {a : Act} {st : St} (hs : bH E w a st) {keys : List (Nat × Nat)} {v v' : V} {x : Value} (hr : bC E v x) (h : Fe st.mem v = some v') (hk : ∀ k ∈ refs v, k ∈ keys) : bC (E.lR w keys).pure v' x := by
  unfold Fe at h
  split at h
  · split at h
    · rename_i vs l hl
      simp only [Option.some.injEq] at h; subst h
      cases hr with
      | cC _ _ xs hlen hh =>
        have := iZ hs (xs := xs.toList) ⟨by simpa using hlen, fun i c x hc hx => hh i c x hc (by simpa using hx)⟩ hl (by simpa [refs] using hk)
        exact .cC _ _ _ (by simpa using this.1) fun i c x hc hx => this.2 i c x hc (by simpa using hx)
    · cases h
  · rename_i ch
    refine ud hs hr h fun k gD => hk k ?_
    cases v <;> first | exact gD | exact absurd rfl (ch _)

def aT (P : Program) (f : FuncId) (args : List V) (r : V) : Prop :=
  (∀ (xs : Array Value) (w : World), (callFunc f xs).run P w = .ok (.enter f xs) w) ∧
  ∀ (F : Addr → Option Value) (hg : Gl F) (w : World) (xs : Array Value), (∀ ad x, F ad = some x → w.cell? ad = some x) → bo ⟨F, fun _ _ => none, hg⟩ args xs.toList →
    Calls P f xs w fun e w' => ∃ F' x, e = .returned x ∧ (∀ ad y, F ad = some y → F' ad = some y) ∧ (∀ ad y, F' ad = some y → w'.cell? ad = some y) ∧ (∀ ad y, F' ad = some y → F ad = some y ∨ w.heap.size ≤ ad.block) ∧
      (∃ zJ, bC ⟨F', fun _ _ => none, zJ⟩ r x) ∧ Below w.heap.size w w'

def eP : V → Bool
  | .undef => true
  | .sc _ => true
  | .agg cs => cs.all (fun c => match c with | .sc _ => true | _ => false)
  | _ => false
def fj : V → Bool
  | .cC vs => vs.all eP
  | v => eP v

theorem wL {E E' : Env} {v : V} {x : Value} (h : bC E v x) (hf : eP v = true) : bC E' v x := by
  cases h with
  | undef => exact .undef _ _
  | sc => exact .sc _ _
  | agg _ cs xs hl hh =>
    refine .agg _ _ _ hl fun i c x hc hx => ?_
    have h1 := hh i c x hc hx
    simp only [eP,List.all_eq_true] at hf
    have := hf c (List.mem_of_getElem? hc)
    cases c <;> simp at this
    rw [dk h1]; exact .sc _ _
  | _ => simp [eP] at hf
theorem Ff {E E' : Env} {v : V} {x : Value} (h : bC E v x) (hf : fj v = true) : bC E' v x := by
  unfold fj at hf
  split at hf
  · cases h with
    | cC _ vs xs hl hh =>
      refine .cC _ _ _ hl fun i c x hc hx => wL (hh i c x hc hx) ?_
      simp only [List.all_eq_true] at hf
      exact hf c (List.mem_of_getElem? hc)
  · exact wL h hf

def cu (mem : List aC) (k : Nat × Nat) : List aC := match mem[k.1]? with | some (.rows v e rs) => if v = k.2 then mem.set k.1 (.pV v e rs) else mem | _ => mem
def aR (mem : List aC) (keys : List (Nat × Nat)) : List aC := keys.foldl cu mem

def kK (keys : List (Nat × Nat)) (q : Nat) : Option aC → Option aC
  | some (.rows v e rs) => if (q, v) ∈ keys then some (.pV v e rs) else some (.rows v e rs)
  | B => B
theorem Ht (mem : List aC) (k : Nat × Nat) (q : Nat) : (cu mem k)[q]? = kK [k] q mem[q]? := by
  obtain ⟨k, kv⟩ := k
  unfold cu
  dsimp only
  split
  · rename_i v e rs hk
    split
    · rename_i hv
      subst hv
      rw [List.getElem?_set]
      by_cases hq : k = q
      · subst hq
        rw [hk]
        simp [kK, (List.getElem?_eq_some_iff.1 hk).1]
      · rw [if_neg hq]
        have Lp : ¬ q = k := fun e => hq e.symm
        cases hB : mem[q]? with
        | none => rfl
        | some B => cases B <;> simp [kK, Lp]
    · rename_i hv
      cases hB : mem[q]? with
      | none => rfl
      | some B =>
        cases B <;> first | rfl | skip
        rename_i v' e' jw
        simp only [kK,List.mem_singleton,Prod.mk.injEq]
        rw [if_neg]
        rintro ⟨rfl, rfl⟩
        rw [hk] at hB; cases hB; exact hv rfl
  · rename_i hk
    cases hB : mem[q]? with
    | none => rfl
    | some B =>
      cases B <;> first | rfl | skip
      rename_i v e rs
      simp only [kK,List.mem_singleton,Prod.mk.injEq]
      rw [if_neg]
      rintro ⟨rfl, rfl⟩
      exact hk _ _ _ hB
theorem lZ (keys : List (Nat × Nat)) : ∀ (mem : List aC) (q : Nat), (aR mem keys)[q]? = kK keys q mem[q]? := by
  induction keys with
  | nil => intro mem q; simp only [aR,List.foldl_nil]; cases hB : mem[q]? with | none => rfl | some B => cases B <;> simp [kK]
  | cons k r ih =>
    intro mem q
    show (aR (cu mem k) r)[q]? = _
    rw [ih, Ht]
    cases hB : mem[q]? with
    | none => rfl
    | some B =>
      cases B <;> first | rfl | skip
      rename_i v e rs
      simp only [kK,List.mem_cons,List.not_mem_nil,or_false]
      by_cases hq : (q, v) = k
      · rw [if_pos hq, if_pos (.inl hq)]
      · rw [if_neg hq]
        by_cases hr : (q, v) ∈ r
        · rw [if_pos (.inr hr)]; simp [hr]
        · rw [if_neg (fun h => h.elim hq hr)]; simp [hr]
theorem oN (keys : List (Nat × Nat)) : ∀ (mem : List aC), (aR mem keys).length = mem.length := by
  induction keys with
  | nil => intro mem; rfl
  | cons k r ih =>
    intro mem
    show (aR (cu mem k) r).length = _
    rw [ih]; unfold cu
    split
    · split <;> simp
    · rfl

def bx (mem : List aC) (keys : List (Nat × Nat)) (r : V) : List aC := if fj r = true then mem else aR mem keys

theorem Fg {mem : List aC} {k : Nat × Nat} : ∀ {us Hu : List V}, dq mem us = some Hu → k ∈ us.flatMap cL → ∃ B, mem[k.1]? = some B ∧ B.b7 = k.2 ∧ ∃ e rs, B = .rows k.2 e rs ∨ B = .pV k.2 e rs := by
  have NY : ∀ (cs BU : List V), eh mem cs = some BU → k ∈ cs.flatMap gM → ∃ B, mem[k.1]? = some B ∧ B.b7 = k.2 ∧ ∃ e rs, B = .rows k.2 e rs ∨ B = .pV k.2 e rs := by
    intro cs
    induction cs with
    | nil => intro BU _ hm; simp at hm
    | cons c r ih =>
      intro BU hp hm
      simp only [eh] at hp
      split at hp
      · rename_i c' hc
        split at hp
        · rename_i r' hr
          simp only [List.flatMap_cons,List.mem_append] at hm
          rcases hm with hm | hm
          · cases c <;> simp only [gM,List.mem_singleton,List.not_mem_nil] at hm
            subst hm
            simp only [cq] at hc
            split at hc
            · rename_i h
              split at hc
              · rename_i hv; obtain ⟨rfl, -⟩ := hv; exact ⟨_, h, rfl, _, _, .inl rfl⟩
              · cases hc
            · rename_i h
              split at hc
              · rename_i hv; obtain ⟨rfl, -⟩ := hv; exact ⟨_, h, rfl, _, _, .inr rfl⟩
              · cases hc
            · cases hc
          · exact ih _ hr hm
        · cases hp
      · cases hp
  intro us
  induction us with
  | nil => intro Hu _ hm; simp at hm
  | cons c r ih =>
    intro Hu hp hm
    simp only [dq] at hp
    split at hp
    · rename_i c' hc
      split at hp
      · rename_i r' hr
        simp only [List.flatMap_cons,List.mem_append] at hm
        rcases hm with hm | hm
        · unfold e8 at hc
          split at hc
          · split at hc
            · rename_i l hl; exact NY _ _ hl hm
            · cases hc
          · rename_i ch
            refine NY [c] [c'] (by simp [eh, hc]) ?_
            simp only [List.flatMap_cons,List.flatMap_nil,List.append_nil]
            cases c <;> first | exact hm | exact absurd rfl (ch _)
        · exact ih hr hm
      · cases hp
    · cases hp

theorem ue {E : Env} {w w' : World} {a : Act} {st : St} (hs : bH E w a st) {vs vs' : List V} (hp : dq st.mem vs = some vs') {F' : Addr → Option Value} (Cn : ∀ ad y, (E.lR w (vs.flatMap cL)).F ad = some y → F' ad = some y)
    (gg : ∀ ad y, F' ad = some y → w'.cell? ad = some y) (XU : ∀ ad y, F' ad = some y → (E.lR w (vs.flatMap cL)).F ad = some y ∨ w.heap.size ≤ ad.block) (hb : Below w.heap.size w w') :
    ∃ hg, ec E w ⟨F', E.bd, hg⟩ w' ∧ bH ⟨F', E.bd, hg⟩ w' a { st with mem := aR st.mem (vs.flatMap cL) } := by
  have hg : Gl F' := E.gl.mono fun ad x h => Cn _ _ ((Env.rH E w _).F _ _ h)
  refine ⟨hg, ?_⟩
  have hle : E.le ⟨F', E.bd, hg⟩ := ⟨fun ad y hy => Cn _ _ ((Env.rH E w _).F _ _ hy), fun _ _ _ h => h⟩
  have YQ : (E.lR w (vs.flatMap cL)).le ⟨F', E.bd, hg⟩ := ⟨Cn, fun _ _ _ h => h⟩
  -- no cell of F' cV in a held block gN was not handed over
  have clean : ∀ k B, st.mem[k]? = some B → B.held = true → (∀ v e rs, B ≠ .pV v e rs) → (∀ v e rs, B = .rows v e rs → (k, v) ∉ vs.flatMap cL) → ∀ g e c o, E.bd k B.b7 = some (g, e, c) → E.F ⟨g, o, none⟩ = none → F' ⟨g, o, none⟩ = none := by
    intro k B hB hh bu uf g e c o di hn
    cases hy : F' ⟨g, o, none⟩ with
    | none => rfl
    | some y =>
      exfalso
      rcases XU _ y hy with h | h
      · rcases Env.xS h with h | ⟨k', gD, e', c', h⟩
        · rw [hn] at h; cases h
        · obtain ⟨B', pT, tK, e1, rs1, Lo⟩ := Fg hp gD
          have Ln : B'.held = true := by rcases Lo with rfl | rfl <;> rfl
          rw [← tK] at h
          have c6 := hs.apart _ _ _ _ _ _ _ _ _ di h
          subst c6
          rw [hB] at pT; cases pT
          rcases Lo with rfl | rfl
          · exact uf _ _ _ rfl (by rw [show (k'.1, k'.2) = k' from rfl]; exact gD)
          · exact bu _ _ _ rfl
      · have := hs.lt _ _ _ _ _ di; simp at h; omega
  refine ⟨⟨hle, fun k v g e c h => .inl ⟨k, v, e, c, h⟩, fun ad y hy => ?_, hb.os, hb.tape, hb.output, hb.size, fun b aZ _ => hb.block b aZ⟩, ?_⟩
  · rcases XU ad y hy with h | h
    · rcases Env.xS h with h | ⟨k, -, e, c, h⟩
      · exact .inl h
      · exact .inr (.inr ⟨k.1, k.2, e, c, h⟩)
    · exact .inr (.inl h)
  · have o4 : ∀ (q : Nat) (B : aC), (aR st.mem (vs.flatMap cL))[q]? = some B → ∃ B', st.mem[q]? = some B' ∧ B.b7 = B'.b7 ∧ B.held = B'.held ∧ (B = B' ∧ (∀ v e rs, B = .rows v e rs → (q, v) ∉ vs.flatMap cL) ∨ ∃ v e rs, B' = .rows v e rs ∧ B = .pV v e rs ∧ (q, v) ∈ vs.flatMap cL) := fun q B hq => by
      rw [lZ] at hq
      cases D7 : st.mem[q]? with
      | none => rw [D7] at hq; simp [kK] at hq
      | some B0 =>
        rw [D7] at hq
        refine ⟨B0, rfl, ?_⟩
        cases B0 with
        | rows v e rs =>
          simp only [kK] at hq
          split at hq
          · rename_i kX; cases hq; exact ⟨rfl, rfl, .inr ⟨v, e, rs, rfl, rfl, kX⟩⟩
          · rename_i kX; cases hq; exact ⟨rfl, rfl, .inl ⟨rfl, fun v' e' jw h => by cases h; exact kX⟩⟩
        | _ => cases hq; exact ⟨rfl, rfl, .inl ⟨rfl, fun v' e' jw h => by cases h⟩⟩
    refine ⟨gg, fun k v g e c h => Nat.lt_of_lt_of_le (hs.lt _ _ _ _ _ h) hb.size, fun k B hk => ?_, fun k hk v => hs.top k (by simpa [oN] using hk) v, fun k B hk v hv => ?_, hs.apart, hs.fr.mono hle⟩
    · obtain ⟨B', pT, -, -, ub⟩ := o4 k B hk
      rcases ub with ⟨rfl, uf⟩ | ⟨v, e, rs, rfl, rfl, kX⟩
      · have ug := (hs.mem k B pT).mono (E' := ⟨F', E.bd, hg⟩) (w' := w') hle (fun _ h => h) (fun g e c h => hb.block _ (hs.lt _ _ _ _ _ h))
        cases LO : B with
        | pV v e rs =>
          subst LO
          rcases hs.mem k _ pT with h9 | ⟨g, c, jr, hl, hr⟩
          · exact .inl h9
          refine .inr ⟨g, c, jr, hl, fun i row hi => ?_⟩
          obtain ⟨h5, h6⟩ := hr i row hi
          exact ⟨h5, fun j cc hj => let ⟨x, hx, h7, h8⟩ := h6 j cc hj; ⟨x, hle.F _ _ hx, h7, h8.mono (Env.gL hle)⟩⟩
        | hole => subst LO; exact hs.mem k _ pT
        | dead => trivial
        | loop s jV fr params assign body => subst LO; exact ug (clean k _ pT rfl (fun _ _ _ h => by cases h) (fun _ _ _ h => by cases h))
        | box cs => subst LO; exact ug (clean k _ pT rfl (fun _ _ _ h => by cases h) (fun _ _ _ h => by cases h))
        | map bV clock => subst LO; exact ug (clean k _ pT rfl (fun _ _ _ h => by cases h) (fun _ _ _ h => by cases h))
        | fh m since seen last => subst LO; exact ug (clean k _ pT rfl (fun _ _ _ h => by cases h) (fun _ _ _ h => by cases h))
        | jP s pos => subst LO; exact ug (clean k _ pT rfl (fun _ _ _ h => by cases h) (fun _ _ _ h => by cases h))
        | j7 => subst LO; exact ug (clean k _ pT rfl (fun _ _ _ h => by cases h) (fun _ _ _ h => by cases h))
        | rows v e rs => subst LO; exact ug (clean k _ pT rfl (fun _ _ _ h => by cases h) uf)
      · rcases hs.mem k _ pT with h9 | ⟨g, T, cur, c, jr, -⟩
        · exact .inl h9
        · obtain ⟨-, hl, hr⟩ := zI hs kX jr pT (.inl rfl)
          refine .inr ⟨g, c, jr, hl, fun i row hi => ?_⟩
          obtain ⟨h5, h6⟩ := hr i row hi
          exact ⟨h5, fun j cc hj => let ⟨x, hx, h7, h8⟩ := h6 j cc hj; ⟨x, YQ.F _ _ hx, h7, h8.mono (Env.gL hle)⟩⟩
    · obtain ⟨B', pT, BV, -, -⟩ := o4 k B hk
      exact hs.b7 k B' pT v (by omega)

theorem bH.freeze {E : Env} {w : World} {a : Act} {st : St} (hs : bH E w a st) {vs vs' : List V} (hp : dq st.mem vs = some vs') :
    ∃ E', bH E' w a { st with mem := aR st.mem (vs.flatMap cL) } ∧ ec E w E' w ∧ ∀ xs, bo E vs xs → bo E' vs' xs := by
  obtain ⟨hg, h1, h2⟩ := ue hs hp (F' := (E.lR w (vs.flatMap cL)).F) (fun _ _ h => h) (fun ad y h => Env.D6 hs.F h) (fun _ _ h => .inl h) (Below.refl _ w)
  exact ⟨_, h2, h1, fun xs hx => (iZ hs (keys := vs.flatMap cL) hx hp fun k hk => hk).mono ⟨fun _ _ h => h, fun _ _ _ h => by cases h⟩⟩

theorem Fh {P : Program} {f : FuncId} {E : Env} {w : World} {a : Act} {st : St} (hs : bH E w a st) {vs vs' : List V} {r : V} {xs : Array Value} (hx : bo E vs xs.toList) (hp : dq st.mem vs = some vs') (hf : aT P f vs' r) :
    Calls P f xs w fun e w' => ∃ E' x, e = .returned x ∧ ec E w E' w' ∧ bH E' w' a { st with mem := bx st.mem (vs.flatMap cL) r } ∧ bC E' r x := by
  have h1 := iZ hs (keys := vs.flatMap cL) hx hp fun k hk => hk
  refine (hf.2 (E.lR w (vs.flatMap cL)).F (E.lR w (vs.flatMap cL)).gl w xs (fun ad x h => Env.D6 hs.F h) h1).mono ?_
  rintro e w' ⟨F', x, rfl, Cn, gg, XU, ⟨zJ, jX⟩, hb⟩
  unfold bx
  split
  · rename_i S3
    refine ⟨E, x, rfl, ⟨E.le_refl, fun k v g e c h => .inl ⟨k, v, e, c, h⟩, fun _ _ h => .inl h, hb.os, hb.tape, hb.output, hb.size, fun b aZ _ => hb.block b aZ⟩, ?_, Ff jX S3⟩
    refine ⟨fun ad y hy => ?_, fun k v g e c h => Nat.lt_of_lt_of_le (hs.lt _ _ _ _ _ h) hb.size, fun k B hk => ?_, hs.top, hs.b7, hs.apart, hs.fr⟩
    · rw [hb.cell (World.block_lt_of_cell? w ad (hs.F ad y hy))]; exact hs.F ad y hy
    · exact (hs.mem k B hk).mono E.le_refl (fun _ h => h) (fun g e c h => hb.block _ (hs.lt _ _ _ _ _ h)) fun _ _ _ _ _ h => h
  · obtain ⟨hg, e1, s1⟩ := ue hs hp Cn gg XU hb
    exact ⟨_, x, rfl, e1, s1, jX.mono ⟨fun _ _ h => h, fun _ _ _ h => by simp at h⟩⟩
end Go.Eng
end
