/-
  THE ENGINE, A: abstract values, and what it means that one stands for a value of the model in a world.
  THE ENGINE, B: the table of types, the store, the state of a call, and what one operation makes of it.
  THE ENGINE, C: the operations that write nothing, and that each does in the model what it says.
  THE ENGINE, D: one word for all operations that write nothing.
  THE ENGINE, DM: maps: reading them.
  THE ENGINE, E: the word for every operation that writes nothing, and its soundness.
  THE ENGINE, F: new blocks, stores, what is read for good.
  THE ENGINE, G: stores.
  THE ENGINE, H: slices that are made: literals, append.
  THE ENGINE, I: append.
  THE ENGINE, IM: maps: writing them; ranging over them, and over strings.
  THE ENGINE, SF: append to a slice that begins behind its block's beginning: it may stay where it is, or go to a new block.
  THE ENGINE, J: what a call hands over; contracts.
-/
import Derived.Orders
import Derived.Below
import Derived.Laws.AppendOwn
import Derived.Laws.Cells
import Derived.Laws.Entries
import Derived.Laws.ResultCell
import Derived.Laws.BytesArg
import Derived.Laws.Append
import Derived.IntWalk
set_option linter.all false
section
namespace Go.Eng

class aE where
 n : Int
 κ : Int → Option Bool
 ok : ∀ k b, κ k = some b → decide (k ≤ n) = b
 g : Option Nat
 Ny : Nat → Option (List Value)
variable [aE]
structure Gl (F : Addr → Option Value) : Prop where
 n : ∀ g, aE.g = some g → F ⟨g, 0, none⟩ = some (.int .i64 aE.n)
 t : ∀ g cs (j : Nat) x, aE.Ny g = some cs → cs[j]? = some x → F ⟨g, j, none⟩ = some x
theorem Gl.mono {F F' : Addr → Option Value} (h : Gl F) (hF : ∀ ad x, F ad = some x → F' ad = some x) : Gl F' := ⟨fun g hg => hF _ _ (h.n g hg), fun g cs j x h1 h2 => hF _ _ (h.t g cs j x h1 h2)⟩

inductive V where
 | undef
 | sc (v : Value)
 | agg (cs : List V)
 | slice (rows : List V)
 | ms (b v s l : Nat)
 | ptr (b o : Nat)
 | cY (b v i o : Nat)
 | cg (cs : List V)
 | fU (f : Fn) (first cap : List V)
 | bt (vs : List V)
 | ik (b : Nat)
 | mp (b : Nat)
 | gn
 | full (rows : List V)
 deriving Inhabited

def V.cells : V → List V
 | .agg cs => cs
 | v => [v]

structure Env where
 F : Addr → Option Value
 aG : Nat → Nat → Option (Nat × Nat × Nat)
 gl : Gl F

def Env.pure (E : Env) : Env := { F := E.F, aG := fun _ _ => none, gl := E.gl }

inductive aT : Env → V → Value → Prop
 | undef (E : Env) (x : Value) : aT E .undef x
 | sc (E : Env) (v : Value) : aT E (.sc v) v
 | agg (E : Env) (cs : List V) (xs : Array Value) (hl : cs.length = xs.size) (h : ∀ (i : Nat) (c : V) (x : Value), cs[i]? = some c → xs[i]? = some x → aT E c x) : aT E (.agg cs) (.agg xs)
 | slice (E : Env) (rows : List V) (a : Option Addr) (cap nj : Nat) (ad : Addr) (xf : Nat → Nat → Value) (ha : rows ≠ [] → a = some ad) (hX : rows.length ≤ cap)
   (hs : ∀ (i : Nat) (row : V), rows[i]? = some row → row.cells.length = nj)
   (hF : ∀ (i : Nat) (row : V) (j : Nat) (c : V), rows[i]? = some row → row.cells[j]? = some c → E.F (ad.add (i * nj + j)) = some (xf i j))
   (h1 : ∀ (i : Nat) (row : V) (j : Nat) (c : V), rows[i]? = some row → row.cells[j]? = some c → (xf i j).oneCell' = true)
   (h : ∀ (i : Nat) (row : V) (j : Nat) (c : V), rows[i]? = some row → row.cells[j]? = some c → aT E.pure c (xf i j)) : aT E (.slice rows) (.slice a rows.length cap)
 | ms (E : Env) (b v s l g e c : Nat) (a : Option Addr) (cap : Nat) (hb : E.aG b v = some (g, e, c)) (hl : 0 < l → a = some ⟨g, s * e, none⟩) (h0 : s = 0 → a = some ⟨g, 0, none⟩ ∧ cap = c) (hc : l ≤ cap ∧ s + cap = c ∧ (0 < cap → a = some ⟨g, s * e, none⟩)) :
   aT E (.ms b v s l) (.slice a l cap)
 | cZ (E : Env) (b v s : Nat) : aT E (.ms b v s 0) (.slice none 0 0)
 | ptr (E : Env) (b o g e c : Nat) (hb : E.aG b 0 = some (g, e, c)) : aT E (.ptr b o) (.pointer (some ⟨g, o, none⟩))
 | cY (E : Env) (b v i o g e c : Nat) (hb : E.aG b v = some (g, e, c)) : aT E (.cY b v i o) (.pointer (some ⟨g, i * e + o, none⟩))
 | cg (E : Env) (cs : List V) (ad : Addr) (xf : Nat → Value) (hF : ∀ (j : Nat) (c : V), cs[j]? = some c → E.F (ad.add j) = some (xf j)) (h : ∀ (j : Nat) (c : V), cs[j]? = some c → aT E.pure c (xf j)) :
   aT E (.cg cs) (.pointer (some ad))
 | fU (E : Env) (f : Fn) (first cap : List V) (xs ys : Array Value) (hx : first.length = xs.size) (hy : cap.length = ys.size)
   (h1 : ∀ (i : Nat) (c : V) (x : Value), first[i]? = some c → xs[i]? = some x → aT E c x) (h2 : ∀ (i : Nat) (c : V) (x : Value), cap[i]? = some c → ys[i]? = some x → aT E c x) : aT E (.fU f first cap) (.func f xs ys)
 | ik (E : Env) (b l e c : Nat) (hb : E.aG b 0 = some (l, e, c)) : aT E (.ik b) (.func (.yield l) #[] #[])
 | mp (E : Env) (b l e c : Nat) (hb : E.aG b 0 = some (l, e, c)) : aT E (.mp b) (.map (some l))
 | gn (E : Env) : aT E .gn (.int .i64 aE.n)
 | full (E : Env) (rows : List V) (a : Option Addr) (h : aT E (.slice rows) (.slice a rows.length rows.length)) : aT E (.full rows) (.slice a rows.length rows.length)
 | bt (E : Env) (vs : List V) (xs : Array Value) (hl : vs.length = xs.size) (h : ∀ (i : Nat) (c : V) (x : Value), vs[i]? = some c → xs[i]? = some x → aT E c x) : aT E (.bt vs) (.tuple xs)

def aO (E : Env) (vs : List V) (xs : List Value) : Prop := vs.length = xs.length ∧ ∀ (i : Nat) (v : V) (x : Value), vs[i]? = some v → xs[i]? = some x → aT E v x

theorem Env.Ef {a b : Env} (h1 : a.F = b.F) (h2 : a.aG = b.aG) : a = b := by
 cases a; cases b; dsimp only at h1 h2; subst h1; subst h2; rfl

structure Env.le (E E' : Env) : Prop where
 F : ∀ ad x, E.F ad = some x → E'.F ad = some x
 aG : ∀ b v t, E.aG b v = some t → E'.aG b v = some t

theorem Env.le_refl (E : Env) : E.le E := ⟨fun _ _ h => h, fun _ _ _ h => h⟩
theorem Env.le_trans {a b c : Env} (h : a.le b) (k : b.le c) : a.le c := ⟨fun ad x hx => k.F _ _ (h.F _ _ hx), fun b v t hx => k.aG _ _ _ (h.aG _ _ _ hx)⟩
theorem Env.fC {a b : Env} (h : a.le b) : a.pure.le b.pure := ⟨h.F, fun _ _ _ h => h⟩
theorem Env.mf (a : Env) : a.pure.le a := ⟨fun _ _ h => h, fun _ _ _ h => by simp [Env.pure] at h⟩

theorem aT.mono {E E' : Env} {v : V} {x : Value} (h : aT E v x) (hle : E.le E') : aT E' v x := by
 induction h generalizing E' with
 | undef => exact .undef _ _
 | sc => exact .sc _ _
 | agg E cs xs hl h ih => exact .agg _ _ _ hl fun i c x hc hx => ih i c x hc hx hle
 | slice E rows a cap nj ad xf ha hX hs hF h1 h ih => exact .slice _ _ _ _ nj ad xf ha hX hs (fun i row j c hi hj => hle.F _ _ (hF i row j c hi hj)) h1 fun i row j c hi hj => ih i row j c hi hj (Env.fC hle)
 | ms E b v s l g e c a cap hb hl h0 hc => exact .ms _ _ _ _ _ g e c _ _ (hle.aG _ _ _ hb) hl h0 hc
 | cZ E b v s => exact .cZ _ _ _ _
 | ptr E b o g e c hb => exact .ptr _ _ _ g e c (hle.aG _ _ _ hb)
 | cY E b v i o g e c hb => exact .cY _ _ _ _ _ g e c (hle.aG _ _ _ hb)
 | cg E cs ad xf hF h ih => exact .cg _ _ _ xf (fun j c hj => hle.F _ _ (hF j c hj)) fun j c hj => ih j c hj (Env.fC hle)
 | fU E f first cap xs ys hx hy h1 h2 Nz NA => exact .fU _ _ _ _ _ _ hx hy (fun i c x hc hx => Nz i c x hc hx hle) fun i c x hc hx => NA i c x hc hx hle
 | ik E b l e c hb => exact .ik _ _ l e c (hle.aG _ _ _ hb)
 | mp E b l e c hb => exact .mp _ _ l e c (hle.aG _ _ _ hb)
 | gn E => exact .gn _
 | full E rows a h ih => exact .full _ _ _ (ih hle)
 | bt E vs xs hl h ih => exact .bt _ _ _ hl fun i c x hc hx => ih i c x hc hx hle

theorem aO.mono {E E' : Env} {vs : List V} {xs : List Value} (h : aO E vs xs) (hle : E.le E') : aO E' vs xs :=
 ⟨h.1, fun i v x hv hx => (h.2 i v x hv hx).mono hle⟩
theorem aO.nil (E : Env) : aO E [] [] := ⟨rfl, fun i v x h => by simp at h⟩
theorem aO.cons {E : Env} {v : V} {x : Value} {vs : List V} {xs : List Value} (h : aT E v x) (hs : aO E vs xs) : aO E (v :: vs) (x :: xs) := by
 refine ⟨by simp [hs.1], fun i => ?_⟩
 cases i with
 | zero => intro v' x' hv hx; simp at hv hx; subst hv; subst hx; exact h
 | succ i => intro v' x' hv hx; simp at hv hx; exact hs.2 i v' x' hv hx
theorem aO.of_cons {E : Env} {v : V} {vs : List V} {xs : List Value} (h : aO E (v :: vs) xs) : ∃ x ys, xs = x :: ys ∧ aT E v x ∧ aO E vs ys := by
 cases xs with
 | nil => have := h.1; simp at this
 | cons x ys => exact ⟨x, ys, rfl, h.2 0 v x rfl rfl, by have := h.1; simpa using this, fun i v' x' hv hx => h.2 (i + 1) v' x' (by simpa using hv) (by simpa using hx)⟩
theorem aO.of_nil {E : Env} {xs : List Value} (h : aO E [] xs) : xs = [] := by
 have := h.1; simp at this; exact List.length_eq_zero_iff.1 this.symm
theorem aO.append {E : Env} {vs us : List V} {xs ys : List Value} (h : aO E vs xs) (k : aO E us ys) : aO E (vs ++ us) (xs ++ ys) := by
 refine ⟨by simp [h.1, k.1], fun i v x hv hx => ?_⟩
 by_cases hi : i < vs.length
 ·rw [List.getElem?_append_left hi] at hv; rw [List.getElem?_append_left (h.1 ▸ hi)] at hx; exact h.2 i v x hv hx
 ·rw [List.getElem?_append_right (by omega)] at hv; rw [List.getElem?_append_right (by have := h.1; omega), ← h.1] at hx; exact k.2 _ v x hv hx
theorem aO.get {E : Env} {vs : List V} {xs : List Value} (h : aO E vs xs) {i : Nat} {v : V} (hv : vs[i]? = some v) : ∃ x, xs[i]? = some x ∧ aT E v x := by
 have hi : i < xs.length := by rw [← h.1]; exact (List.getElem?_eq_some_iff.1 hv).1
 exact ⟨xs[i], List.getElem?_eq_getElem hi, h.2 i v _ hv (List.getElem?_eq_getElem hi)⟩
theorem aO.drop {E : Env} {vs : List V} {xs : List Value} (h : aO E vs xs) (n : Nat) : aO E (vs.drop n) (xs.drop n) :=
 ⟨by simp [h.1], fun i v x hv hx => h.2 (n + i) v x (by simpa using hv) (by simpa using hx)⟩
theorem aO.take {E : Env} {vs : List V} {xs : List Value} (h : aO E vs xs) (n : Nat) : aO E (vs.take n) (xs.take n) := by
 refine ⟨by simp [h.1], fun i v x hv hx => ?_⟩
 have hi : i < n := by
  by_cases hi : i < n
  ·exact hi
  ·rw [List.getElem?_take] at hv; simp [hi] at hv
 rw [List.getElem?_take_of_lt hi] at hv hx
 exact h.2 i v x hv hx
theorem aO.set {E : Env} {vs : List V} {xs : List Value} (h : aO E vs xs) (n : Nat) {v : V} {x : Value} (hv : aT E v x) : aO E (vs.set n v) (xs.set n x) := by
 refine ⟨by simp [h.1], fun i v' x' rn FV => ?_⟩
 by_cases hi : n = i
 ·subst hi
  rw [List.getElem?_set] at rn FV
  simp only [if_true] at rn FV
  split at rn
  ·split at FV
   ·simp at rn FV; subst rn; subst FV; exact hv
   ·simp at FV
  ·simp at rn
 ·rw [List.getElem?_set_ne hi] at rn FV; exact h.2 i v' x' rn FV

theorem aT.cells {E : Env} {v : V} {x : Value} (h : aT E v x) (hu : v ≠ .undef) (hs : ∀ y, v = .sc y → ∀ cs, y ≠ .agg cs) : aO E v.cells x.cells.toList := by
 cases h with
 | undef => exact absurd rfl hu
 | sc =>
  have : x.cells = #[x] := by
   have := hs x rfl
   cases x <;> simp [Value.cells] at this ⊢
  simp only [V.cells,this]; exact .cons (.sc _ _) (.nil _)
 | agg _ cs xs hl h => exact ⟨by simpa [V.cells, Value.cells] using hl, fun i c x hc hx => h i c x hc (by simpa [Value.cells] using hx)⟩
 | slice _ rows a cap nj ad xf ha hX hz hF h1 h => exact .cons (.slice _ _ _ _ nj ad xf ha hX hz hF h1 h) (.nil _)
 | ms _ b v s l g e c a cap hb hl h0 hc => exact .cons (.ms _ _ _ _ _ g e c _ _ hb hl h0 hc) (.nil _)
 | cZ _ b v s => exact .cons (.cZ _ _ _ _) (.nil _)
 | ptr _ b o g e c hb => exact .cons (.ptr _ _ _ g e c hb) (.nil _)
 | cY _ b v i o g e c hb => exact .cons (.cY _ _ _ _ _ g e c hb) (.nil _)
 | cg _ cs ad xf hF h => exact .cons (.cg _ _ _ xf hF h) (.nil _)
 | fU _ f first cap xs ys hx hy h1 h2 => exact .cons (.fU _ _ _ _ _ _ hx hy h1 h2) (.nil _)
 | ik _ b l e c hb => exact .cons (.ik _ _ l e c hb) (.nil _)
 | mp _ b l e c hb => exact .cons (.mp _ _ l e c hb) (.nil _)
 | gn => exact .cons (.gn _) (.nil _)
 | full _ rows a h => exact .cons (.full _ _ _ h) (.nil _)
 | bt _ vs xs hl h => exact .cons (.bt _ _ _ hl h) (.nil _)
end Go.Eng
end

section
namespace Go.Eng
variable [aE]

structure Ti where
 size : Nat
 agg : Bool
 zero : List Value
 bm : List (Nat × Nat) := []
 elem : Option TypeId := none
 bytes : Nat := 0
 deriving Inhabited

abbrev Table := TypeId → Option Ti

structure TT (P : Program) (tt : Table) : Prop where
 size : ∀ t i, tt t = some i → ∃ info, P.info? t = some info ∧ info.size = i.size ∧ info.bytes = i.bytes ∧ ∃ z, info.zero = some z ∧ z.cells.toList = i.zero
 desc : ∀ t i, tt t = some i → ∃ d, P.underlying t = some d ∧ (i.agg = true ↔ ((∃ fs, d = .struct fs) ∨ ∃ n e, d = .array n e)) ∧
  (∀ e, i.elem = some e → d = .slice e) ∧
  (∀ (f off sz : Nat), i.bm[f]? = some (off, sz) → ∃ fs fd inf, d = .struct fs ∧ fs.size = i.bm.length ∧ fs[f]? = some fd ∧ fd.offset = off ∧ P.info? fd.type = some inf ∧ inf.size = sz ∧ sz ≠ 0)

def aD {α : Type} (P : Program) : Sem α → Option α
 | .pure a => some a
 | .program k => aD P (k P)
 | .mark _ k => aD P k
 | _ => none

theorem cz {α : Type} {P : Program} (s : Sem α) {v : α} (h : aD P s = some v) (w : World) : s.run P w = .ok v w := by
 induction s with
 | pure a => simp [aD] at h; subst h; rfl
 | program k ih => exact ih P h
 | mark m k ih => exact ih h
 | _ => simp [aD] at h

def dj : Value → V
 | .agg cs => .agg (cs.toList.map V.sc)
 | .tuple vs => .bt (vs.toList.map V.sc)
 | v => .sc v

theorem iy (E : Env) (cs : Array Value) (i : Nat) (c : V) (x : Value) (hc : (cs.toList.map V.sc)[i]? = some c) (hx : cs[i]? = some x) : aT E c x := by
 simp only [List.getElem?_map,Array.getElem?_toList,hx,Option.map_some,Option.some.injEq] at hc
 subst hc; exact .sc _ _
theorem fE (E : Env) (v : Value) : aT E (dj v) v := by
 cases v with
 | agg cs => exact .agg _ _ _ (by simp) (iy E cs)
 | tuple cs => exact .bt _ _ _ (by simp) (iy E cs)
 | _ => exact .sc _ _

inductive au where
 | hole
 | dead
 | box (cs : List V)
 | rows (v e : Nat) (rs : List V)
 | mO (v e : Nat) (rs : List V)
 | loop (s : LoopState) (jr : Option Code) (fr : List V) (params : Array Tmp) (assign body : Code)
 | map (bf : List (Value × Nat × V)) (clock : Nat)
 | ed (m since : Nat) (seen : List Nat) (last : Nat)
 | gZ (s : ByteArray) (pos : Nat)
 | iz
 deriving Inhabited

structure St where
 fr : List V
 mem : List au

def St.eval (st : St) : Operand → V
 | .tmp t => st.fr.getD t .undef
 | .const v => dj v
 | .global g => if aE.g = some g then .cg [.gn] else match aE.Ny g with | some cs => .cg (cs.map V.sc) | none => .undef
 | .func f => .sc (.func (.func f) #[] #[])

def St.put (st : St) (dst : Option Tmp) (v : V) : St :=
 match dst with
 | some d => { st with fr := st.fr.set d v }
 | none => st

def fF (E : Env) (e : Nat) (rs : List V) (at_ : Nat → Option Value) : Prop :=
 ∀ (i : Nat) (row : V), rs[i]? = some row → row.cells.length = e ∧ ∀ (j : Nat) (c : V), row.cells[j]? = some c → ∃ x, at_ (i * e + j) = some x ∧ x.oneCell' = true ∧ aT E c x

def cw (E : Env) (bf : List (Value × Nat × V)) (es : List MapEntry) : Prop :=
 bf.length = es.length ∧ ∀ (i : Nat) (k : Value × Nat × V) (e : MapEntry), bf[i]? = some k → es[i]? = some e → e.key = k.1 ∧ e.born = k.2.1 ∧ aT E k.2.2 e.val
theorem cw.mono {E E' : Env} {bf : List (Value × Nat × V)} {es : List MapEntry} (h : cw E bf es) (hle : E.le E') : cw E' bf es :=
 ⟨h.1, fun i k e hk he => let ⟨h1, h2, h3⟩ := h.2 i k e hk he; ⟨h1, h2, h3.mono hle⟩⟩

def iA (E : Env) (w : World) (k : Nat) : au → Prop
 | .hole => ∀ v, E.aG k v = none
 | .dead => True
 | .box cs => ∃ g T xs, E.aG k 0 = some (g, 0, 0) ∧ w.heap[g]? = some (.cells xs T (0, 0)) ∧ aO E cs xs.toList ∧ ∀ o, E.F ⟨g, o, none⟩ = none
 | .rows v e rs => (rs = [] ∧ E.aG k v = none) ∨ ∃ g T xs c, E.aG k v = some (g, e, c) ∧ w.heap[g]? = some (.cells xs T (0, 0)) ∧ xs.size = c * e ∧ rs.length ≤ c ∧ fF E.pure e rs (fun o => xs[o]?) ∧ ∀ o, E.F ⟨g, o, none⟩ = none
 | .mO v e rs => (rs = [] ∧ E.aG k v = none) ∨ ∃ g c, E.aG k v = some (g, e, c) ∧ rs.length ≤ c ∧ fF E.pure e rs (fun o => E.F ⟨g, o, none⟩)
 | .loop s jr fr params assign body => ∃ l fn tmps db, E.aG k 0 = some (l, 0, 0) ∧ w.heap[l]? = some (.loop { state := s, pending := jr, fn := fn, tmps := tmps, params := params, assign := assign, body := body, defers := db }) ∧ aO E fr tmps.toList ∧ ∀ o, E.F ⟨l, o, none⟩ = none

 | .map bf clock => ∃ g es, E.aG k 0 = some (g, 0, 0) ∧ w.heap[g]? = some (.map es clock) ∧ cw E bf es.toList ∧ ∀ o, E.F ⟨g, o, none⟩ = none
 | .ed m since seen last => ∃ g gm e c, E.aG k 0 = some (g, 0, 0) ∧ E.aG m 0 = some (gm, e, c) ∧ w.heap[g]? = some (.mapIter (some gm) since seen.toArray last) ∧ ∀ o, E.F ⟨g, o, none⟩ = none
 | .gZ s pos => ∃ g, E.aG k 0 = some (g, 0, 0) ∧ w.heap[g]? = some (.stringIter s pos) ∧ ∀ o, E.F ⟨g, o, none⟩ = none
 | .iz => ∃ g, E.aG k 0 = some (g, 0, 0) ∧ w.heap[g]? = some (.mapIter none 0 #[] 0) ∧ ∀ o, E.F ⟨g, o, none⟩ = none

def au.ay : au → Nat
 | .rows v _ _ => v
 | .mO v _ _ => v
 | _ => 0
def au.held : au → Bool
 | .hole | .dead => false
 | _ => true

structure aV (E : Env) (w : World) (a : Act) (st : St) : Prop where
 F : ∀ ad x, E.F ad = some x → w.cell? ad = some x
 lt : ∀ k v g e c, E.aG k v = some (g, e, c) → g < w.heap.size
 mem : ∀ k B, st.mem[k]? = some B → iA E w k B
 top : ∀ k, st.mem.length ≤ k → ∀ v, E.aG k v = none
 ay : ∀ k B, st.mem[k]? = some B → ∀ v, B.ay < v → E.aG k v = none
 apart : ∀ k k' v v' g e c e' c', E.aG k v = some (g, e, c) → E.aG k' v' = some (g, e', c') → k = k'
 fr : aO E st.fr a.tmps.toList

theorem aV.eval {E : Env} {w : World} {a : Act} {st : St} (h : aV E w a st) (x : Operand) : aT E (st.eval x) (a.eval x) := by
 cases x with
 | tmp t =>
  simp only [St.eval,Act.eval]
  cases hv : st.fr[t]? with
  | none => rw [List.getD_eq_getElem?_getD, hv]; exact .undef _ _
  | some v =>
   obtain ⟨x, hx, hr⟩ := h.fr.get hv
   rw [List.getD_eq_getElem?_getD, hv, Array.getD_eq_getD_getElem?]
   simp only [Array.getElem?_toList] at hx
   rw [hx]; exact hr
 | const v => exact fE E v
 | global g =>
  simp only [St.eval,Act.eval]
  split
  ·rename_i hg
   refine .cg _ _ _ (fun _ => .int .i64 aE.n) (fun j c hc => ?_) fun j c hc => ?_
   ·match j with
    | 0 => exact E.gl.n g hg
    | j + 1 => simp at hc
   ·match j with
    | 0 => simp at hc; subst hc; exact .gn _
    | j + 1 => simp at hc
  ·split
   ·rename_i cs uj
    refine .cg _ _ _ (fun j => (cs[j]?).getD undef) (fun j c hc => ?_) fun j c hc => ?_
    ·simp only [List.getElem?_map,Option.map_eq_some_iff] at hc
     obtain ⟨x, hx, rfl⟩ := hc
     have h1 : (Addr.mk g 0 none).add j = ⟨g, j, none⟩ := by unfold Addr.add; by_cases hj : j = 0 <;> simp [hj]
     rw [h1, hx]
     exact E.gl.t g cs j x uj hx
    ·simp only [List.getElem?_map,Option.map_eq_some_iff] at hc
     obtain ⟨x, hx, rfl⟩ := hc
     rw [hx]; exact .sc _ _
   ·exact .undef _ _
 | func f => exact .sc _ _

structure dk (E : Env) (w : World) (E' : Env) (w' : World) : Prop where
 le : E.le E'
 aG : ∀ k v g e c, E'.aG k v = some (g, e, c) → (∃ k0 v0 e0 c0, E.aG k0 v0 = some (g, e0, c0)) ∨ w.heap.size ≤ g
 F : ∀ ad x, E'.F ad = some x → E.F ad = some x ∨ w.heap.size ≤ ad.block ∨ ∃ k0 v0 e0 c0, E.aG k0 v0 = some (ad.block, e0, c0)
 os : w'.os = w.os
 tape : w'.tape = w.tape
 output : w'.output = w.output
 size : w.heap.size ≤ w'.heap.size
 heap : ∀ b, b < w.heap.size → (∀ k v e c, E.aG k v ≠ some (b, e, c)) → w'.heap[b]? = w.heap[b]?

theorem dk.refl (E : Env) (w : World) : dk E w E w :=
 ⟨E.le_refl, fun k v g e c h => .inl ⟨k, v, e, c, h⟩, fun _ _ h => .inl h, rfl, rfl, rfl, Nat.le_refl _, fun _ _ _ => rfl⟩
theorem dk.trans {E E1 E2 : Env} {w w1 w2 : World} (h : dk E w E1 w1) (k : dk E1 w1 E2 w2) : dk E w E2 w2 := by
 refine ⟨Env.le_trans h.le k.le, ?_, ?_, k.os.trans h.os, k.tape.trans h.tape, k.output.trans h.output, Nat.le_trans h.size k.size, ?_⟩
 ·intro q v g e c hq
  rcases k.aG q v g e c hq with ⟨k0, v0, e0, c0, h0⟩ | h0
  ·exact h.aG _ _ _ _ _ h0
  ·exact .inr (Nat.le_trans h.size h0)
 ·intro ad x hx
  rcases k.F ad x hx with h0 | h0 | ⟨k0, v0, e0, c0, h0⟩
  ·exact h.F _ _ h0
  ·exact .inr (.inl (Nat.le_trans h.size h0))
  ·rcases h.aG _ _ _ _ _ h0 with h1 | h1
   ·exact .inr (.inr h1)
   ·exact .inr (.inl h1)
 ·intro b hb bD
  rw [k.heap b (Nat.lt_of_lt_of_le hb h.size) ?_, h.heap b hb bD]
  intro q v e c hq
  rcases h.aG _ _ _ _ _ hq with ⟨k0, v0, e0, c0, h0⟩ | h0
  ·exact bD _ _ _ _ h0
  ·omega
theorem dk.drew (E : Env) (w : World) : dk E w E w.drew :=
 ⟨E.le_refl, fun k v g e c h => .inl ⟨k, v, e, c, h⟩, fun _ _ h => .inl h, rfl, rfl, rfl, Nat.le_refl _, fun _ _ _ => rfl⟩
theorem aV.drew {E : Env} {w : World} {a : Act} {st : St} (h : aV E w a st) : aV E w.drew a st :=
 ⟨h.F, h.lt, fun k B hB => by have := h.mem k B hB; cases B <;> exact this, h.top, h.ay, h.apart, h.fr⟩

theorem aV.put {E : Env} {w : World} {a : Act} {st : St} (h : aV E w a st) (dst : Option Tmp) {v : V} {x : Value} (hr : aT E v x) : aV E w (a.put dst x) (st.put dst v) := by
 cases dst with
 | none => exact h
 | some d => exact ⟨h.F, h.lt, h.mem, h.top, h.ay, h.apart, by simpa [St.put, Act.put] using h.fr.set d hr⟩
end Go.Eng
end

section
namespace Go.Eng
variable [aE]

def dq (tt : Table) (T : TypeId) (cs : List V) : Option V :=
 match tt T with
 | some i => if i.agg then (if i.size ≤ cs.length then some (.agg (cs.take i.size)) else none) else cs.head?
 | none => none

def rowOf (mem : List au) (b v i : Nat) : Option V :=
 match mem[b]? with
 | some (.rows v' _ rs) => if v' = v then rs[i]? else none
 | some (.mO v' _ rs) => if v' = v then rs[i]? else none
 | _ => none

def kS (tt : Table) (mem : List au) (T : TypeId) : V → Option V
 | .ptr b o => match mem[b]? with | some (.box cs) => dq tt T (cs.drop o) | _ => none
 | .cY b v i o => match rowOf mem b v i with | some row => dq tt T (row.cells.drop o) | none => none
 | .cg cs => dq tt T cs
 | _ => none

def JT (tt : Table) (S : TypeId) (f : Nat) : Option Nat := match tt S with | some i => (match i.bm[f]? with | some p => some p.1 | none => none) | none => none
def dA (tt : Table) (T : TypeId) : Option TypeId := match tt T with | some i => i.elem | none => none
def jd (tt : Table) (T : TypeId) : Option Nat := match tt T with | some i => some i.size | none => none

def fieldAt (off : Nat) : V → Option V
 | .ptr b o => some (.ptr b (o + off))
 | .cY b v i o => some (.cY b v i (o + off))
 | .cg cs => some (.cg (cs.drop off))
 | _ => none
def we (tt : Table) (S : TypeId) (f : Nat) (x : V) : Option V := match JT tt S f with | some off => fieldAt off x | none => none

def eH (mem : List au) (b v : Nat) : Option Nat :=
 match mem[b]? with
 | some (.rows v' e _) => if v' = v then some e else none
 | some (.mO v' e _) => if v' = v then some e else none
 | _ => none

def indexAt (mem : List au) (size : Nat) (n : Int) : V → Option V
 | .slice rows => if 0 ≤ n then (match rows[n.toNat]? with | some row => if row.cells.length = size then some (.cg row.cells) else none | none => none) else none
 | .ms b v s l => if 0 ≤ n ∧ n < l ∧ eH mem b v = some size then some (.cY b v (s + n.toNat) 0) else none
 | _ => none
def iB (tt : Table) (mem : List au) (T : TypeId) (x i : V) : Option V :=
 match i with
 | .sc (.int _ n) => match dA tt T with
  | some e => match jd tt e with
   | some size => indexAt mem size n x
   | none => none
  | none => none
 | _ => none

theorem add_add (a : Addr) (m n : Nat) : (a.add m).add n = a.add (m + n) := by
 unfold Addr.add
 by_cases hm : m = 0 <;> by_cases hn : n = 0 <;> simp [hm, hn, Nat.add_assoc]
theorem add_lit (b o n : Nat) : (Addr.mk b o none).add n = ⟨b, o + n, none⟩ := by
 unfold Addr.add; by_cases hn : n = 0 <;> simp [hn]

theorem ao {P : Program} {t : TypeId} {d : TypeDesc} (h : P.underlying t = some d) (w : World) : (underlying t).run P w = .ok d w := by
 simp [underlying, h]
theorem cD {P : Program} {t : TypeId} {i : TypeInfo} (h : P.info? t = some i) (w : World) : (typeInfo t).run P w = .ok i w := by
 simp [typeInfo, h]
theorem c5 {P : Program} {t : TypeId} {i : TypeInfo} (h : P.info? t = some i) (w : World) : (sizeOf t).run P w = .ok i.size w := by
 simp [sizeOf, cD h]
theorem TT.isAgg {P : Program} {tt : Table} (h : TT P tt) {t : TypeId} {i : Ti} (ht : tt t = some i) (w : World) : (isAgg t).run P w = .ok i.agg w := by
 obtain ⟨d, hd, ha, -⟩ := h.desc t i ht
 simp only [Go.isAgg,Sem.run_bind,ao hd,Result.andThen_ok]
 cases hi : i.agg with
 | true =>
  rcases ha.1 hi with ⟨fs, rfl⟩ | ⟨n, e, rfl⟩ <;> rfl
 | false =>
  have : ¬ ((∃ fs, d = .struct fs) ∨ ∃ n e, d = .array n e) := fun hh => by rw [ha.2 hh] at hi; cases hi
  cases d <;> first | rfl | (exfalso; apply this; first | exact .inl ⟨_, rfl⟩ | exact .inr ⟨_, _, rfl⟩)
theorem TT.sizeOf {P : Program} {tt : Table} (h : TT P tt) {t : TypeId} {i : Ti} (ht : tt t = some i) (w : World) : (Go.sizeOf t).run P w = .ok i.size w := by
 obtain ⟨info, h1, h2, -⟩ := h.size t i ht
 rw [c5 h1, h2]

def je (E : Env) (w : World) (ad : Addr) (cs : List V) : Prop := ∀ (j : Nat) (c : V), cs[j]? = some c → ∃ x, w.cell? (ad.add j) = some x ∧ aT E c x
theorem je.drop {E : Env} {w : World} {ad : Addr} {cs : List V} (h : je E w ad cs) (n : Nat) : je E w (ad.add n) (cs.drop n) := fun j c hc => by
 rw [add_add]; exact h _ _ (by simpa using hc)

theorem rp {P : Program} {tt : Table} (ht : TT P tt) {E : Env} {w : World} {ad : Addr} {cs : List V} {T : TypeId} {v : V} (h : je E w ad cs) (hp : dq tt T cs = some v) :
  ∃ x, (loadVar T ad).run P w = .ok x w ∧ aT E v x := by
 unfold dq at hp
 cases hi : tt T with
 | none => rw [hi] at hp; simp at hp
 | some i =>
  rw [hi] at hp; simp only at hp
  cases ha : i.agg with
  | false =>
   simp only [ha,Bool.false_eq_true,if_false] at hp
   obtain ⟨x, hx, hr⟩ := h 0 v (by simpa [List.head?_eq_getElem?] using hp)
   have h0 : ad.add 0 = ad := by simp [Addr.add]
   rw [h0] at hx
   refine ⟨x, ?_, hr⟩
   simp [loadVar, ht.isAgg hi, ha, hx]
  | true =>
   simp only [ha,if_true] at hp
   split at hp
   ·rename_i hle
    simp only [Option.some.injEq] at hp; subst hp
    have hx : ∀ j, j < i.size → ∃ x, w.cell? (ad.add j) = some x ∧ ∀ c, cs[j]? = some c → aT E c x := fun j hj => by
     have qw : j < cs.length := by omega
     obtain ⟨x, hx, hr⟩ := h j _ (List.getElem?_eq_getElem qw)
     exact ⟨x, hx, fun c hc => by rw [List.getElem?_eq_getElem qw] at hc; cases hc; exact hr⟩
    let f : Nat → Value := fun j => (w.cell? (ad.add j)).getD default
    have hf : ∀ j, j < i.size → w.cell? (ad.add j) = some (f j) := fun j hj => by
     obtain ⟨x, hx, -⟩ := hx j hj
     simp [f, hx]
    refine ⟨.agg ((List.range i.size).map f).toArray, ?_, ?_⟩
    ·simp only [loadVar,Sem.run_bind,ht.isAgg hi,Result.andThen_ok,ha,if_true,ht.sizeOf hi]
     rw [run_loadCells w ad i.size f hf]
     simp
    ·refine .agg _ _ _ (by simp; omega) fun j c x hc Xl => ?_
     have hj : j < i.size := by
      by_cases hj : j < i.size
      ·exact hj
      ·rw [List.getElem?_take] at hc; simp [hj] at hc
     rw [List.getElem?_take_of_lt hj] at hc
     obtain ⟨y, hy, hr⟩ := hx j hj
     simp [hj] at Xl
     rw [← Xl]
     have : f j = y := by simp [f, hy]
     rw [this]; exact hr c hc
   ·simp at hp

theorem AQ {E : Env} {w : World} (hF : ∀ ad x, E.F ad = some x → w.cell? ad = some x) {cs : List V} {x : Value} (h : aT E (.cg cs) x) : ∃ ad, x = .pointer (some ad) ∧ je E w ad cs := by
 cases h with
 | cg _ _ ad xf hf hr => exact ⟨ad, rfl, fun j c hc => ⟨xf j, hF _ _ (hf j c hc), (hr j c hc).mono E.mf⟩⟩

theorem jf {w : World} {g : Nat} {xs : Array Value} {T : TypeId} {fz : Nat × Nat} (h : w.heap[g]? = some (.cells xs T fz)) (o : Nat) : w.cell? ⟨g, o, none⟩ = xs[o]? := by
 simp [World.cell?, h]

theorem Eg {E : Env} {w : World} {a : Act} {st : St} (hs : aV E w a st) {b o : Nat} {cs : List V} (hm : st.mem[b]? = some (.box cs)) {x : Value} (h : aT E (.ptr b o) x) :
  ∃ ad, x = .pointer (some ad) ∧ je E w ad (cs.drop o) := by
 cases h with
 | ptr _ _ _ g e c hb =>
  obtain ⟨g', T, xs, eO, hh, hr, -⟩ := hs.mem b _ hm
  rw [hb] at eO; cases eO
  refine ⟨_, rfl, fun j c hc => ?_⟩
  rw [add_lit, jf hh]
  obtain ⟨y, hy, Eh⟩ := hr.get (i := o + j) (by simpa using hc)
  exact ⟨y, by simpa using hy, Eh⟩

theorem AR {E : Env} {w : World} {a : Act} {st : St} (hs : aV E w a st) {b v i o : Nat} {row : V} (hm : rowOf st.mem b v i = some row) {x : Value} (h : aT E (.cY b v i o) x) :
  ∃ ad, x = .pointer (some ad) ∧ je E w ad (row.cells.drop o) := by
 cases h with
 | cY _ _ _ _ _ g e c hb =>
  refine ⟨_, rfl, fun j cc hc => ?_⟩
  rw [add_lit]
  have Mv : row.cells[o + j]? = some cc := by simpa using hc
  unfold rowOf at hm
  split at hm
  ·rename_i v' e' rs hk
   split at hm
   ·rename_i hv
    subst hv
    rcases hs.mem b _ hk with ⟨rfl, -⟩ | ⟨g', T, xs, c', eO, hh, -, -, hr, -⟩
    ·simp at hm
    rw [hb] at eO; cases eO
    obtain ⟨-, h2⟩ := hr i row hm
    obtain ⟨y, hy, -, Eh⟩ := h2 _ _ Mv
    exact ⟨y, by rw [jf hh, Nat.add_assoc]; exact hy, Eh.mono E.mf⟩
   ·cases hm
  ·rename_i v' e' rs hk
   split at hm
   ·rename_i hv
    subst hv
    rcases hs.mem b _ hk with ⟨rfl, -⟩ | ⟨g', c', eO, -, hr⟩
    ·simp at hm
    rw [hb] at eO; cases eO
    obtain ⟨-, h2⟩ := hr i row hm
    obtain ⟨y, hy, -, Eh⟩ := h2 _ _ Mv
    exact ⟨y, hs.F _ _ (by rw [Nat.add_assoc]; exact hy), Eh.mono E.mf⟩
   ·cases hm
  ·simp at hm

theorem qx {P : Program} {tt : Table} (ht : TT P tt) {E : Env} {w : World} {a : Act} {st : St} (hs : aV E w a st) {T : TypeId} {p v : V} {x : Value} (hr : aT E p x) (h : kS tt st.mem T p = some v) :
  ∃ y, (Instr.loadAt T x).run P w = .ok y w ∧ aT E v y := by
 have key : ∃ ad cs, x = .pointer (some ad) ∧ je E w ad cs ∧ dq tt T cs = some v := by
  unfold kS at h
  split at h
  ·split at h
   ·rename_i hm
    obtain ⟨ad, h1, h2⟩ := Eg hs hm hr
    exact ⟨ad, _, h1, h2, h⟩
   ·simp at h
  ·split at h
   ·rename_i hm
    obtain ⟨ad, h1, h2⟩ := AR hs hm hr
    exact ⟨ad, _, h1, h2, h⟩
   ·simp at h
  ·obtain ⟨ad, h1, h2⟩ := AQ hs.F hr
   exact ⟨ad, _, h1, h2, h⟩
  ·simp at h
 obtain ⟨ad, cs, rfl, hc, hp⟩ := key
 obtain ⟨y, hy, Eh⟩ := rp ht hc hp
 exact ⟨y, by simp [Instr.loadAt, Instr.sureAddr, hy], Eh⟩

theorem wg {P : Program} {tt : Table} (ht : TT P tt) {E : Env} {S : TypeId} {f : Nat} {p v : V} {x : Value} (hr : aT E p x) (h : we tt S f p = some v) (w : World) :
  ∃ y, (Instr.fieldAt S x f).run P w = .ok y w ∧ aT E v y := by
 unfold we JT at h
 cases hi : tt S with
 | none => rw [hi] at h; simp at h
 | some i =>
  rw [hi] at h; simp only at h
  cases ho : i.bm[f]? with
  | none => rw [ho] at h; simp at h
  | some off =>
   rw [ho] at h; simp only at h
   obtain ⟨d, hd, -, -, UO⟩ := ht.desc S i hi
   obtain ⟨fs, fd, inf, rfl, -, hf, QF, hY, eS, eD⟩ := UO f off.1 off.2 ho
   have kd : inf.size ≠ 0 := by omega
   obtain ⟨off, sz⟩ := off
   dsimp only at QF
   subst QF
   have run : ∀ ad, (Instr.fieldAt S (.pointer (some ad)) f).run P w = .ok (.pointer (some (ad.add fd.offset))) w := fun ad => by
    simp [Instr.fieldAt, ao hd, hf, Instr.sureAddr, fieldPlace, c5 hY, kd]
   unfold Eng.fieldAt at h
   split at h
   ·simp only [Option.some.injEq] at h; subst h
    cases hr with
    | ptr _ _ _ g e c hb => exact ⟨_, run _, by rw [add_lit]; exact .ptr _ _ _ g e c hb⟩
   ·simp only [Option.some.injEq] at h; subst h
    cases hr with
    | cY _ _ _ _ _ g e c hb => exact ⟨_, run _, by rw [add_lit, Nat.add_assoc]; exact .cY _ _ _ _ _ g e c hb⟩
   ·simp only [Option.some.injEq] at h; subst h
    cases hr with
    | cg _ _ ad xf hf hr => exact ⟨_, run _, .cg _ _ _ (fun j => xf (fd.offset + j)) (fun j c hc => by rw [add_add]; exact hf _ _ (by simpa using hc)) fun j c hc => hr _ _ (by simpa using hc)⟩
   ·simp at h

theorem x9 {E : Env} {w : World} {a : Act} {st : St} (hs : aV E w a st) {b v size g e c : Nat} (h : eH st.mem b v = some size) (hb : E.aG b v = some (g, e, c)) : e = size := by
 unfold eH at h
 split at h
 ·rename_i hk
  split at h
  ·rename_i hv
   subst hv
   rcases hs.mem b _ hk with ⟨-, hn⟩ | ⟨g', T', xs, c', eO, -⟩
   ·rw [hb] at hn; cases hn
   rw [hb] at eO; cases eO; simpa using h
  ·cases h
 ·rename_i hk
  split at h
  ·rename_i hv
   subst hv
   rcases hs.mem b _ hk with ⟨-, hn⟩ | ⟨g', c', eO, -⟩
   ·rw [hb] at hn; cases hn
   rw [hb] at eO; cases eO; simpa using h
  ·cases h
 ·simp at h

theorem wh {P : Program} {tt : Table} (ht : TT P tt) {E : Env} {w : World} {a : Act} {st : St} (hs : aV E w a st) {T : TypeId} {p i v : V} {x y : Value} (hp : aT E p x) (hi : aT E i y) (h : iB tt st.mem T p i = some v) :
  ∃ z, (Instr.indexAt T x y).run P w = .ok z w ∧ aT E v z := by
 unfold iB at h
 split at h
 ·rename_i k n
  cases hi with
  | sc =>
  unfold dA jd at h
  cases hT : tt T with
  | none => rw [hT] at h; simp at h
  | some iT =>
   rw [hT] at h; simp only at h
   cases he : iT.elem with
   | none => rw [he] at h; simp at h
   | some e =>
    rw [he] at h; simp only at h
    cases hE : tt e with
    | none => rw [hE] at h; simp at h
    | some ie =>
     rw [hE] at h; simp only at h
     obtain ⟨d, hd, -, hZ, -⟩ := ht.desc T iT hT
     obtain rfl := hZ e he
     have run : ∀ (ad : Addr) (len cap : Nat), 0 ≤ n → n < len → (Instr.indexAt T (.slice (some ad) len cap) (.int k n)).run P w = .ok (.pointer (some (ad.add (n.toNat * ie.size)))) w := fun ad len cap h0 h1 => by
      simp [Instr.indexAt, asIntOf, ao hd, ht.sizeOf hE, h0, h1]
     unfold Eng.indexAt at h
     split at h
     ·rename_i rows
      split at h
      ·rename_i h0
       split at h
       ·rename_i row bW
        split at h
        ·rename_i hlen
         simp only [Option.some.injEq] at h; subst h
         cases hp with
         | slice _ _ aa cap nj ad xf ha hX hz hF h1 hR =>
          have aF : n.toNat < rows.length := (List.getElem?_eq_some_iff.1 bW).1
          have bD : rows ≠ [] := by rintro rfl; simp at aF
          obtain rfl := ha bD
          have UP : nj = ie.size := by rw [← hz _ _ bW, hlen]
          subst UP
          exact ⟨_, run ad _ cap h0 (by omega), .cg _ _ _ (fun j => xf n.toNat j) (fun j c hc => by rw [add_add]; exact hF _ _ _ _ bW hc) fun j c hc => hR _ _ _ _ bW hc⟩
        ·simp at h
       ·simp at h
      ·simp at h
     ·rename_i b v s l
      split at h
      ·rename_i h0
       obtain ⟨h0, h1, h2⟩ := h0
       simp only [Option.some.injEq] at h; subst h
       cases hp with
       | cZ => simp at h1; omega
       | ms _ _ _ _ _ g e' c aa cap hb hl Gd hc =>
        obtain rfl := hl (by omega)
        have CQ : e' = ie.size := x9 hs h2 hb
        subst CQ
        refine ⟨_, run _ _ cap h0 h1, ?_⟩
        have := aT.cY E b v (s + n.toNat) 0 g ie.size c hb
        rw [add_lit, ← Nat.add_mul]
        simpa using this
      ·simp at h
     ·simp at h
 ·simp at h
end Go.Eng
end

section
namespace Go.Eng
variable [aE]

def oc : List V → Option (List Value)
 | [] => some []
 | .sc v :: r => match oc r with | some l => some (v :: l) | none => none
 | _ :: _ => none

def bp : V → Option Value
 | .sc v => some v
 | .agg cs => match oc cs with | some l => some (.agg l.toArray) | none => none
 | _ => none

theorem u6 {E : Env} : ∀ {vs : List V} {xs : List Value} {l : List Value}, aO E vs xs → oc vs = some l → xs = l
 | [], xs, l, h, hl => by simp [oc] at hl; subst hl; exact h.of_nil
 | v :: vs, xs, l, h, hl => by
  obtain ⟨x, ys, rfl, h1, h2⟩ := h.of_cons
  cases v with
  | sc v =>
   simp only [oc] at hl
   split at hl
   ·rename_i l' NB
    simp only [Option.some.injEq] at hl; subst hl
    cases h1
    rw [u6 h2 NB]
   ·simp at hl
  | _ => simp [oc] at hl

theorem eI {E : Env} {v : V} {x y : Value} (h : aT E v x) (hv : bp v = some y) : x = y := by
 cases v with
 | sc v => cases h; simpa [bp] using hv
 | agg cs =>
  simp only [bp] at hv
  split at hv
  ·rename_i l hl
   simp only [Option.some.injEq] at hv; subst hv
   cases h with
   | agg _ _ xs hlen hr =>
    have := u6 (E := E) (xs := xs.toList) ⟨by simpa using hlen, fun i c x hc hx => hr i c x hc (by simpa using hx)⟩ hl
    rw [← this]
  ·simp at hv
 | _ => simp [bp] at hv

def mW (P : Program) (f : Value → Sem Value) (x : V) : Option V :=
 match bp x with
 | some a => match aD P (f a) with | some v => some (dj v) | none => none
 | none => none
def aQ (P : Program) (f : Value → Value → Sem Value) (x y : V) : Option V :=
 match bp x with
 | some a => match bp y with
  | some b => match aD P (f a b) with | some v => some (dj v) | none => none
  | none => none
 | none => none

theorem lu {P : Program} {f : Value → Sem Value} {E : Env} {w : World} {x v : V} {a : Value} (hx : aT E x a) (h : mW P f x = some v) : ∃ y, (f a).run P w = .ok y w ∧ aT E v y := by
 unfold mW at h
 split at h
 ·rename_i a' ha
  cases eI hx ha
  split at h
  ·rename_i y hy
   simp only [Option.some.injEq] at h; subst h
   exact ⟨y, cz _ hy w, fE E y⟩
  ·simp at h
 ·simp at h
theorem gG {P : Program} {f : Value → Value → Sem Value} {E : Env} {w : World} {x y v : V} {a b : Value} (hx : aT E x a) (hy : aT E y b) (h : aQ P f x y = some v) :
  ∃ z, (f a b).run P w = .ok z w ∧ aT E v z := by
 unfold aQ at h
 split at h
 ·rename_i a' ha
  cases eI hx ha
  split at h
  ·rename_i b' hb
   cases eI hy hb
   split at h
   ·rename_i z hz
    simp only [Option.some.injEq] at h; subst h
    exact ⟨z, cz _ hz w, fE E z⟩
   ·simp at h
  ·simp at h
 ·simp at h

def NC : V → Option V
 | .ptr b o => some (.ptr b o)
 | .cY b v i o => some (.cY b v i o)
 | .cg cs => some (.cg cs)
 | .fU (.func f) a b => some (.fU (.func f) a b)
 | .sc (.func (.func f) a b) => some (.sc (.func (.func f) a b))
 | _ => none

def bM (rows : List V) (l size : Nat) : Bool := match rows[l]? with | some row => row.cells.length == size | none => true

def cutAt (mem : List au) (size : Nat) (l : Int) (h : Option Int) : V → Option V
 | .slice rows =>
  if 0 ≤ l ∧ l ≤ h.getD rows.length ∧ h.getD rows.length ≤ rows.length ∧ bM rows l.toNat size = true then some (.slice ((rows.drop l.toNat).take (h.getD rows.length - l).toNat)) else none
 | .ms b v s n =>
  if 0 ≤ l ∧ l ≤ h.getD n ∧ h.getD n ≤ n ∧ eH mem b v = some size then some (.ms b v (s + l.toNat) (h.getD n - l).toNat) else none
 | _ => none

def ya : V → Option Int
 | .sc (.int _ n) => some n
 | _ => none

def sh (P : Program) (tt : Table) (mem : List au) (T : TypeId) (x : V) (lo hi : Option V) : Option V :=
 match x with
 | .sc a => match lo with
  | none => match hi with
   | none => mW P (fun a => Instr.sliceAt T a none none none) (.sc a)
   | some h => aQ P (fun a h => Instr.sliceAt T a none (some h) none) (.sc a) h
  | some l => match hi with
   | none => aQ P (fun a l => Instr.sliceAt T a (some l) none none) (.sc a) l
   | some h => match bp h with
    | some h => aQ P (fun a l => Instr.sliceAt T a (some l) (some h) none) (.sc a) l
    | none => none
 | x => match dA tt T with
  | none => none
  | some e => match jd tt e with
   | none => none
   | some size => match lo with
    | none => match hi with
     | none => cutAt mem size 0 none x
     | some h => match ya h with | some h => cutAt mem size 0 (some h) x | none => none
    | some l => match ya l with
     | none => none
     | some l => match hi with
      | none => cutAt mem size l none x
      | some h => match ya h with | some h => cutAt mem size l (some h) x | none => none

theorem lv {E : Env} {v : V} {x : Value} {n : Int} (h : aT E v x) (hv : ya v = some n) : ∃ k, x = .int k n := by
 unfold ya at hv
 split at hv
 ·cases h; simp at hv; subst hv; exact ⟨_, rfl⟩
 ·simp at hv

theorem jg {E : Env} {w : World} {a : Act} {st : St} (hs : aV E w a st) {size : Nat} {l : Int} {h : Option Int} {x v : V} {y : Value} (hx : aT E x y) (hc : cutAt st.mem size l h x = some v) :
  ∃ aa len cap, y = .slice aa len cap ∧ 0 ≤ l ∧ l ≤ h.getD len ∧ h.getD len ≤ len ∧ len ≤ cap ∧
   aT E v (.slice (if cap = l.toNat then aa else aa.map (·.add (l.toNat * size))) (h.getD len - l).toNat (cap - l.toNat)) := by
 unfold cutAt at hc
 split at hc
 ·rename_i rows
  split at hc
  ·rename_i hh
   obtain ⟨h0, h1, h2, h3⟩ := hh
   simp only [Option.some.injEq] at hc; subst hc
   cases hx with
   | slice _ _ aa cap nj ad xf ha hX hz hF kj hR =>
    refine ⟨aa, rows.length, cap, rfl, h0, h1, h2, hX, ?_⟩
    have hlen : ((rows.drop l.toNat).take (h.getD rows.length - l).toNat).length = (h.getD rows.length - l).toNat := by simp; omega
    have hg : ∀ (i : Nat) (row : V), ((rows.drop l.toNat).take (h.getD rows.length - l).toNat)[i]? = some row → rows[l.toNat + i]? = some row := fun i row hi => by
     rw [List.getElem?_take] at hi
     split at hi
     ·simpa using hi
     ·simp at hi
    suffices yb : aT E (.slice ((rows.drop l.toNat).take (h.getD rows.length - l).toNat)) (.slice (if cap = l.toNat then aa else aa.map (·.add (l.toNat * size))) ((rows.drop l.toNat).take (h.getD rows.length - l).toNat).length (cap - l.toNat)) by
     rw [hlen] at yb; exact yb
    refine .slice _ _ _ (cap - l.toNat) nj (ad.add (l.toNat * nj)) (fun i j => xf (l.toNat + i) j) (fun bD => ?_) (by rw [hlen]; omega) (fun i row hi => hz _ _ (hg i row hi))
     (fun i row j c hi hj => by rw [add_add, ← Nat.add_assoc, ← Nat.add_mul]; exact hF _ _ _ _ (hg i row hi) hj) (fun i row j c hi hj => kj _ _ _ _ (hg i row hi) hj) fun i row j c hi hj => hR _ _ _ _ (hg i row hi) hj
    have aF : l.toNat < rows.length := by
     rcases Nat.lt_or_ge l.toNat rows.length with aF | dg
     ·exact aF
     ·exact absurd (by rw [List.drop_eq_nil_of_le dg]; simp) bD
    have Ge : rows ≠ [] := by rintro rfl; simp at aF
    rw [if_neg (by omega), ha Ge]
    unfold bM at h3
    rw [List.getElem?_eq_getElem aF] at h3
    simp only [beq_iff_eq] at h3
    rw [← h3, hz _ _ (List.getElem?_eq_getElem aF)]
    rfl
  ·simp at hc
 ·rename_i b v s n
  split at hc
  ·rename_i hh
   obtain ⟨h0, h1, h2, h3⟩ := hh
   simp only [Option.some.injEq] at hc; subst hc
   cases hx with
   | cZ =>
    refine ⟨none, 0, 0, rfl, h0, h1, h2, Nat.le_refl _, ?_⟩
    have e1 : l.toNat = 0 := by have : ((0 : Nat) : Int) = 0 := rfl; omega
    have e2 : (h.getD (0 : Nat) - l).toNat = 0 := by have : ((0 : Nat) : Int) = 0 := rfl; omega
    rw [e1, e2]
    exact .cZ _ _ _ _
   | ms _ _ _ _ _ g e c aa cap hb hl Gd CR =>
    obtain rfl := x9 hs h3 hb
    refine ⟨aa, n, cap, rfl, h0, h1, h2, CR.1, ?_⟩
    refine .ms _ _ _ _ _ g e c _ _ hb (fun hp => ?_) (fun hz => ?_) ⟨by omega, by omega, fun hp => by
     rw [if_neg (by omega), CR.2.2 (by omega)]
     simp only [Option.map_some,add_lit,← Nat.add_mul]⟩
    ·rw [if_neg (by omega), hl (by omega)]
     simp only [Option.map_some,add_lit,← Nat.add_mul]
    ·obtain ⟨h5, h6⟩ := Gd (by omega)
     have : l.toNat = 0 := by omega
     rw [this, h5]
     refine ⟨?_, by omega⟩
     split
     ·rfl
     ·simp [Addr.add]
  ·simp at hc
 ·simp at hc

theorem jh {P : Program} {tt : Table} (ht : TT P tt) {T e : TypeId} {size : Nat} (he : dA tt T = some e) (hz : jd tt e = some size) (w : World) (aa : Option Addr) (len cap : Nat) (lo hi : Option Value)
  (l : Int) (h : Option Int) (ke : (lo = none ∧ l = 0) ∨ ∃ k, lo = some (.int k l)) (nk : (hi = none ∧ h = none) ∨ ∃ k n, hi = some (.int k n) ∧ h = some n)
  (h0 : 0 ≤ l) (h1 : l ≤ h.getD len) (h2 : h.getD len ≤ len) (h3 : len ≤ cap) :
  (Instr.sliceAt T (.slice aa len cap) lo hi none).run P w = .ok (.slice (if cap = l.toNat then aa else aa.map (·.add (l.toNat * size))) (h.getD len - l).toNat (cap - l.toNat)) w := by
 unfold dA at he
 unfold jd at hz
 cases hT : tt T with
 | none => rw [hT] at he; simp at he
 | some iT =>
  rw [hT] at he; simp only at he
  cases hE : tt e with
  | none => rw [hE] at hz; simp at hz
  | some ie =>
   rw [hE] at hz; simp only [Option.some.injEq] at hz; subst hz
   obtain ⟨d, hd, -, hZ, -⟩ := ht.desc T iT hT
   obtain rfl := hZ e he
   have dN : ∀ m : Int, (m - l).toNat = m.toNat - l.toNat := fun m => by omega
   rcases ke with ⟨rfl, rfl⟩ | ⟨k, rfl⟩ <;> rcases nk with ⟨rfl, rfl⟩ | ⟨k', n, rfl, rfl⟩ <;>
    simp only [Option.getD_some,Option.getD_none] at h1 h2 ⊢ <;>
    simp only [Instr.sliceAt,Instr.slice,Sem.run_bind,ao hd,Result.andThen_ok,Instr.sliceBounds,Instr.sliceBound,asIntOf,Sem.run_pure,ht.sizeOf hE,Option.isSome_none]
   ·simp
   ·rw [if_pos ⟨by omega, by omega⟩]; simp
   ·rw [if_pos ⟨by omega, by omega⟩]; simp; omega
   ·rw [if_pos ⟨by omega, by omega⟩]
    simp only [Sem.run_pure,Result.andThen_ok]
    rw [if_pos ⟨by omega, by omega⟩]
    simp; omega
end Go.Eng
end

section
namespace Go.Eng
variable [aE]

def dO (kind : TypeDesc) (k : Value) : List (Value × Nat × V) → Nat → Option (Option (Nat × V))
 | [], _ => some none
 | e :: r, i => match Instr.sameNow kind k e.1 with
  | some true => some (some (i, e.2.2))
  | some false => dO kind k r (i + 1)
  | none => none
def iC (P : Program) (T : TypeId) (k : Value) : List (Value × Nat × V) → Nat → Option (Option (Nat × V))
 | [], _ => some none
 | e :: r, i => match aD P (Op.equal T k e.1) with
  | some true => some (some (i, e.2.2))
  | some false => iC P T k r (i + 1)
  | none => none
def kT (P : Program) (T : TypeId) (k : Value) (bf : List (Value × Nat × V)) : Option (Option (Nat × V)) :=
 match P.underlying T with
 | some d => match dO d k bf 0 with
  | some r => some r
  | none => iC P T k bf 0
 | none => none

def Found (E : Env) (bf : List (Value × Nat × V)) (es : List MapEntry) : Option (Nat × V) → Option (Nat × Value) → Prop
 | none, none => True
 | some (i, v), some (j, x) => i = j ∧ aT E v x ∧ ∃ kb e, bf[i]? = some kb ∧ es[i]? = some e ∧ kb.2.2 = v ∧ e.val = x
 | _, _ => False

theorem cw.get {E : Env} {bf : List (Value × Nat × V)} {es : List MapEntry} (h : cw E bf es) {i : Nat} {kb : Value × Nat × V} (hk : bf[i]? = some kb) : ∃ e, es[i]? = some e ∧ e.key = kb.1 ∧ e.born = kb.2.1 ∧ aT E kb.2.2 e.val := by
 have hi : i < es.length := by rw [← h.1]; exact (List.getElem?_eq_some_iff.1 hk).1
 exact ⟨es[i], List.getElem?_eq_getElem hi, h.2 i kb _ hk (List.getElem?_eq_getElem hi)⟩
theorem cw.drop {E : Env} {bf : List (Value × Nat × V)} {es : List MapEntry} (h : cw E bf es) (n : Nat) : cw E (bf.drop n) (es.drop n) :=
 ⟨by simp [h.1], fun i k e hk he => h.2 (n + i) k e (by simpa using hk) (by simpa using he)⟩
theorem cw.of_nil {E : Env} {es : List MapEntry} (h : cw E [] es) : es = [] := by have := h.1; simp at this; exact List.length_eq_zero_iff.1 this.symm
theorem cw.of_cons {E : Env} {k : Value × Nat × V} {r : List (Value × Nat × V)} {es : List MapEntry} (h : cw E (k :: r) es) : ∃ e es', es = e :: es' ∧ e.key = k.1 ∧ e.born = k.2.1 ∧ aT E k.2.2 e.val ∧ cw E r es' := by
 cases es with
 | nil => have := h.1; simp at this
 | cons e es' =>
  obtain ⟨h1, h2, h3⟩ := h.2 0 k e rfl rfl
  exact ⟨e, es', rfl, h1, h2, h3, by have := h.1; simpa using this, fun i k' e' hk he => h.2 (i + 1) k' e' (by simpa using hk) (by simpa using he)⟩

theorem si {E : Env} {kind : TypeDesc} {k : Value} {bf : List (Value × Nat × V)} {es : List MapEntry} (h : cw E bf es) : ∀ (n : Nat) {r : Option (Nat × V)}, dO kind k (bf.drop n) n = some r →
  ∃ r', Instr.findNow kind k (es.drop n) n = some r' ∧ Found E bf es r r' := by
 intro n
 generalize hl : bf.length - n = m
 induction m generalizing n with
 | zero =>
  intro r hr
  have h1 : bf.drop n = [] := List.drop_eq_nil_of_le (by omega)
  have h2 : es.drop n = [] := List.drop_eq_nil_of_le (by have := h.1; omega)
  rw [h1] at hr; rw [h2]
  simp only [dO,Option.some.injEq] at hr; subst hr
  exact ⟨none, rfl, trivial⟩
 | succ m ih =>
  intro r hr
  have hn : n < bf.length := by omega
  have Mw : n < es.length := by have := h.1; omega
  rw [List.drop_eq_getElem_cons hn] at hr
  rw [List.drop_eq_getElem_cons Mw]
  have hk := List.getElem?_eq_getElem hn
  have he := List.getElem?_eq_getElem Mw
  obtain ⟨h1, h2, h3⟩ := h.2 n _ _ hk he
  simp only [dO] at hr
  simp only [Instr.findNow,h1]
  split at hr
  ·rename_i hs; rw [hs]; simp only [Option.some.injEq] at hr; subst hr
   exact ⟨_, rfl, rfl, h3, _, _, hk, he, rfl, rfl⟩
  ·rename_i hs; rw [hs]; exact ih (n + 1) (by omega) hr
  ·cases hr
theorem ux {E : Env} {kind : TypeDesc} {k : Value} {bf : List (Value × Nat × V)} {es : List MapEntry} (h : cw E bf es) : ∀ (n : Nat), dO kind k (bf.drop n) n = none → Instr.findNow kind k (es.drop n) n = none := by
 intro n
 generalize hl : bf.length - n = m
 induction m generalizing n with
 | zero =>
  intro hr
  have h1 : bf.drop n = [] := List.drop_eq_nil_of_le (by omega)
  rw [h1] at hr
  simp [dO] at hr
 | succ m ih =>
  intro hr
  have hn : n < bf.length := by omega
  have Mw : n < es.length := by have := h.1; omega
  rw [List.drop_eq_getElem_cons hn] at hr
  rw [List.drop_eq_getElem_cons Mw]
  obtain ⟨h1, h2, h3⟩ := h.2 n _ _ (List.getElem?_eq_getElem hn) (List.getElem?_eq_getElem Mw)
  simp only [dO] at hr
  simp only [Instr.findNow,h1]
  split at hr
  ·cases hr
  ·rename_i hs; rw [hs]; exact ih (n + 1) (by omega) hr
  ·rename_i hs; rw [hs]
theorem sj {P : Program} {E : Env} {T : TypeId} {k : Value} {bf : List (Value × Nat × V)} {es : List MapEntry} (h : cw E bf es) (w : World) : ∀ (n : Nat) {r : Option (Nat × V)}, iC P T k (bf.drop n) n = some r →
  ∃ r', (Instr.findAsking T k (es.drop n) n).run P w = .ok r' w ∧ Found E bf es r r' := by
 intro n
 generalize hl : bf.length - n = m
 induction m generalizing n with
 | zero =>
  intro r hr
  have h1 : bf.drop n = [] := List.drop_eq_nil_of_le (by omega)
  have h2 : es.drop n = [] := List.drop_eq_nil_of_le (by have := h.1; omega)
  rw [h1] at hr; rw [h2]
  simp only [iC,Option.some.injEq] at hr; subst hr
  exact ⟨none, rfl, trivial⟩
 | succ m ih =>
  intro r hr
  have hn : n < bf.length := by omega
  have Mw : n < es.length := by have := h.1; omega
  rw [List.drop_eq_getElem_cons hn] at hr
  rw [List.drop_eq_getElem_cons Mw]
  have hk := List.getElem?_eq_getElem hn
  have he := List.getElem?_eq_getElem Mw
  obtain ⟨h1, h2, h3⟩ := h.2 n _ _ hk he
  simp only [iC] at hr
  simp only [Instr.findAsking,h1,Sem.run_bind]
  split at hr
  ·rename_i hs; rw [cz _ hs w]; simp only [Option.some.injEq] at hr; subst hr
   exact ⟨_, rfl, rfl, h3, _, _, hk, he, rfl, rfl⟩
  ·rename_i hs; rw [cz _ hs w]
   simpa using ih (n + 1) (by omega) hr
  ·cases hr
theorem c6 {P : Program} {E : Env} {T : TypeId} {k : Value} {bf : List (Value × Nat × V)} {es : Array MapEntry} (h : cw E bf es.toList) (w : World) {r : Option (Nat × V)} (hr : kT P T k bf = some r) :
  ∃ r', (Instr.findKey T k es.toList).run P w = .ok r' w ∧ Found E bf es.toList r r' := by
 unfold kT at hr
 split at hr
 ·rename_i d hd
  simp only [Instr.findKey,Sem.run_bind,ao hd,Result.andThen_ok]
  split at hr
  ·rename_i r1 h1
   simp only [Option.some.injEq] at hr; subst hr
   obtain ⟨r', h2, h3⟩ := si h 0 (r := r1) (by simpa using h1)
   simp only [List.drop_zero] at h2
   rw [h2]
   exact ⟨r', rfl, h3⟩
  ·rename_i h1
   have h2 := ux h 0 (by simpa using h1)
   simp only [List.drop_zero] at h2
   rw [h2]
   simpa using sj h w 0 (r := r) (by simpa using hr)
 ·cases hr

def mX (P : Program) (T : TypeId) (k : Value) : Bool :=
 match P.underlying T with
 | some (.int _) => true
 | some .string => true
 | some .bool => true
 | _ => match aD P (Instr.checkKey false 10000 T k), aD P (Instr.checkKey true 10000 T k) with
  | some _, some _ => true
  | _, _ => false
theorem ji {P : Program} {T : TypeId} {k : Value} (h : mX P T k = true) (b : Bool) (w : World) : (Instr.checkKey b 10000 T k).run P w = .ok () w := by
 unfold mX at h
 have ND : ∀ d, P.underlying T = some d → (∀ m, d ≠ .interface m) → (∀ n e, d ≠ .array n e) → (∀ fs, d ≠ .struct fs) → (Instr.checkKey b 10000 T k).run P w = .ok () w := by
  intro d hd h1 h2 h3
  show (Instr.checkKey b (9999 + 1) T k).run P w = _
  rw [Instr.checkKey]
  simp only [Sem.run_bind,ao hd,Result.andThen_ok]
  cases d <;> first | (cases k <;> rfl) | exact absurd rfl (h1 _) | exact absurd rfl (h2 _ _) | exact absurd rfl (h3 _)
 split at h
 ·rename_i hd; exact ND _ hd (by simp) (by simp) (by simp)
 ·rename_i hd; exact ND _ hd (by simp) (by simp) (by simp)
 ·rename_i hd; exact ND _ hd (by simp) (by simp) (by simp)
 ·split at h
  ·rename_i h1 h2
   cases b
   ·exact cz _ h1 w
   ·exact cz _ h2 w
  ·cases h

def zeroV (P : Program) (T : TypeId) : Option V :=
 match P.info? T with
 | some i => match i.zero with | some z => some (dj z) | none => none
 | none => none
theorem lx {P : Program} {T : TypeId} {v : V} (h : zeroV P T = some v) (E : Env) (w : World) : ∃ z, (zeroValue T).run P w = .ok z w ∧ aT E v z := by
 unfold zeroV at h
 split at h
 ·rename_i i hi
  split at h
  ·rename_i z hz
   cases h
   exact ⟨z, by simp [zeroValue, cD hi, hz], fE E z⟩
  ·cases h
 ·cases h
def cN (P : Program) (T : TypeId) : Option (TypeId × TypeId) := match P.underlying T with | some (.map k e) => some (k, e) | _ => none
theorem ff {P : Program} {T kt et : TypeId} (h : cN P T = some (kt, et)) : P.underlying T = some (.map kt et) := by
 unfold cN at h
 split at h
 ·rename_i hd; cases h; exact hd
 ·cases h

def QG (ok b : Bool) (v : V) : V := if ok = true then .bt [v, .sc (.bool b)] else v
theorem wi {E : Env} {v : V} {x : Value} (h : aT E v x) (ok b : Bool) : aT E (QG ok b v) (if ok = true then .tuple #[x, .bool b] else x) := by
 unfold QG
 split
 ·refine .bt _ _ _ rfl fun i c y hc hy => ?_
  match i with
  | 0 => simp at hc hy; subst hc; subst hy; exact h
  | 1 => simp at hc hy; subst hc; subst hy; exact .sc _ _
  | i + 2 => simp at hc
 ·exact h
def od (P : Program) (mem : List au) (kt et : TypeId) (m : V) (key : Value) (ok : Bool) : Option V :=
 match m with
 | .mp b => match mem[b]? with
  | some (.map bf _) => match kT P kt key bf with
   | some (some (_, v)) => some (QG ok true v)
   | some none => match zeroV P et with | some z => some (QG ok false z) | none => none
   | none => none
  | _ => none
 | .sc (.map none) => match kT P kt key [] with
  | some none => match zeroV P et with | some z => some (QG ok false z) | none => none
  | _ => none
 | _ => none
def c7 (P : Program) (mem : List au) (T : TypeId) (m i : V) (ok : Bool) : Option V :=
 match cN P T with
 | some (kt, et) => match bp i with
  | some key => if mX P kt key = true then od P mem kt et m key ok else none
  | none => none
 | none => none

theorem nn {E : Env} {b : Nat} {x : Value} (h : aT E (.mp b) x) : ∃ g e c, x = .map (some g) ∧ E.aG b 0 = some (g, e, c) := by
 cases h with | mp _ _ l e c hb => exact ⟨l, e, c, rfl, hb⟩
theorem gw {E : Env} {w : World} {a : Act} {st : St} (hs : aV E w a st) {b : Nat} {bf : List (Value × Nat × V)} {clock : Nat} (hm : st.mem[b]? = some (.map bf clock)) {g e c : Nat} (hb : E.aG b 0 = some (g, e, c)) :
  ∃ es, w.heap[g]? = some (.map es clock) ∧ cw E bf es.toList ∧ (∀ o, E.F ⟨g, o, none⟩ = none) ∧ (e, c) = (0, 0) := by
 obtain ⟨g', es, h1, h2, h3, h4⟩ := hs.mem b _ hm
 rw [hb] at h1; cases h1
 exact ⟨es, h2, h3, h4, rfl⟩
theorem b8 {P : Program} {w : World} {g : Nat} {es : Array MapEntry} {clock : Nat} (h : w.heap[g]? = some (.map es clock)) : (getObj g).run P w = .ok (.map es clock) w := by simp [getObj, Sem.run, h]
theorem dD {P : Program} {w : World} {g : Nat} {o o' : Obj} (h : w.heap[g]? = some o) (hc : ∀ a b c, o ≠ .cells a b c) : (setObj g o').run P w = .ok () { w with heap := w.heap.setIfInBounds g o' } := by
 unfold setObj
 rw [Sem.run, h]
 cases o <;> first | rfl | exact absurd rfl (hc _ _ _)

theorem mg {E : Env} {v y : Value} (h : aT E (.sc v) y) : y = v := by cases h; rfl
theorem uy {P : Program} {E : Env} {w : World} {a : Act} {st : St} (hs : aV E w a st) {T : TypeId} {m i v : V} {ok : Bool} {x y : Value} (hm : aT E m x) (hi : aT E i y) (h : c7 P st.mem T m i ok = some v) :
  ∃ z, (Instr.lookup T x y ok).run P w = .ok z w ∧ aT E v z := by
 unfold c7 at h
 split at h
 ·rename_i kt et hd
  have hd := ff hd
  split at h
  ·rename_i key bX
   cases eI hi bX
   split at h
   ·rename_i bB
    have FW := fun b => ji bB b w
    unfold od at h
    split at h
    ·rename_i b
     obtain ⟨g, e, c, rfl, hb⟩ := nn hm
     split at h
     ·rename_i bf clock hB
      obtain ⟨es, hh, hr, -⟩ := gw hs hB hb
      split at h
      ·rename_i j u hf
       obtain ⟨r', h1, h2⟩ := c6 hr w hf
       match r', h2 with
       | some (j', z), h2 =>
        cases h
        exact ⟨_, by simp [Instr.lookup, ao hd, b8 hh, FW, h1], wi h2.2.1 ok true⟩
      ·rename_i hf
       obtain ⟨r', h1, h2⟩ := c6 hr w hf
       match r', h2 with
       | none, h2 =>
        split at h
        ·rename_i z hz
         cases h
         obtain ⟨z', h3, h4⟩ := lx hz E w
         exact ⟨_, by simp [Instr.lookup, ao hd, b8 hh, FW, h1, h3], wi h4 ok false⟩
        ·cases h
      ·cases h
     ·cases h
    ·obtain rfl := mg hm
     split at h
     ·rename_i hf
      obtain ⟨r', h1, h2⟩ := c6 (E := E) (es := #[]) ⟨rfl, fun i k e h => by simp at h⟩ w hf
      match r', h2 with
      | none, h2 =>
       split at h
       ·rename_i z hz
        cases h
        obtain ⟨z', h3, h4⟩ := lx hz E w
        exact ⟨_, by simp at h1; simp [Instr.lookup, ao hd, FW, h1, h3], wi h4 ok false⟩
       ·cases h
     ·cases h
    ·cases h
   ·cases h
  ·cases h
 ·cases h
def oe (mem : List au) (ts : Array TypeId) (P : Program) : List V → Option V
 | [.mp b] => match mem[b]? with
  | some (.map bf _) => match ts[0]? with
   | some T => match cN P T with | some _ => some (.sc (.int .i64 bf.length)) | none => none
   | none => none
  | _ => none
 | _ => none
theorem AS {P : Program} {E : Env} {w : World} {a : Act} {st : St} (hs : aV E w a st) {ts : Array TypeId} {ty : TypeId} {xs : List V} {v : V} {ys : Array Value} (hx : aO E xs ys.toList) (h : oe st.mem ts P xs = some v) :
  ∃ z, (Builtin.len_ ts ty ys).run P w = .ok z w ∧ aT E v z := by
 unfold oe at h
 split at h
 ·rename_i b
  split at h
  ·rename_i bf clock hB
   split at h
   ·rename_i T h0
    split at h
    ·rename_i p hp
     cases h
     obtain ⟨kt, et⟩ := p
     have hd := ff hp
     obtain ⟨x, r, hy, h1, h2⟩ := hx.of_cons
     have := h2.of_nil; subst this
     obtain rfl : ys = #[x] := by rw [← Array.toArray_toList (xs := ys), hy]
     obtain ⟨g, e, c, rfl, hb⟩ := nn h1
     obtain ⟨es, hh, hr, -⟩ := gw hs hB hb
     refine ⟨.int .i64 es.size, by simp [Builtin.len_, h0, ao hd, b8 hh, goInt], ?_⟩
     have : bf.length = es.size := by simpa using hr.1
     rw [this]; exact .sc _ _
    ·cases h
   ·cases h
  ·cases h
 ·cases h
def Ei (mem : List au) (it : V) : Option V :=
 match it with
 | .ptr b 0 => match mem[b]? with
  | some (.ed m _ seen last) => match mem[m]? with
   | some (.map bf clock) => if clock = last then (match seen.getLast? with
    | some yc => match bf.find? (fun e => e.2.1 == yc) with
     | some e => some (.bt [dj e.1, e.2.2])
     | none => none
    | none => none) else none
   | _ => none
  | _ => none
 | _ => none
theorem cw.find {E : Env} (p : Nat → Bool) : ∀ {bf : List (Value × Nat × V)} {es : List MapEntry} {k : Value × Nat × V}, cw E bf es → bf.find? (fun e => p e.2.1) = some k → ∃ e, es.find? (fun e => p e.born) = some e ∧ e.key = k.1 ∧ aT E k.2.2 e.val
 | [], es, k, h, hf => by simp at hf
 | c :: r, es, k, h, hf => by
  obtain ⟨e, es', rfl, h1, h2, h3, h4⟩ := h.of_cons
  rw [List.find?_cons] at hf ⊢
  rw [h2]
  split at hf
  ·rename_i hp; cases hf; exact ⟨e, rfl, h1, h3⟩
  ·exact cw.find p h4 hf
theorem AT {P : Program} {E : Env} {w : World} {a : Act} {st : St} (hs : aV E w a st) {it v : V} {x : Value} (hi : aT E it x) (h : Ei st.mem it = some v) : ∃ z, (Instr.entry x).run P w = .ok z w ∧ aT E v z := by
 unfold Ei at h
 split at h
 ·rename_i b
  split at h
  ·rename_i m since seen last hB
   split at h
   ·rename_i bf clock hM
    split at h
    ·rename_i kf
     split at h
     ·rename_i yc lq
      split at h
      ·rename_i e he
       cases h
       obtain ⟨g, gm, em, cm, hb, JA, hh, hf⟩ := hs.mem b _ hB
       obtain ⟨es, UQ, hr, Ym, h0⟩ := gw hs hM JA
       cases hi with
       | ptr _ _ _ g' e' c' eO =>
       rw [hb] at eO; cases eO
       have eU : (getObj g).run P w = .ok (.mapIter (some gm) since seen.toArray last) w := by simp [getObj, Sem.run, hh]
       obtain ⟨en, h1, h2, h3⟩ := cw.find (fun n => n == yc) hr he
       have Rk : seen.toArray.back? = some yc := by simpa using lq
       have Gf : es.find? (fun e => e.born == yc) = some en := by
        rw [← List.find?_toArray, Array.toArray_toList] at h1; exact h1
       refine ⟨.tuple #[en.key, en.val], ?_, ?_⟩
       ·subst kf
        simp only [Instr.entry,Sem.run_bind,eU,Result.andThen_ok,Rk,b8 UQ,bne_self_eq_false,Bool.false_eq_true,if_false,Gf]
        rfl
       ·refine .bt _ _ _ rfl fun i c y hc hy => ?_
        match i with
        | 0 => simp at hc hy; subst hc; subst hy; rw [h2]; exact fE E _
        | 1 => simp at hc hy; subst hc; subst hy; exact h3
        | i + 2 => simp at hc
      ·cases h
     ·cases h
    ·cases h
   ·cases h
  ·cases h
 ·cases h
end Go.Eng
end

section
namespace Go.Eng
variable [aE]

theorem bN {E : Env} {v y : Value} (h : aT E (.sc v) y) : y = v := by cases h; rfl

theorem AU {P : Program} {tt : Table} (ht : TT P tt) {E : Env} {w : World} {a : Act} {st : St} (hs : aV E w a st) {T : TypeId} {x v : V} {lo hi : Option Operand} {y : Value} (hx : aT E x y)
  (h : sh P tt st.mem T x (lo.map st.eval) (hi.map st.eval) = some v) : ∃ z, (Instr.sliceAt T y (lo.map a.eval) (hi.map a.eval) none).run P w = .ok z w ∧ aT E v z := by
 unfold sh at h
 split at h
 ·cases lo with
  | none =>
   cases hi with
   | none => exact lu hx h
   | some hi => exact gG (f := fun a h => Instr.sliceAt T a none (some h) none) hx (hs.eval hi) h
  | some lo =>
   cases hi with
   | none => exact gG (f := fun a l => Instr.sliceAt T a (some l) none none) hx (hs.eval lo) h
   | some hi =>
    simp only [Option.map_some] at h ⊢
    split at h
    ·rename_i hv T8
     rw [eI (hs.eval hi) T8]
     exact gG (f := fun a l => Instr.sliceAt T a (some l) (some hv) none) hx (hs.eval lo) h
    ·simp at h
 ·split at h
  ·simp at h
  ·rename_i e he
   split at h
   ·simp at h
   ·rename_i size hz
    cases lo with
    | none =>
     cases hi with
     | none =>
      obtain ⟨aa, len, cap, rfl, h0, h1, h2, h3, hr⟩ := jg hs hx h
      exact ⟨_, jh ht he hz w aa len cap none none 0 none (.inl ⟨rfl, rfl⟩) (.inl ⟨rfl, rfl⟩) h0 h1 h2 h3, hr⟩
     | some hi =>
      simp only [Option.map_some,Option.map_none] at h ⊢
      split at h
      ·rename_i n hn
       obtain ⟨k, hk⟩ := lv (hs.eval hi) hn
       obtain ⟨aa, len, cap, rfl, h0, h1, h2, h3, hr⟩ := jg hs hx h
       exact ⟨_, jh ht he hz w aa len cap none _ 0 (some n) (.inl ⟨rfl, rfl⟩) (.inr ⟨k, n, by rw [hk], rfl⟩) h0 h1 h2 h3, hr⟩
      ·simp at h
    | some lo =>
     simp only [Option.map_some] at h ⊢
     split at h
     ·simp at h
     ·rename_i l hl
      obtain ⟨k, hk⟩ := lv (hs.eval lo) hl
      cases hi with
      | none =>
       simp only [Option.map_none] at h ⊢
       obtain ⟨aa, len, cap, rfl, h0, h1, h2, h3, hr⟩ := jg hs hx h
       exact ⟨_, jh ht he hz w aa len cap _ none l none (.inr ⟨k, by rw [hk]⟩) (.inl ⟨rfl, rfl⟩) h0 h1 h2 h3, hr⟩
      | some hi =>
       simp only [Option.map_some] at h ⊢
       split at h
       ·rename_i n hn
        obtain ⟨k', eQ⟩ := lv (hs.eval hi) hn
        obtain ⟨aa, len, cap, rfl, h0, h1, h2, h3, hr⟩ := jg hs hx h
        exact ⟨_, jh ht he hz w aa len cap _ _ l (some n) (.inr ⟨k, by rw [hk]⟩) (.inr ⟨k', n, by rw [eQ], rfl⟩) h0 h1 h2 h3, hr⟩
       ·simp at h

def js : List V → Option (List Value)
 | [] => some []
 | v :: r => match bp v with
  | some x => match js r with | some l => some (x :: l) | none => none
  | none => none
theorem np {E : Env} : ∀ {vs : List V} {xs l : List Value}, aO E vs xs → js vs = some l → xs = l
 | [], xs, l, h, hl => by simp [js] at hl; subst hl; exact h.of_nil
 | v :: vs, xs, l, h, hl => by
  obtain ⟨x, ys, rfl, h1, h2⟩ := h.of_cons
  simp only [js] at hl
  split at hl
  ·rename_i x' FV
   split at hl
   ·rename_i l' NB
    simp only [Option.some.injEq] at hl; subst hl
    rw [eI h1 FV, np h2 NB]
   ·simp at hl
  ·simp at hl

def cd (P : Program) (f : Array Value → Sem Value) (xs : List V) : Option V :=
 match js xs with
 | some l => match aD P (f l.toArray) with | some v => some (dj v) | none => none
 | none => none

theorem aV.jF {E : Env} {w : World} {a : Act} {st : St} (hs : aV E w a st) (xs : Array Operand) : aO E (xs.toList.map st.eval) (xs.map a.eval).toList := by
 refine ⟨by simp, fun i v x hv hx => ?_⟩
 simp only [List.getElem?_map,Array.toList_map,Option.map_eq_some_iff] at hv hx
 obtain ⟨o, ho, rfl⟩ := hv
 obtain ⟨o', Mx, rfl⟩ := hx
 rw [ho] at Mx; cases Mx
 exact hs.eval o

def rq (P : Program) (tt : Table) (ts : Array TypeId) (ty : TypeId) : List V → Option V
 | [.slice rows] => match ts[0]? with
  | some t => match dA tt t with | some _ => some (.sc (.int .i64 rows.length)) | none => none
  | none => none
 | [.ms _ _ _ l] => match ts[0]? with
  | some t => match dA tt t with | some _ => some (.sc (.int .i64 l)) | none => none
  | none => none
 | xs => cd P (Builtin.len_ ts ty) xs

def Xm (tt : Table) (S : TypeId) (f : Nat) (T : TypeId) (x : V) : Option V :=
 match x with
 | .agg cs => match JT tt S f with
  | some off => dq tt T (cs.drop off)
  | none => none
 | _ => none

def Ej (k : Int) : Bool := match aE.κ k with | some b => b | none => decide (k ≤ aE.n)
theorem wj (k : Int) : Ej k = decide (k ≤ aE.n) := by
 unfold Ej
 split
 ·rename_i b h; exact (aE.ok k b h).symm
 ·rfl
def CS (op : BinOp) (x y : V) : Option V :=
 match y with
 | .gn => match op, x with
  | .leq, .sc (.int .i64 k) => some (.sc (.bool (Ej k)))
  | .gtr, .sc (.int .i64 k) => some (.sc (.bool (!Ej k)))
  | _, _ => none
 | _ => none
theorem yd {P : Program} {E : Env} {w : World} {op : BinOp} {T : TypeId} {x y v : V} {a b : Value} (xo yo : Operand) (hx : aT E x a) (hy : aT E y b) (h : CS op x y = some v) :
  ∃ z, (do eqGuard op T xo yo a b; binOp op T a b : Sem Value).run P w = .ok z w ∧ aT E v z := by
 unfold CS at h
 split at h
 ·cases hy
  split at h
  ·rename_i k
   cases h
   cases hx
   refine ⟨.bool (decide (k ≤ aE.n)), by simp [binOp, Op.intCmp, eqGuard], by rw [wj]; exact .sc _ _⟩
  ·rename_i k
   cases h
   cases hx
   refine ⟨.bool (decide (k > aE.n)), by simp [binOp, Op.intCmp, eqGuard], ?_⟩
   have : (!Ej k) = decide (k > aE.n) := by
    rw [wj]
    by_cases h : k ≤ aE.n
    ·rw [decide_eq_true h, decide_eq_false (by omega)]; rfl
    ·rw [decide_eq_false h, decide_eq_true (by omega)]; rfl
   rw [this]; exact .sc _ _
  ·cases h
 ·cases h
def pw (P : Program) (op : BinOp) (T : TypeId) (y : V) : Option V :=
 match y with
 | .sc (.pointer none) => match P.underlying T with
  | some (.pointer _) => match op with
   | .eql => some (.sc (.bool false))
   | .neq => some (.sc (.bool true))
   | _ => none
  | _ => none
 | _ => none
def wk (P : Program) (op : BinOp) (T : TypeId) (x y : V) : Option V :=
 match x with
 | .cg _ => pw P op T y
 | .ptr _ _ => pw P op T y
 | .cY _ _ _ _ => pw P op T y
 | _ => none
theorem wm {P : Program} {E : Env} {w : World} {op : BinOp} {T : TypeId} {x y v : V} {a b : Value} (xo yo : Operand) (hx : aT E x a) (hy : aT E y b) (h : wk P op T x y = some v) :
  ∃ z, (do eqGuard op T xo yo a b; binOp op T a b : Sem Value).run P w = .ok z w ∧ aT E v z := by
 have key : ∀ ad : Addr, a = .pointer (some ad) → pw P op T y = some v → ∃ z, (do eqGuard op T xo yo a b; binOp op T a b : Sem Value).run P w = .ok z w ∧ aT E v z := by
  rintro ad rfl h
  unfold pw at h
  split at h
  ·split at h
   ·rename_i e hT
    cases hy
    have he : (Op.equal T (.pointer (some ad)) (.pointer none)).run P w = .ok false w := by
     show (Op.equalIn (9999 + 1) T _ _).run P w = _
     unfold Op.equalIn
     simp [ao hT]
    split at h
    ·cases h
     exact ⟨.bool false, by simp [binOp, eqGuard, he], .sc _ _⟩
    ·cases h
     exact ⟨.bool true, by simp [binOp, eqGuard, he], .sc _ _⟩
    ·cases h
   ·cases h
  ·cases h
 unfold wk at h
 split at h
 ·cases hx with
  | cg _ _ ad xf hF hR => exact key ad rfl h
 ·cases hx with
  | ptr _ _ _ g e c hb => exact key _ rfl h
 ·cases hx with
  | cY _ _ _ _ _ g e c hb => exact key _ rfl h
 ·cases h
def eo : List V → Option (List Int)
 | [] => some []
 | .sc (.int .u8 n) :: r => match eo r with | some l => some (n :: l) | none => none
 | _ => none
def jt (P : Program) (s d : TypeId) (rows : List V) : Option V :=
 match P.underlying s with
 | some (.slice e) => match P.underlying e with
  | some (.int .u8) => match P.underlying d with
   | some .string => match eo rows with | some ns => some (.sc (.string (strOfNums ns))) | none => none
   | _ => none
  | _ => none
 | _ => none
def jG (P : Program) (mem : List au) (s d : TypeId) : V → Option V
 | .slice rows => jt P s d rows
 | .ms b v o l => match mem[b]? with
  | some (.rows v' e rs) => if v' = v ∧ e = 1 ∧ o + l ≤ rs.length then jt P s d ((rs.drop o).take l) else none
  | some (.mO v' e rs) => if v' = v ∧ e = 1 ∧ o + l ≤ rs.length then jt P s d ((rs.drop o).take l) else none
  | _ => none
 | x => mW P (convert s d) x
theorem Gg (P : Program) (mem : List au) (s d : TypeId) (x : Value) : jG P mem s d (.sc x) = mW P (convert s d) (.sc x) := rfl
theorem ye {P : Program} {mem : List au} {s d e : TypeId} {rows : List V} {ns : List Int} (hs : P.underlying s = some (.slice e)) (he : P.underlying e = some (.int .u8)) (hd : P.underlying d = some .string) (hb : eo rows = some ns) :
  jG P mem s d (.slice rows) = some (.sc (.string (strOfNums ns))) := by simp only [jG,jt,hs,he,hd,hb]
theorem kU : ∀ {rows : List V} {ns : List Int}, eo rows = some ns → ns.length = rows.length
 | [], ns, h => by simp [eo] at h; subst h; rfl
 | r :: rs, ns, h => by
  unfold eo at h
  split at h
  ·rename_i heq; exact absurd heq (by simp)
  ·rename_i n l heq
   cases heq
   split at h
   ·rename_i l' hl
    cases h
    simp [kU hl]
   ·cases h
  ·cases h
theorem ia : ∀ {rows : List V} {ns : List Int}, eo rows = some ns → ∀ (i : Nat) (r : V), rows[i]? = some r → r = .sc (.int .u8 (ns.getD i 0))
 | [], ns, h, i, r, hr => by simp at hr
 | r0 :: rs, ns, h, i, r, hr => by
  unfold eo at h
  split at h
  ·rename_i heq; exact absurd heq (by simp)
  ·rename_i n l heq
   cases heq
   split at h
   ·rename_i l' hl
    cases h
    cases i with
    | zero => simp at hr; subst hr; rfl
    | succ i => exact ia hl i r (by simpa using hr)
   ·cases h
  ·cases h
theorem kl {P : Program} {w : World} {E : Env} {s d : TypeId} {rows : List V} {v : V} {aa : Option Addr} {cap : Nat} (h : jt P s d rows = some v) (hn : rows ≠ [] → ∃ g o, aa = some ⟨g, o, none⟩ ∧ ∀ (i : Nat) (r : V), rows[i]? = some r → ∃ x, w.cell? ⟨g, o + i, none⟩ = some x ∧ aT E r x) :
  ∃ y, (convert s d (.slice aa rows.length cap)).run P w = .ok y w ∧ aT E v y := by
 unfold jt at h
 split at h
 ·rename_i e hs
  split at h
  ·rename_i he
   split at h
   ·rename_i hd
    split at h
    ·rename_i ns hb
     cases h
     refine ⟨_, ?_, .sc _ _⟩
     have hl := kU hb
     cases rows with
     | nil =>
      have : ns = [] := List.length_eq_zero_iff.1 hl
      subst this
      rw [run_convert_bytes_string w s d e aa _ cap hs he hd]
      cases aa with
      | none => simp [Conv.bytesToString]; rfl
      | some a0 =>
       have := run_bytesToString (P := P) w a0 0 cap [] (by simp [loadCells, loadCellsFrom])
       have e0 : strOfNums [] = ByteArray.empty := rfl
       rw [e0]
       simpa using this
     | cons r0 rr =>
      obtain ⟨g, o, rfl, hc⟩ := hn (by simp)
      refine run_convert_bytes_arg w s e hs he g o _ cap ns hl (fun i hi => ?_) d hd
      obtain ⟨x, hx, hr⟩ := hc i _ (List.getElem?_eq_getElem hi)
      rw [hx, ia hb i _ (List.getElem?_eq_getElem hi)] at *
      rw [bN hr]
    ·cases h
   ·cases h
  ·cases h
 ·cases h
theorem qy {P : Program} {s d : TypeId} {rows : List V} {v : V} (h : jt P s d rows = some v) : ∃ ns, eo rows = some ns := by
 unfold jt at h
 split at h
 ·split at h
  ·split at h
   ·split at h
    ·rename_i ns hb; exact ⟨ns, hb⟩
    ·cases h
   ·cases h
  ·cases h
 ·cases h
theorem Ek {w : World} {ad : Addr} {x : Value} (h : w.cell? ad = some x) : ad.spot = none := by
 unfold World.cell? at h
 split at h
 ·split at h
  ·simp at h
  ·rename_i h1; cases hs : ad.spot with | none => rfl | some s => simp [hs] at h1
 ·simp at h
theorem yf {P : Program} {E : Env} {w : World} {a : Act} {st : St} (hs : aV E w a st) {s d : TypeId} {x v : V} {y : Value} (hx : aT E x y) (h : jG P st.mem s d x = some v) : ∃ z, (convert s d y).run P w = .ok z w ∧ aT E v z := by
 have ms : ∀ (b v' o l e : Nat) (rs : List V), aT E (.ms b v' o l) y → e = 1 → o + l ≤ rs.length → (∀ g e' c, E.aG b v' = some (g, e', c) → e' = e ∧ fF E.pure e rs (fun k => w.cell? ⟨g, k, none⟩)) →
   jt P s d ((rs.drop o).take l) = some v → ∃ z, (convert s d y).run P w = .ok z w ∧ aT E v z := by
  intro b v' o l e rs hr he hl fk hb
  obtain ⟨ns, UR⟩ := qy hb
  have hlen : ((rs.drop o).take l).length = l := by simp; omega
  cases hr with
  | cZ =>
   have h0 : (rs.drop o).take 0 = [] := List.take_zero
   rw [h0] at hb
   exact kl (aa := none) (cap := 0) (w := w) (E := E) hb (fun bD => absurd rfl bD)
  | ms _ _ _ _ _ g e' c aa cap eV JU Gd CR =>
   have eO := hb
   rw [← hlen]
   refine kl hb fun bD => ?_
   have QH : 0 < l := by
    rcases Nat.eq_zero_or_pos l with h0 | h0
    ·subst h0; exact absurd List.take_zero bD
    ·exact h0
   obtain ⟨Yn, NF⟩ := fk g e' c eV
   subst he
   subst Yn
   refine ⟨g, o * 1, JU QH, fun i r hi => ?_⟩
   have T9 : rs[o + i]? = some r := by
    rw [List.getElem?_take] at hi
    split at hi
    ·simpa using hi
    ·simp at hi
   obtain ⟨-, h2⟩ := NF _ r T9
   have AV := ia UR i r hi
   obtain ⟨x, hx, -, Gh⟩ := h2 0 r (by rw [AV]; rfl)
   refine ⟨x, ?_, Gh.mono (Env.mf E)⟩
   have : (o + i) * 1 + 0 = o * 1 + i := by omega
   rw [← this]; exact hx
 unfold jG at h
 split at h
 ·rename_i rows
  obtain ⟨ns, UR⟩ := qy h
  cases hx with
  | slice _ _ aa cap nj ad xf ha hX hz hF kj hR =>
   refine kl h fun bD => ?_
   have key : ∀ (i : Nat) (r : V), rows[i]? = some r → ∃ x, w.cell? (ad.add i) = some x ∧ aT E r x := fun i r hi => by
    have AV := ia UR i r hi
    have hc : r.cells = [r] := by rw [AV]; rfl
    have he : nj = 1 := by rw [← hz i r hi, hc]; rfl
    have h1 := hF i r 0 r hi (by rw [hc]; rfl)
    have h2 := hR i r 0 r hi (by rw [hc]; rfl)
    rw [he, Nat.mul_one, Nat.add_zero] at h1
    exact ⟨_, hs.F _ _ h1, h2.mono (Env.mf E)⟩
   obtain ⟨r0, h0⟩ : ∃ r0, rows[0]? = some r0 := by
    cases rows with
    | nil => exact absurd rfl bD
    | cons r0 rr => exact ⟨r0, rfl⟩
   obtain ⟨x0, Az, -⟩ := key 0 r0 h0
   have Rm : ad.add 0 = ad := by simp [Addr.add]
   have rK := Ek Az
   rw [Rm] at rK
   obtain ⟨g, o, sp⟩ := ad
   obtain rfl : sp = none := rK
   refine ⟨g, o, ha bD, fun i r hi => ?_⟩
   obtain ⟨x, hx, hr⟩ := key i r hi
   exact ⟨x, by rw [← hx]; congr 1; unfold Addr.add; by_cases h0 : i = 0 <;> simp [h0], hr⟩
 ·rename_i b v' o l
  split at h
  ·rename_i v1 e rs hm
   split at h
   ·rename_i hc
    obtain ⟨rfl, rfl, hl⟩ := hc
    refine ms b v1 o l 1 rs hx rfl hl (fun g e' c eV => ?_) h
    rcases hs.mem b _ hm with ⟨JV, hn⟩ | ⟨g', T, xs, c', eO, hh, -, -, fk, -⟩
    ·rw [hn] at eV; cases eV
    ·rw [eO] at eV; cases eV
     refine ⟨rfl, fun i row hi => ?_⟩
     obtain ⟨h1, h2⟩ := fk i row hi
     refine ⟨h1, fun j cc hj => ?_⟩
     obtain ⟨x, hx, h3⟩ := h2 j cc hj
     exact ⟨x, (jf hh _).trans hx, h3⟩
   ·cases h
  ·rename_i v1 e rs hm
   split at h
   ·rename_i hc
    obtain ⟨rfl, rfl, hl⟩ := hc
    refine ms b v1 o l 1 rs hx rfl hl (fun g e' c eV => ?_) h
    rcases hs.mem b _ hm with ⟨JV, hn⟩ | ⟨g', c', eO, -, fk⟩
    ·rw [hn] at eV; cases eV
    ·rw [eO] at eV; cases eV
     refine ⟨rfl, fun i row hi => ?_⟩
     obtain ⟨h1, h2⟩ := fk i row hi
     refine ⟨h1, fun j cc hj => ?_⟩
     obtain ⟨x, hx, h3⟩ := h2 j cc hj
     exact ⟨x, hs.F _ _ hx, h3⟩
   ·cases h
  ·cases h
 ·exact lu hx h
def fq (op : BinOp) (T : TypeId) (x y : Operand) : Value → Value → Sem Value := fun u v => do eqGuard op T x y u v; binOp op T u v
def sk (P : Program) (tt : Table) (T : TypeId) (x i : V) : Option V :=
 match x with
 | .ptr b o => match i with
  | .sc (.int _ n) => match P.underlying T with
   | some (.array len e) => match jd tt e with
    | some size => if 0 ≤ n ∧ n < len then some (.ptr b (o + n.toNat * size)) else none
    | none => none
   | _ => none
  | _ => none
 | _ => none
theorem yg {P : Program} {tt : Table} (ht : TT P tt) {E : Env} {T : TypeId} {p i v : V} {x y : Value} (hp : aT E p x) (hi : aT E i y) (h : sk P tt T p i = some v) (w : World) :
  ∃ z, (Instr.indexAt T x y).run P w = .ok z w ∧ aT E v z := by
 unfold sk jd at h
 split at h
 ·rename_i b o
  split at h
  ·rename_i k n
   split at h
   ·rename_i len e hd
    cases hE : tt e with
    | none => rw [hE] at h; simp at h
    | some ie =>
     rw [hE] at h; simp only at h
     split at h
     ·rename_i h0
      cases h
      cases hi with
      | sc =>
      cases hp with
      | ptr _ _ _ g e' c hb =>
      refine ⟨.pointer (some ⟨g, o + n.toNat * ie.size, none⟩), ?_, .ptr _ _ _ g e' c hb⟩
      simp [Instr.indexAt, asIntOf, ao hd, Instr.sureAddr, ht.sizeOf hE, h0, add_lit]
     ·cases h
   ·cases h
  ·cases h
 ·cases h
def My (rows : List V) : Bool → V
 | true => .full rows
 | false => .slice rows
def CT (tt : Table) (T : TypeId) (x h m : V) : Option V :=
 match x with
 | .slice rows => match ya h with
  | some a => match ya m with
   | some b => match dA tt T with
    | some e => match jd tt e with
     | some _ => if 0 ≤ a ∧ a ≤ b ∧ b ≤ rows.length then some (My (rows.take a.toNat) (decide (a = b))) else none
     | none => none
    | none => none
   | none => none
  | none => none
 | _ => none
theorem yh {P : Program} {tt : Table} (ht : TT P tt) {E : Env} {T : TypeId} {x h m v : V} {y z u : Value} (hx : aT E x y) (hh : aT E h z) (hm : aT E m u) (hc : CT tt T x h m = some v) (w : World) :
  ∃ q, (Instr.sliceAt T y none (some z) (some u)).run P w = .ok q w ∧ aT E v q := by
 unfold CT at hc
 split at hc
 ·rename_i rows
  split at hc
  ·rename_i a ha
   split at hc
   ·rename_i b hb
    obtain ⟨k1, rfl⟩ := lv hh ha
    obtain ⟨k2, rfl⟩ := lv hm hb
    unfold dA jd at hc
    cases hT : tt T with
    | none => rw [hT] at hc; simp at hc
    | some iT =>
     rw [hT] at hc; simp only at hc
     cases he : iT.elem with
     | none => rw [he] at hc; simp at hc
     | some e =>
      rw [he] at hc; simp only at hc
      cases hE : tt e with
      | none => rw [hE] at hc; simp at hc
      | some ie =>
       rw [hE] at hc; simp only at hc
       obtain ⟨d, hd, -, hZ, -⟩ := ht.desc T iT hT
       obtain rfl := hZ e he
       split at hc
       ·rename_i nr
        obtain ⟨h0, h1, h2⟩ := nr
        cases hc
        cases hx with
        | slice _ _ aa cap nj ad xf Yo hX hz hF kj hR =>
        have hlen : (rows.take a.toNat).length = a.toNat := by rw [List.length_take]; omega
        have cH : (Instr.sliceAt T (.slice aa rows.length cap) none (some (.int k1 a)) (some (.int k2 b))).run P w = .ok (.slice aa a.toNat b.toNat) w := by
         simp only [Instr.sliceAt,Instr.slice,Sem.run_bind,ao hd,Result.andThen_ok,Instr.sliceBounds,Instr.sliceBound,asIntOf,Sem.run_pure,ht.sizeOf hE,Option.isSome_some]
         rw [if_pos ⟨by omega, by omega⟩]
         simp only [Sem.run_pure,Result.andThen_ok]
         rw [if_pos ⟨by omega, by omega⟩]
         simp [Addr.add]
        refine ⟨_, cH, ?_⟩
        have hg : ∀ (i : Nat) (row : V), (rows.take a.toNat)[i]? = some row → rows[i]? = some row := fun i row hi => by
         rw [List.getElem?_take] at hi
         split at hi
         ·exact hi
         ·cases hi
        have := aT.slice E (rows.take a.toNat) aa b.toNat nj ad xf (fun bD => Yo fun h => bD (by rw [h, List.take_nil])) (by omega) (fun i row hi => hz _ _ (hg i row hi)) (fun i row j c hi hj => hF _ _ _ _ (hg i row hi) hj) (fun i row j c hi hj => kj _ _ _ _ (hg i row hi) hj) fun i row j c hi hj => hR _ _ _ _ (hg i row hi) hj
        rw [hlen] at this
        by_cases JW : a = b
        ·rw [decide_eq_true JW]
         have Yp : b.toNat = (rows.take a.toNat).length := by rw [hlen, JW]
         have h4 : (Value.slice aa a.toNat b.toNat) = .slice aa (rows.take a.toNat).length (rows.take a.toNat).length := by rw [← Yp, ← JW]
         rw [h4]
         exact .full _ _ _ (by rw [← h4]; exact this)
        ·rw [decide_eq_false JW]
         exact this
       ·cases hc
   ·cases hc
  ·cases hc
 ·cases hc
def og (P : Program) (tt : Table) (S : TypeId) (f : Nat) (x : V) : Option V :=
 match x with
 | .agg cs => match P.underlying S with
  | some (.struct fs) => match fs[f]? with
   | some fd => dq tt fd.type (cs.drop fd.offset)
   | none => none
  | _ => none
 | _ => none
theorem uz {P : Program} {tt : Table} (ht : TT P tt) {E : Env} {S : TypeId} {f : Nat} {x v : V} {y : Value} (hx : aT E x y) (h : og P tt S f x = some v) (w : World) : ∃ z, (Instr.field S y f).run P w = .ok z w ∧ aT E v z := by
 unfold og at h
 split at h
 ·rename_i cs
  split at h
  ·rename_i fs hu
   split at h
   ·rename_i fd hf
    cases hx with
    | agg _ _ xs hl hr =>
     simp only [Instr.field,Sem.run_bind,ao hu,Result.andThen_ok,hf]
     unfold dq at h
     cases hi : tt fd.type with
     | none => rw [hi] at h; simp at h
     | some i =>
      rw [hi] at h; simp only at h
      cases ha : i.agg with
      | false =>
       simp only [ha,Bool.false_eq_true,if_false] at h
       have h0 : cs[fd.offset]? = some v := by simpa [List.head?_eq_getElem?] using h
       have aF : fd.offset < xs.size := by rw [← hl]; exact (List.getElem?_eq_some_iff.1 h0).1
       refine ⟨xs[fd.offset], ?_, hr _ _ _ h0 (Array.getElem?_eq_getElem aF)⟩
       simp [part, asAgg, ht.isAgg hi, ha, Array.getElem?_eq_getElem aF]
      | true =>
       simp only [ha,if_true] at h
       split at h
       ·rename_i hle
        simp only [Option.some.injEq] at h; subst h
        rw [List.length_drop] at hle
        refine ⟨.agg (xs.extract fd.offset (fd.offset + i.size)), ?_, .agg _ _ _ (by simp; omega) fun j c z hc hz => ?_⟩
        ·simp [part, asAgg, ht.isAgg hi, ha, ht.sizeOf hi]
        ·have hj : j < i.size := by
          by_cases hj : j < i.size
          ·exact hj
          ·rw [List.getElem?_take] at hc; simp [hj] at hc
         rw [List.getElem?_take_of_lt hj, List.getElem?_drop] at hc
         refine hr (fd.offset + j) c z hc ?_
         rw [Array.getElem?_extract] at hz
         split at hz
         ·exact hz
         ·cases hz
       ·cases h
   ·cases h
  ·cases h
 ·cases h
def fR (P : Program) (tt : Table) (st : St) (o : Oper) : Option V :=
 match o.op with
 | .move x => some (st.eval x)
 | .assign x => some (st.eval x)
 | .pick c a b => match st.eval c with | .sc (.bool t) => some (if t = true then st.eval a else st.eval b) | _ => none
 | .load T x => kS tt st.mem T (st.eval x)
 | .nilCheck x => NC (st.eval x)
 | .binOp op T x y _ => match CS op (st.eval x) (st.eval y) with
  | some v => some v
  | none => match wk P op T (st.eval x) (st.eval y) with
   | some v => some v
   | none => aQ P (fq op T x y) (st.eval x) (st.eval y)
 | .unOp op _ x => mW P (Op.unary op) (st.eval x)
 | .convert s d x => jG P st.mem s d (st.eval x)
 | .makeFunc fn first cap => some (.fU fn (first.toList.map st.eval) (cap.toList.map st.eval))
 | .slice T x lo hi none => sh P tt st.mem T (st.eval x) (lo.map st.eval) (hi.map st.eval)
 | .fieldAddr S x f => we tt S f (st.eval x)
 | .field S x f => og P tt S f (st.eval x)
 | .slice T x none (some h) (some m) => CT tt T (st.eval x) (st.eval h) (st.eval m)
 | .indexAddr T x i => match iB tt st.mem T (st.eval x) (st.eval i) with
  | some v => some v
  | none => sk P tt T (st.eval x) (st.eval i)
 | .index T x i => aQ P (Instr.index T) (st.eval x) (st.eval i)
 | .extract t i => match st.eval t with | .bt vs => vs[i]? | _ => none
 | .lookup T x i ok => c7 P st.mem T (st.eval x) (st.eval i) ok
 | .entry it => Ei st.mem (st.eval it)
 | .call { callee := .builtin .len, args := xs, argTypes := ts } => match oe st.mem ts P (xs.toList.map st.eval) with
  | some v => some v
  | none => rq P tt ts o.type (xs.toList.map st.eval)
 | .call { callee := .builtin .max, args := xs, argTypes := ts } => cd P (Builtin.max_ ts o.type) (xs.toList.map st.eval)
 | .call { callee := .builtin .min, args := xs, argTypes := ts } => cd P (Builtin.min_ ts o.type) (xs.toList.map st.eval)
 | _ => none

theorem ly {P : Program} {f : Array Value → Sem Value} {E : Env} {w : World} {xs : List V} {v : V} {ys : Array Value} (hx : aO E xs ys.toList) (h : cd P f xs = some v) : ∃ z, (f ys).run P w = .ok z w ∧ aT E v z := by
 unfold cd at h
 split at h
 ·rename_i l hl
  have := np hx hl
  split at h
  ·rename_i z hz
   simp only [Option.some.injEq] at h; subst h
   subst this
   exact ⟨z, cz _ (by simpa using hz) w, fE E z⟩
  ·simp at h
 ·simp at h

theorem wo {P : Program} {tt : Table} (ht : TT P tt) {ts : Array TypeId} {ty t e : TypeId} (h0 : ts[0]? = some t) (he : dA tt t = some e) (w : World) (aa : Option Addr) (len cap : Nat) :
  (Builtin.len_ ts ty #[.slice aa len cap]).run P w = .ok (.int .i64 len) w := by
 unfold dA at he
 cases hT : tt t with
 | none => rw [hT] at he; simp at he
 | some iT =>
  rw [hT] at he; simp only at he
  obtain ⟨d, hd, -, hZ, -⟩ := ht.desc t iT hT
  obtain rfl := hZ e he
  simp [Builtin.len_, h0, ao hd, goInt]

theorem AW {P : Program} {tt : Table} (ht : TT P tt) {E : Env} {w : World} {ts : Array TypeId} {ty : TypeId} {xs : List V} {v : V} {ys : Array Value} (hx : aO E xs ys.toList) (h : rq P tt ts ty xs = some v) :
  ∃ z, (Builtin.len_ ts ty ys).run P w = .ok z w ∧ aT E v z := by
 unfold rq at h
 split at h
 ·split at h
  ·rename_i t h0
   split at h
   ·rename_i e he
    simp only [Option.some.injEq] at h; subst h
    obtain ⟨x, r, hy, h1, h2⟩ := hx.of_cons
    have := h2.of_nil; subst this
    obtain rfl : ys = #[x] := by rw [← Array.toArray_toList (xs := ys), hy]
    cases h1 with
    | slice _ _ aa cap nj ad xf ha hX hz hF kj hR => exact ⟨_, wo ht h0 he w aa _ cap, .sc _ _⟩
   ·simp at h
  ·simp at h
 ·split at h
  ·rename_i t h0
   split at h
   ·rename_i e he
    simp only [Option.some.injEq] at h; subst h
    obtain ⟨x, r, hy, h1, h2⟩ := hx.of_cons
    have := h2.of_nil; subst this
    obtain rfl : ys = #[x] := by rw [← Array.toArray_toList (xs := ys), hy]
    cases h1 with
    | cZ => exact ⟨_, wo ht h0 he w none _ 0, .sc _ _⟩
    | ms _ _ _ _ _ g e' c aa cap hb hl Gd CR => exact ⟨_, wo ht h0 he w aa _ cap, .sc _ _⟩
   ·simp at h
  ·simp at h
 ·exact ly hx h

theorem aW {P : Program} {s : Sem Value} {w : World} {x : Value} (h : s.run P w = .ok x w) : (do pure (Next.value (← s)) : Sem Next).run P w = .ok (.value x) w := by
 simp [h]

theorem mh {P : Program} {tt : Table} (ht : TT P tt) {E : Env} {w : World} {a : Act} {st : St} (hs : aV E w a st) {o : Oper} {v : V} (h : fR P tt st o = some v) :
  ∃ x, (execOp a.eval o).run P w = .ok (.value x) w ∧ aT E v x := by
 obtain ⟨dst, op, type, pos, after, guard⟩ := o
 unfold fR at h
 dsimp only at h
 split at h
 ·simp only [Option.some.injEq] at h; subst h; exact ⟨_, rfl, hs.eval _⟩
 ·simp only [Option.some.injEq] at h; subst h; exact ⟨_, rfl, hs.eval _⟩
 ·rename_i c x y
  split at h
  ·rename_i t hc
   simp only [Option.some.injEq] at h; subst h
   have := hs.eval c
   rw [hc] at this
   refine ⟨if t = true then a.eval x else a.eval y, ?_, ?_⟩
   ·simp [execOp, bN this, asBool]
   ·cases t <;> exact hs.eval _
  ·simp at h
 ·obtain ⟨y, h1, h2⟩ := qx ht hs (hs.eval _) h
  exact ⟨y, aW h1, h2⟩
 ·rename_i x
  have hx := hs.eval x
  generalize hy : a.eval x = y at hx
  have cH : ∀ z, (∀ m f c, z ≠ .func (.method m) f c) → z ≠ .pointer none → z ≠ .nilIface → z ≠ .nilFunc → a.eval x = z → (execOp a.eval { dst, op := .nilCheck x, type, pos, after, guard }).run P w = .ok (.value z) w := by
   intro z h1 h2 h3 h4 he
   simp only [execOp,he]
   rfl
  unfold NC at h
  split at h <;> simp only [Option.some.injEq,reduceCtorEq] at h <;> subst h <;> rename_i hv <;> rw [hv] at hx
  ·cases hx with
   | ptr _ _ _ g e c hb => exact ⟨_, cH _ (by simp) (by simp) (by simp) (by simp) hy, .ptr _ _ _ g e c hb⟩
  ·cases hx with
   | cY _ _ _ _ _ g e c hb => exact ⟨_, cH _ (by simp) (by simp) (by simp) (by simp) hy, .cY _ _ _ _ _ g e c hb⟩
  ·cases hx with
   | cg _ _ ad xf hF hr => exact ⟨_, cH _ (by simp) (by simp) (by simp) (by simp) hy, .cg _ _ _ xf hF hr⟩
  ·cases hx with
   | fU _ f first cap xs ys h1 h2 h3 h4 => exact ⟨_, cH _ (by simp) (by simp) (by simp) (by simp) hy, .fU _ _ _ _ _ _ h1 h2 h3 h4⟩
  ·have := bN hx
   subst this
   exact ⟨_, cH _ (by simp) (by simp) (by simp) (by simp) hy, .sc _ _⟩
 ·rename_i op T x y _
  split at h
  ·rename_i hg
   cases h
   obtain ⟨z, h1, h2⟩ := yd (P := P) (w := w) (T := T) x y (hs.eval x) (hs.eval y) hg
   exact ⟨z, aW h1, h2⟩
  ·split at h
   ·rename_i hg
    cases h
    obtain ⟨z, h1, h2⟩ := wm (P := P) (w := w) (T := T) x y (hs.eval x) (hs.eval y) hg
    exact ⟨z, aW h1, h2⟩
   ·obtain ⟨z, h1, h2⟩ := gG (w := w) (hs.eval x) (hs.eval y) h
    exact ⟨z, aW h1, h2⟩
 ·obtain ⟨z, h1, h2⟩ := lu (w := w) (hs.eval _) h
  exact ⟨z, aW h1, h2⟩
 ·obtain ⟨z, h1, h2⟩ := yf (w := w) hs (hs.eval _) h
  exact ⟨z, aW h1, h2⟩
 ·rename_i fn first cap
  simp only [Option.some.injEq] at h; subst h
  have h1 := hs.jF first
  have h2 := hs.jF cap
  exact ⟨_, aW rfl, .fU _ _ _ _ _ _ (by simp) (by simp) (fun i c x hc hx => h1.2 i c x hc (by simpa using hx)) fun i c x hc hx => h2.2 i c x hc (by simpa using hx)⟩
 ·obtain ⟨z, h1, h2⟩ := AU ht hs (hs.eval _) h
  exact ⟨z, aW h1, h2⟩
 ·obtain ⟨z, h1, h2⟩ := wg ht (hs.eval _) h w
  exact ⟨z, aW h1, h2⟩
 ·obtain ⟨z, h1, h2⟩ := uz ht (hs.eval _) h w
  exact ⟨z, aW h1, h2⟩
 ·obtain ⟨z, h1, h2⟩ := yh ht (hs.eval _) (hs.eval _) (hs.eval _) h w
  exact ⟨z, aW h1, h2⟩
 ·split at h
  ·rename_i hv
   cases h
   obtain ⟨z, h1, h2⟩ := wh ht hs (hs.eval _) (hs.eval _) hv
   exact ⟨z, aW h1, h2⟩
  ·obtain ⟨z, h1, h2⟩ := yg ht (hs.eval _) (hs.eval _) h w
   exact ⟨z, aW h1, h2⟩
 ·obtain ⟨z, h1, h2⟩ := gG (w := w) (hs.eval _) (hs.eval _) h
  exact ⟨z, aW h1, h2⟩
 ·rename_i t i
  split at h
  ·rename_i vs hv
   have := hs.eval t
   rw [hv] at this
   generalize hy : a.eval t = y at this
   cases this with
   | bt _ _ xs hl hr =>
    have hi : i < xs.size := by rw [← hl]; exact (List.getElem?_eq_some_iff.1 h).1
    exact ⟨xs[i], aW (by simp [hy, Instr.extract, Array.getElem?_eq_getElem hi]), hr i v _ h (Array.getElem?_eq_getElem hi)⟩
  ·simp at h
 ·obtain ⟨z, h1, h2⟩ := uy hs (hs.eval _) (hs.eval _) h
  exact ⟨z, aW h1, h2⟩
 ·obtain ⟨z, h1, h2⟩ := AT hs (hs.eval _) h
  exact ⟨z, aW h1, h2⟩
 ·split at h
  ·rename_i hl
   cases h
   obtain ⟨z, h1, h2⟩ := AS hs (hs.jF _) hl
   exact ⟨z, aW h1, h2⟩
  ·obtain ⟨z, h1, h2⟩ := AW ht (w := w) (hs.jF _) h
   exact ⟨z, aW h1, h2⟩
 ·obtain ⟨z, h1, h2⟩ := ly (w := w) (hs.jF _) h
  exact ⟨z, aW h1, h2⟩
 ·obtain ⟨z, h1, h2⟩ := ly (w := w) (hs.jF _) h
  exact ⟨z, aW h1, h2⟩
 ·simp at h
end Go.Eng
end

section
namespace Go.Eng
variable [aE]
open Go.RowKit (Below)

def aX (mem : List au) (key : Nat) (B : au) : List au := if key < mem.length then mem.set key B else mem ++ [B]
def dE (mem : List au) (key : Nat) : Prop := mem[key]? = some .hole ∨ key = mem.length
def Env.with (E : Env) (key ay : Nat) (t : Nat × Nat × Nat) : Env := { F := E.F, aG := fun k v => if k = key ∧ v = ay then some t else E.aG k v, gl := E.gl }

theorem km {mem : List au} {key : Nat} (h : key ≤ mem.length) (B : au) (k : Nat) : (aX mem key B)[k]? = if k = key then some B else mem[k]? := by
 unfold aX
 split
 ·rename_i aF
  rw [List.getElem?_set]
  by_cases hk : key = k
  ·subst hk; simp [aF]
  ·rw [if_neg hk, if_neg (fun e => hk e.symm)]
 ·rename_i dg
  have bX : key = mem.length := by omega
  by_cases hk : k = key
  ·subst hk; rw [if_pos rfl, bX]; simp
  ·rw [if_neg hk, List.getElem?_append]
   split
   ·rfl
   ·rw [List.getElem?_eq_none (by simp; omega), List.getElem?_eq_none (by omega)]
theorem mY {mem : List au} {key : Nat} (h : key ≤ mem.length) (B : au) : mem.length ≤ (aX mem key B).length ∧ key < (aX mem key B).length := by
 unfold aX
 split <;> simp <;> omega
theorem dE.le {mem : List au} {key : Nat} (h : dE mem key) : key ≤ mem.length := by
 rcases h with h | h
 ·exact Nat.le_of_lt (List.getElem?_eq_some_iff.1 h).1
 ·omega
theorem aV.free {E : Env} {w : World} {a : Act} {st : St} (hs : aV E w a st) {key : Nat} (h : dE st.mem key) : ∀ v, E.aG key v = none := by
 rcases h with h | h
 ·exact hs.mem _ _ h
 ·exact hs.top _ (by omega)
theorem Env.gx {E : Env} {key ay : Nat} (h : E.aG key ay = none) (t : Nat × Nat × Nat) : E.le (E.with key ay t) :=
 ⟨fun _ _ h => h, fun b v u hb => by
  show (if b = key ∧ v = ay then some t else E.aG b v) = some u
  rw [if_neg (fun e => by rw [e.1, e.2, h] at hb; cases hb)]; exact hb⟩

theorem iA.mono {E E' : Env} {w w' : World} {k : Nat} {B : au} (h : iA E w k B) (hle : E.le E') (Gi : ∀ v, E.aG k v = none → E'.aG k v = none)
  (oh : ∀ g e c, E.aG k B.ay = some (g, e, c) → w'.heap[g]? = w.heap[g]?) (hF : ∀ g e c o, E.aG k B.ay = some (g, e, c) → E.F ⟨g, o, none⟩ = none → E'.F ⟨g, o, none⟩ = none) : iA E' w' k B := by
 have fk : ∀ {e rs} {f f' : Nat → Option Value}, (∀ o x, f o = some x → f' o = some x) → fF E.pure e rs f → fF E'.pure e rs f' := fun hf hr i row hi => by
  obtain ⟨h1, h2⟩ := hr i row hi
  exact ⟨h1, fun j c hj => let ⟨x, hx, h1, hr⟩ := h2 j c hj; ⟨x, hf _ _ hx, h1, hr.mono (Env.fC hle)⟩⟩
 cases B with
 | hole => exact fun v => Gi v (h v)
 | dead => trivial
 | box cs =>
  obtain ⟨g, T, xs, hb, hh, hr, hf⟩ := h
  exact ⟨g, T, xs, hle.aG _ _ _ hb, (oh _ _ _ hb).trans hh, hr.mono hle, fun o => hF _ _ _ o hb (hf o)⟩
 | rows v e rs =>
  rcases h with ⟨h1, h2⟩ | ⟨g, T, xs, c, hb, hh, kd, hl, hr, hf⟩
  ·exact .inl ⟨h1, Gi _ h2⟩
  ·exact .inr ⟨g, T, xs, c, hle.aG _ _ _ hb, (oh _ _ _ hb).trans hh, kd, hl, fk (fun _ _ h => h) hr, fun o => hF _ _ _ o hb (hf o)⟩
 | loop s jr fr params assign body =>
  obtain ⟨l, fn, tmps, db, hb, hh, hr, hf⟩ := h
  exact ⟨l, fn, tmps, db, hle.aG _ _ _ hb, (oh _ _ _ hb).trans hh, hr.mono hle, fun o => hF _ _ _ o hb (hf o)⟩
 | map bf clock =>
  obtain ⟨g, es, hb, hh, hr, hf⟩ := h
  exact ⟨g, es, hle.aG _ _ _ hb, (oh _ _ _ hb).trans hh, hr.mono hle, fun o => hF _ _ _ o hb (hf o)⟩
 | ed m since seen last =>
  obtain ⟨g, gm, e, c, hb, hm, hh, hf⟩ := h
  exact ⟨g, gm, e, c, hle.aG _ _ _ hb, hle.aG _ _ _ hm, (oh _ _ _ hb).trans hh, fun o => hF _ _ _ o hb (hf o)⟩
 | gZ s pos =>
  obtain ⟨g, hb, hh, hf⟩ := h
  exact ⟨g, hle.aG _ _ _ hb, (oh _ _ _ hb).trans hh, fun o => hF _ _ _ o hb (hf o)⟩
 | iz =>
  obtain ⟨g, hb, hh, hf⟩ := h
  exact ⟨g, hle.aG _ _ _ hb, (oh _ _ _ hb).trans hh, fun o => hF _ _ _ o hb (hf o)⟩
 | mO v e rs =>
  rcases h with ⟨h1, h2⟩ | ⟨g, c, hb, hl, hr⟩
  ·exact .inl ⟨h1, Gi _ h2⟩
  ·exact .inr ⟨g, c, hle.aG _ _ _ hb, hl, fk (fun _ _ h => hle.F _ _ h) hr⟩

theorem aV.new {E : Env} {w : World} {a : Act} {st : St} (hs : aV E w a st) {key : Nat} (hk : dE st.mem key) {obj : Obj} {B : au} {e c : Nat} (FX : B.ay = 0)
  (hB : iA (E.with key 0 (w.heap.size, e, c)) (w.alloc obj) key B) :
  aV (E.with key 0 (w.heap.size, e, c)) (w.alloc obj) a { st with mem := aX st.mem key B } ∧ dk E w (E.with key 0 (w.heap.size, e, c)) (w.alloc obj) := by
 have Mz := hs.free hk
 have hle := Env.gx (Mz 0) (w.heap.size, e, c)
 have hblk : ∀ k v, ¬ (k = key ∧ v = 0) → (E.with key 0 (w.heap.size, e, c)).aG k v = E.aG k v := fun k v bD => if_neg bD
 have bX : (E.with key 0 (w.heap.size, e, c)).aG key 0 = some (w.heap.size, e, c) := if_pos ⟨rfl, rfl⟩
 have FY : ∀ k v, k ≠ key → (E.with key 0 (w.heap.size, e, c)).aG k v = E.aG k v := fun k v bD => hblk k v fun h => bD h.1
 refine ⟨⟨fun ad x hx => ?_, fun k v g e' c' hb => ?_, fun k B' nY => ?_, fun k eQ v => ?_, fun k B' nY v hv => ?_, ?_, hs.fr.mono hle⟩, hle, fun k v g e' c' hb => ?_, fun ad x hx => .inl hx, rfl, rfl, rfl, by simp, fun b hb _ => Go.RowKit.Below.heap_alloc w _ b hb⟩
 ·rw [World.cell?_alloc_lt w _ ad (World.block_lt_of_cell? w ad (hs.F ad x hx))]; exact hs.F ad x hx
 ·by_cases bS : k = key ∧ v = 0
  ·obtain ⟨rfl, rfl⟩ := bS; rw [bX] at hb; cases hb; simp
  ·rw [hblk k v bS] at hb; have := hs.lt _ _ _ _ _ hb; simp; omega
 ·rw [km hk.le] at nY
  split at nY
  ·rename_i bS; subst bS; cases nY; exact hB
  ·rename_i bS
   exact (hs.mem k B' nY).mono hle (fun v h => by rw [FY k v bS]; exact h) (fun g e' c' hb => Go.RowKit.Below.heap_alloc w _ g (hs.lt _ _ _ _ _ hb)) fun _ _ _ o _ h => h
 ·have := mY hk.le B
  dsimp only at eQ
  rw [FY k v (by omega)]; exact hs.top k (by omega) v
 ·dsimp only at nY
  rw [km hk.le] at nY
  split at nY
  ·rename_i bS; subst bS; cases nY; rw [hblk k v (by omega)]; exact Mz v
  ·rename_i bS; rw [FY k v bS]; exact hs.ay k B' nY v hv
 ·intro k k' v v' g e1 c1 e2 c2 h5 h6
  by_cases bS : k = key ∧ v = 0 <;> by_cases wq : k' = key ∧ v' = 0
  ·rw [bS.1, wq.1]
  ·obtain ⟨rfl, rfl⟩ := bS; rw [bX] at h5; cases h5; rw [hblk k' _ wq] at h6; have := hs.lt _ _ _ _ _ h6; omega
  ·obtain ⟨rfl, rfl⟩ := wq; rw [bX] at h6; cases h6; rw [hblk k _ bS] at h5; have := hs.lt _ _ _ _ _ h5; omega
  ·rw [hblk k _ bS] at h5; rw [hblk k' _ wq] at h6
   exact hs.apart _ _ _ _ _ _ _ _ _ h5 h6
 ·by_cases bS : k = key ∧ v = 0
  ·obtain ⟨rfl, rfl⟩ := bS; rw [bX] at hb; cases hb; exact .inr (Nat.le_refl _)
  ·rw [hblk k v bS] at hb; exact .inl ⟨_, _, _, _, hb⟩

theorem aV.Gj {E : Env} {w : World} {a : Act} {st : St} (hs : aV E w a st) {key : Nat} (hk : dE st.mem key) {xs : Array Value} {cs : List V} (hr : aO E cs xs.toList) (T : TypeId) :
  ∃ E', aV E' (w.alloc (.cells xs T (0, 0))) a { st with mem := aX st.mem key (.box cs) } ∧ dk E w E' (w.alloc (.cells xs T (0, 0))) ∧ aT E' (.ptr key 0) (.pointer (some ⟨w.heap.size, 0, none⟩)) := by
 have hle := Env.gx (hs.free hk 0) (w.heap.size, 0, 0)
 have := hs.new (obj := .cells xs T (0, 0)) (B := .box cs) (e := 0) (c := 0) hk rfl ⟨w.heap.size, T, xs, if_pos ⟨rfl, rfl⟩, heap_alloc_new w _, hr.mono hle, fun o => ?_⟩
 ·exact ⟨_, this.1, this.2, .ptr _ _ _ _ 0 0 (if_pos ⟨rfl, rfl⟩)⟩
 ·show E.F _ = none
  cases hx : E.F ⟨w.heap.size, o, none⟩ with
  | none => rfl
  | some x => have := World.block_lt_of_cell? w _ (hs.F _ _ hx); simp at this

theorem aV.oi {E : Env} {w : World} {a : Act} {st : St} (hs : aV E w a st) {key : Nat} (hk : dE st.mem key) {xs : Array Value} {rs : List V} {e c : Nat} (T : TypeId) (kd : xs.size = c * e) (hl : rs.length ≤ c)
  (hr : fF E.pure e rs (fun o => xs[o]?)) :
  ∃ E', aV E' (w.alloc (.cells xs T (0, 0))) a { st with mem := aX st.mem key (.rows 0 e rs) } ∧ dk E w E' (w.alloc (.cells xs T (0, 0))) ∧ aT E' (.ms key 0 0 rs.length) (.slice (some ⟨w.heap.size, 0, none⟩) rs.length c) := by
 have hle := Env.gx (hs.free hk 0) (w.heap.size, e, c)
 have := hs.new (obj := .cells xs T (0, 0)) (B := .rows 0 e rs) (e := e) (c := c) hk rfl (.inr ⟨w.heap.size, T, xs, c, if_pos ⟨rfl, rfl⟩, heap_alloc_new w _, kd, hl, fun i row hi => ?_, fun o => ?_⟩)
 ·exact ⟨_, this.1, this.2, .ms _ _ _ _ _ w.heap.size e c _ _ (if_pos ⟨rfl, rfl⟩) (fun _ => by simp) (fun _ => ⟨rfl, rfl⟩) ⟨hl, Nat.zero_add _, fun _ => by simp⟩⟩
 ·obtain ⟨h1, h2⟩ := hr i row hi
  exact ⟨h1, fun j c' hj => let ⟨x, hx, h1, hr⟩ := h2 j c' hj; ⟨x, hx, h1, hr.mono (Env.fC hle)⟩⟩
 ·show E.F _ = none
  cases hx : E.F ⟨w.heap.size, o, none⟩ with
  | none => rfl
  | some x => have := World.block_lt_of_cell? w _ (hs.F _ _ hx); simp at this

theorem aV.JX {E : Env} {w : World} {a : Act} {st : St} (hs : aV E w a st) {key : Nat} (hk : dE st.mem key) (e : Nat) : aV E w a { st with mem := aX st.mem key (.rows 0 e []) } := by
 have hn := hs.free hk
 refine ⟨hs.F, hs.lt, fun k B hB => ?_, fun k eQ => hs.top k ?_, fun k B hB v hv => ?_, hs.apart, hs.fr⟩
 ·rw [km hk.le] at hB
  split at hB
  ·rename_i bS; subst bS; cases hB; exact .inl ⟨rfl, hn 0⟩
  ·exact hs.mem k B hB
 ·have := mY hk.le (.rows 0 e []); dsimp only at eQ; omega
 ·dsimp only at hB
  rw [km hk.le] at hB
  split at hB
  ·rename_i bS; subst bS; exact hn v
  ·exact hs.ay k B hB v hv
end Go.Eng
end

section
namespace Go.Eng
variable [aE]
open Go.RowKit (Below)

def ee (xs : Array Value) (o : Nat) : List Value → Array Value
 | [] => xs
 | v :: r => ee (xs.setIfInBounds o v) (o + 1) r
def cA (cs : List V) (o : Nat) : List V → List V
 | [] => cs
 | v :: r => cA (cs.set o v) (o + 1) r

theorem fG (vs : List Value) : ∀ (xs : Array Value) (o : Nat), (ee xs o vs).size = xs.size := by
 induction vs with
 | nil => intro xs o; rfl
 | cons v r ih => intro xs o; simp [ee, ih]
theorem sm (vs : List V) : ∀ (cs : List V) (o : Nat), (cA cs o vs).length = cs.length := by
 induction vs with
 | nil => intro cs o; rfl
 | cons v r ih => intro cs o; simp [cA, ih]
theorem qz {E : Env} (vs : List V) : ∀ (ys : List Value) (cs : List V) (xs : Array Value) (o : Nat), aO E vs ys → aO E cs xs.toList → aO E (cA cs o vs) (ee xs o ys).toList := by
 induction vs with
 | nil => intro ys cs xs o h k; have := h.of_nil; subst this; exact k
 | cons v r ih =>
  intro ys cs xs o h k
  obtain ⟨y, ys, rfl, h1, h2⟩ := h.of_cons
  exact ih ys _ _ _ h2 (by simpa using k.set o h1)
theorem ep (vs : List Value) : ∀ (xs : Array Value) (o k : Nat), o + vs.length ≤ xs.size → (ee xs o vs)[k]? = if o ≤ k ∧ k < o + vs.length then vs[k - o]? else xs[k]? := by
 induction vs with
 | nil => intro xs o k _; simp [ee]; intro h1 h2; omega
 | cons v r ih =>
  intro xs o k h
  simp only [List.length_cons] at h
  rw [ee, ih _ _ _ (by simp; omega)]
  by_cases h1 : o + 1 ≤ k ∧ k < o + 1 + r.length
  ·rw [if_pos h1, if_pos ⟨by omega, by simp; omega⟩]
   have : k - o = (k - (o + 1)) + 1 := by omega
   rw [this, List.getElem?_cons_succ]
  ·rw [if_neg h1]
   by_cases h2 : k = o
   ·subst h2
    rw [if_pos ⟨Nat.le_refl _, by simp⟩]
    simp only [Nat.sub_self,List.getElem?_cons_zero]
    rw [Array.getElem?_setIfInBounds_self_of_lt (by omega)]
   ·rw [if_neg (by simp only [List.length_cons]; omega), Array.getElem?_setIfInBounds_ne (fun e => h2 e.symm)]
theorem yi (vs : List V) : ∀ (cs : List V) (o k : Nat), o + vs.length ≤ cs.length → (cA cs o vs)[k]? = if o ≤ k ∧ k < o + vs.length then vs[k - o]? else cs[k]? := by
 induction vs with
 | nil => intro xs o k _; simp [cA]; intro h1 h2; omega
 | cons v r ih =>
  intro xs o k h
  simp only [List.length_cons] at h
  rw [cA, ih _ _ _ (by simp; omega)]
  by_cases h1 : o + 1 ≤ k ∧ k < o + 1 + r.length
  ·rw [if_pos h1, if_pos ⟨by omega, by simp; omega⟩]
   have : k - o = (k - (o + 1)) + 1 := by omega
   rw [this, List.getElem?_cons_succ]
  ·rw [if_neg h1]
   by_cases h2 : k = o
   ·subst h2
    rw [if_pos ⟨Nat.le_refl _, by simp⟩]
    simp only [Nat.sub_self,List.getElem?_cons_zero]
    rw [List.getElem?_set]; simp; omega
   ·rw [if_neg (by simp only [List.length_cons]; omega), List.getElem?_set_ne (fun e => h2 e.symm)]

structure oj (w w' : World) (g : Nat) : Prop where
 os : w'.os = w.os
 tape : w'.tape = w.tape
 output : w'.output = w.output
 size : w'.heap.size = w.heap.size
 heap : ∀ b, b ≠ g → w'.heap[b]? = w.heap[b]?

theorem fg {P : Program} {g : Nat} {T : TypeId} (o : Nat) : ∀ (vs : List Value) (i : Nat) (w : World) (xs : Array Value), w.heap[g]? = some (.cells xs T (0, 0)) → o + i + vs.length ≤ xs.size →
  (∀ v ∈ vs, v.oneCell' = true) → ∃ w', (storeCells ⟨g, o, none⟩ vs i).run P w = .ok () w' ∧ w'.heap[g]? = some (.cells (ee xs (o + i) vs) T (0, 0)) ∧ oj w w' g := by
 intro vs
 induction vs with
 | nil => intro i w xs hh _ _; exact ⟨w, rfl, hh, rfl, rfl, rfl, rfl, fun _ _ => rfl⟩
 | cons v r ih =>
  intro i w xs hh hl h1
  simp only [List.length_cons] at hl
  have hc : w.cell? ⟨g, o + i, none⟩ = some (xs[o + i]'(by omega)) := by rw [jf hh, Array.getElem?_eq_getElem]
  have hf : w.frozen? ⟨g, o + i, none⟩ = false := by simp [World.frozen?, hh]
  have JB : (w.setCell ⟨g, o + i, none⟩ v).heap[g]? = some (.cells (xs.setIfInBounds (o + i) v) T (0, 0)) := by
   simp [World.setCell, Array.getElem?_modify, hh]
  obtain ⟨w', h2, h3, h4⟩ := ih (i + 1) _ _ JB (by simp; omega) (fun v hv => h1 v (List.mem_cons_of_mem _ hv))
  refine ⟨w', ?_, by rw [ee]; exact h3, h4.os, h4.tape, h4.output, by rw [h4.size]; simp, fun b hb => (h4.heap b hb).trans (Go.RowKit.Below.heap_setCell w _ v b hb)⟩
  rw [storeCells]
  simp only [Sem.run_bind,add_lit]
  rw [run_store P w _ v .plain (h1 v (List.mem_cons_self ..))]
  simp [stored, hc, hf, h2]

def wu : V → Bool
 | .sc v => v.oneCell'
 | .undef => false
 | .agg _ => false
 | .bt _ => false
 | _ => true
def fH : V → Option (List V)
 | .agg cs => if cs.all wu then some cs else none
 | v => if wu v then some [v] else none

theorem yj {E : Env} {c : V} {x : Value} (h : aT E c x) (ho : wu c = true) : x.oneCell' = true := by
 cases h <;> first | rfl | exact ho | simp [wu] at ho
theorem kn {E : Env} {v : V} {x : Value} {cs : List V} (h : aT E v x) (hc : fH v = some cs) : aO E cs x.cells.toList ∧ ∀ y ∈ x.cells.toList, y.oneCell' = true := by
 have key : ∀ (cs : List V) (xs : List Value), aO E cs xs → cs.all wu = true → ∀ y ∈ xs, y.oneCell' = true := by
  intro cs
  induction cs with
  | nil => intro xs h _ y hy; rw [h.of_nil] at hy; simp at hy
  | cons c r ih =>
   intro xs h ha y hy
   obtain ⟨x, ys, rfl, h1, h2⟩ := h.of_cons
   simp only [List.all_cons,Bool.and_eq_true] at ha
   rcases List.mem_cons.1 hy with rfl | hy
   ·exact yj h1 ha.1
   ·exact ih ys h2 ha.2 y hy
 unfold fH at hc
 split at hc
 ·split at hc
  ·rename_i mZ bn
   simp only [Option.some.injEq] at hc; subst hc
   have := h.cells (by simp) (by simp)
   exact ⟨this, key _ _ this bn⟩
  ·simp at hc
 ·split at hc
  ·rename_i bD kj
   simp only [Option.some.injEq] at hc; subst hc
   have h1 : x.oneCell' = true := yj h kj
   have hx : x.cells = #[x] := by cases x <;> first | rfl | simp [Value.oneCell'] at h1
   rw [hx]
   exact ⟨.cons h (.nil _), fun y hy => by simp at hy; subst hy; exact h1⟩
  ·simp at hc

theorem aV.wv {E : Env} {w : World} {a : Act} {st : St} (hs : aV E w a st) {g : Nat} (hf : ∀ o, E.F ⟨g, o, none⟩ = none) {ad : Addr} {x : Value} (hx : E.F ad = some x) : ad.block ≠ g := by
 intro he
 have hc := hs.F ad x hx
 have rK : ad.spot = none := by
  unfold World.cell? at hc
  split at hc
  ·split at hc
   ·simp at hc
   ·rename_i h; cases rK : ad.spot with | none => rfl | some s => simp [rK] at h
  ·simp at hc
 have : ad = ⟨g, ad.off, none⟩ := by cases ad; simp_all
 rw [this, hf] at hx
 cases hx

theorem aV.yl {E : Env} {w w' : World} {a : Act} {st : St} (hs : aV E w a st) {b g e c : Nat} {B B' : au} (hm : st.mem[b]? = some B) (hh : B.held = true) (Rn : B'.ay = B.ay) (hb : E.aG b B.ay = some (g, e, c)) (hf : ∀ o, E.F ⟨g, o, none⟩ = none)
  (ho : oj w w' g) (hB : iA E w' b B') : aV E w' a { st with mem := st.mem.set b B' } ∧ dk E w E w' := by
 have aF : b < st.mem.length := (List.getElem?_eq_some_iff.1 hm).1
 refine ⟨⟨fun ad x hx => ?_, fun k v g' e' c' hk => by rw [ho.size]; exact hs.lt _ _ _ _ _ hk, fun k B1 hk => ?_, fun k hk => hs.top k (by simpa using hk), fun k B1 hk v hv => ?_, hs.apart, hs.fr⟩,
  E.le_refl, fun k v g e c h => .inl ⟨k, v, e, c, h⟩, fun _ _ h => .inl h, ho.os, ho.tape, ho.output, by rw [ho.size]; exact Nat.le_refl _, fun b' eO bD => ho.heap b' fun e => by subst e; exact bD _ _ _ _ hb⟩
 ·have bD := hs.wv hf hx
  have : w'.heap[ad.block]? = w.heap[ad.block]? := ho.heap _ bD
  rw [← hs.F ad x hx]; simp [World.cell?, this]
 ·rw [List.getElem?_set] at hk
  by_cases dr : b = k
  ·subst dr; simp only [if_true,aF] at hk; cases hk; exact hB
  ·rw [if_neg dr] at hk
   cases JC : B1.held with
   | false => cases B1 <;> first | exact hs.mem k _ hk | trivial | simp [au.held] at JC
   | true =>
    refine (hs.mem k B1 hk).mono E.le_refl (fun _ h => h) (fun g' e' c' eV => ho.heap _ fun e => ?_) fun _ _ _ _ _ h => h
    subst e
    exact dr (hs.apart _ _ _ _ _ _ _ _ _ hb eV)
 ·dsimp only at hk
  rw [List.getElem?_set] at hk
  by_cases JY : b = k
  ·subst JY; simp only [if_true,aF] at hk; cases hk; exact hs.ay b B hm v (by omega)
  ·rw [if_neg JY] at hk; exact hs.ay k B1 hk v hv

def jH : V → Bool
 | .gn => true
 | .sc _ => true
 | .slice _ => true
 | .cg _ => true
 | .undef => true
 | _ => false
theorem wx {E : Env} {v : V} {x : Value} (h : aT E v x) (hp : jH v = true) : aT E.pure v x := by
 cases h with
 | undef => exact .undef _ _
 | gn => exact .gn _
 | sc => exact .sc _ _
 | slice _ rows a cap nj ad xf ha hX hz hF h1 hR => exact .slice _ _ _ _ nj ad xf ha hX hz hF h1 hR
 | cg _ cs ad xf hF hR => exact .cg _ _ _ xf hF hR
 | _ => simp [jH] at hp

def setRow (row : V) (o : Nat) (new : List V) : V :=
 match row with
 | .agg cs => .agg (cA cs o new)
 | r => match o, new with
  | 0, [c] => c
  | _, _ => r

theorem wy {row : V} {o : Nat} {new : List V} (ho : o + new.length ≤ row.cells.length) (kj : new.all wu = true) (bD : new ≠ []) : (setRow row o new).cells = cA row.cells o new := by
 cases row with
 | agg cs => rfl
 | _ =>
  simp only [V.cells,List.length_cons,List.length_nil] at ho ⊢
  match new, bD with
  | [c], _ =>
   obtain rfl : o = 0 := by simp at ho; omega
   simp only [List.all_cons,List.all_nil,Bool.and_true] at kj
   cases c <;> first | rfl | simp [wu] at kj
  | _ :: _ :: _, _ => simp at ho; omega

def gU (tt : Table) (mem : List au) (T : TypeId) (p v : V) : Option (List au) :=
 match fH v with
 | none => none
 | some new =>
  if jd tt T = some new.length then
   match p with
   | .ptr b o => match mem[b]? with
    | some (.box cs) => if o + new.length ≤ cs.length then some (mem.set b (.box (cA cs o new))) else none
    | _ => none
   | .cY b v i o => match mem[b]? with
    | some (.rows v' e rs) => match rs[i]? with
     | some row => if v' = v ∧ o + new.length ≤ row.cells.length ∧ new ≠ [] ∧ new.all jH = true ∧ new.all wu = true then some (mem.set b (.rows v' e (rs.set i (setRow row o new)))) else none
     | none => none
    | _ => none
   | _ => none
  else none
instance (new : List V) : Decidable (new ≠ []) := match new with | [] => .isFalse (by simp) | _ :: _ => .isTrue (by simp)

theorem aO.pure {E : Env} : ∀ {vs : List V} {xs : List Value}, aO E vs xs → vs.all jH = true → aO E.pure vs xs
 | [], xs, h, _ => by rw [h.of_nil]; exact .nil _
 | v :: vs, xs, h, hp => by
  obtain ⟨x, ys, rfl, h1, h2⟩ := h.of_cons
  simp only [List.all_cons,Bool.and_eq_true] at hp
  exact .cons (wx h1 hp.1) (aO.pure h2 hp.2)

theorem om {P : Program} {tt : Table} (ht : TT P tt) {E : Env} {w : World} {a : Act} {st : St} (hs : aV E w a st) {T : TypeId} {p v : V} {x y : Value} {aA : List au} (hp : aT E p x) (hv : aT E v y)
  (h : gU tt st.mem T p v = some aA) : ∃ w', (Instr.storeAt T x y).run P w = .ok () w' ∧ aV E w' a { st with mem := aA } ∧ dk E w E w' := by
 unfold gU at h
 split at h
 ·simp at h
 ·rename_i new iD
  obtain ⟨hr, kj⟩ := kn hv iD
  split at h
  ·rename_i kd
   have hlen : y.cells.size = new.length := by have := hr.1; simp at this; exact this.symm
   have cH : ∀ {g o : Nat} {xs : Array Value} {T' : TypeId}, w.heap[g]? = some (.cells xs T' (0, 0)) → o + new.length ≤ xs.size →
     ∃ w', (Instr.storeAt T (.pointer (some ⟨g, o, none⟩)) y).run P w = .ok () w' ∧ w'.heap[g]? = some (.cells (ee xs o y.cells.toList) T' (0, 0)) ∧ oj w w' g := fun {g o xs T'} hh hle => by
    obtain ⟨w', h1, h2, h3⟩ := fg (P := P) o y.cells.toList 0 w xs hh (by have := hr.1; simp at this ⊢; omega) kj
    refine ⟨w', ?_, by simpa using h2, h3⟩
    unfold jd at kd
    split at kd
    ·rename_i i hi
     simp only [Option.some.injEq] at kd
     simp only [Instr.storeAt,Instr.sureAddr,Sem.run_bind,Sem.run_pure,Result.andThen_ok,storeVar,ht.sizeOf hi,hlen,kd,ne_eq,not_true_eq_false,if_false]
     exact h1
    ·simp at kd
   split at h
   ·rename_i b o
    split at h
    ·rename_i cs hm
     split at h
     ·rename_i hle
      simp only [Option.some.injEq] at h; subst h
      cases hp with
      | ptr _ _ _ g e c hb =>
       obtain ⟨g', T', xs, eO, hh, uk, hf⟩ := hs.mem b _ hm
       rw [hb] at eO; cases eO
       obtain ⟨w', h1, h2, h3⟩ := cH (o := o) hh (by have := uk.1; simp at this; omega)
       exact ⟨w', h1, hs.yl hm rfl rfl hb hf h3 ⟨g, T', _, hb, h2, qz _ _ _ _ _ hr uk, hf⟩⟩
     ·simp at h
    ·simp at h
   ·rename_i b vv i o
    split at h
    ·rename_i v' e rs hm
     split at h
     ·rename_i row bW
      split at h
      ·rename_i oo
       obtain ⟨rfl, hle, bD, u7, Ro⟩ := oo
       simp only [Option.some.injEq] at h; subst h
       cases hp with
       | cY _ _ _ _ _ g e' c hb =>
        rcases hs.mem b _ hm with ⟨rfl, -⟩ | ⟨g', T', xs, c', eO, hh, na, kf, uk, hf⟩
        ·simp at bW
        rw [hb] at eO; cases eO
        obtain ⟨pC, Yq⟩ := uk i row bW
        have hi : i < rs.length := (List.getElem?_eq_some_iff.1 bW).1
        have hmul : i * e + e ≤ xs.size := by
         rw [na, ← Nat.succ_mul]; exact Nat.mul_le_mul_right e (by omega)
        obtain ⟨w', h1, h2, h3⟩ := cH (o := i * e + o) hh (by omega)
        refine ⟨w', h1, hs.yl hm rfl rfl hb hf h3 (.inr ⟨g, T', _, c, hb, h2, by rw [fG]; exact na, by simpa using kf, ?_, hf⟩)⟩
        have NG : y.cells.toList.length = new.length := hr.1.symm
        intro i' US ym
        rw [List.getElem?_set] at ym
        by_cases UT : i = i'
        ·subst UT
         simp only [if_true,hi] at ym
         cases ym
         have hc := wy hle Ro bD
         refine ⟨by rw [hc, sm]; exact pC, fun j cc hj => ?_⟩
         rw [hc, yi _ _ _ _ hle] at hj
         dsimp only
         rw [ep _ _ _ _ (by rw [NG]; omega), NG]
         by_cases hY : o ≤ j ∧ j < o + new.length
         ·rw [if_pos hY] at hj
          rw [if_pos ⟨by omega, by omega⟩]
          obtain ⟨z, hz, UU⟩ := (hr.pure u7).get hj
          exact ⟨z, by rw [← hz]; congr 1; omega, kj z (List.mem_of_getElem? hz), UU⟩
         ·rw [if_neg hY] at hj
          rw [if_neg (by omega)]
          exact Yq j cc hj
        ·rw [if_neg UT] at ym
         obtain ⟨h5, h6⟩ := uk i' US ym
         refine ⟨h5, fun j cc hj => ?_⟩
         obtain ⟨z, hz, Gk, UU⟩ := h6 j cc hj
         have qw : j < e := by rw [← h5]; exact (List.getElem?_eq_some_iff.1 hj).1
         refine ⟨z, ?_, Gk, UU⟩
         dsimp only
         rw [ep _ _ _ _ (by rw [NG]; omega), NG, if_neg ?_]
         ·exact hz
         ·intro hY
          rcases Nat.lt_or_gt_of_ne UT with aF | Yr
          ·have : (i + 1) * e ≤ i' * e := Nat.mul_le_mul_right e aF
           rw [Nat.succ_mul] at this
           omega
          ·have : (i' + 1) * e ≤ i * e := Nat.mul_le_mul_right e Yr
           rw [Nat.succ_mul] at this
           omega
      ·simp at h
     ·simp at h
    ·simp at h
   ·simp at h
  ·simp at h
end Go.Eng
end

section
namespace Go.Eng
variable [aE]
open Go.RowKit (Below)

def qA (E : Env) (e : Nat) (rs : List V) (ys : Array Value) : Prop := ys.size = rs.length * e ∧ fF E e rs (fun o => ys[o]?)

theorem sn {i n j e : Nat} (hi : i < n) (hj : j < e) : i * e + j < n * e := by
 have : (i + 1) * e ≤ n * e := Nat.mul_le_mul_right e hi
 rw [Nat.succ_mul] at this; omega

theorem u9 {P : Program} {E : Env} {w : World} {ad : Addr} {rows : List V} {size : Nat} (hz : ∀ (i : Nat) (row : V), rows[i]? = some row → row.cells.length = size)
  (h : ∀ (i : Nat) (row : V) (j : Nat) (c : V), rows[i]? = some row → row.cells[j]? = some c → ∃ x, w.cell? (ad.add (i * size + j)) = some x ∧ x.oneCell' = true ∧ aT E c x) :
  ∃ ys : Array Value, (loadCells ad (rows.length * size)).run P w = .ok ys w ∧ qA E size rows ys := by
 let f : Nat → Value := fun k => (w.cell? (ad.add k)).getD default
 have hf : ∀ k, k < rows.length * size → w.cell? (ad.add k) = some (f k) := fun k hk => by
  have hs : 0 < size := Nat.pos_of_ne_zero fun e => by subst e; simp at hk
  have hi : k / size < rows.length := by rwa [Nat.div_lt_iff_lt_mul hs]
  have hj : k % size < size := Nat.mod_lt _ hs
  have bW := List.getElem?_eq_getElem hi
  have kf := hz _ _ bW
  obtain ⟨x, hx, -⟩ := h _ _ (k % size) _ bW (List.getElem?_eq_getElem (by rw [kf]; exact hj))
  rw [Nat.mul_comm, Nat.div_add_mod] at hx
  simp [f, hx]
 refine ⟨((List.range (rows.length * size)).map f).toArray, run_loadCells w ad _ f hf, by simp, fun i row hi => ⟨hz i row hi, fun j c hj => ?_⟩⟩
 obtain ⟨x, hx, h1, hr⟩ := h i row j c hi hj
 have wz : i < rows.length := (List.getElem?_eq_some_iff.1 hi).1
 have qw : j < size := by rw [← hz i row hi]; exact (List.getElem?_eq_some_iff.1 hj).1
 refine ⟨x, ?_, h1, hr⟩
 have := sn wz qw
 simp [this, f, hx]

def rowsOf (mem : List au) (size : Nat) : V → Option (List V)
 | .slice rows => if bM rows 0 size = true then some rows else none
 | .ms b v s l => match mem[b]? with
  | some (.rows v' e rs) => if v' = v ∧ e = size ∧ s + l ≤ rs.length then some ((rs.drop s).take l) else none
  | some (.mO v' e rs) => if v' = v ∧ e = size ∧ s + l ≤ rs.length then some ((rs.drop s).take l) else none
  | _ => none
 | .sc (.slice none 0 0) => some []
 | _ => none

theorem rL {rs : List V} {s l i : Nat} {row : V} (h : ((rs.drop s).take l)[i]? = some row) : rs[s + i]? = some row := by
 rw [List.getElem?_take] at h
 split at h
 ·simpa using h
 ·simp at h

theorem dF {P : Program} {E : Env} {w : World} {a : Act} {st : St} (hs : aV E w a st) {size : Nat} {v : V} {x : Value} {rows : List V} (hr : aT E v x) (h : rowsOf st.mem size v = some rows) :
  ∃ aa cap, x = .slice aa rows.length cap ∧ rows.length ≤ cap ∧ ∃ ys : Array Value, (Builtin.firstCells size rows.length x).run P w = .ok ys w ∧ qA E.pure size rows ys := by
 have wA : ∀ n, n = 0 → ∃ ys : Array Value, (Builtin.firstCells size n (.slice none n 0)).run P w = .ok ys w ∧ qA E.pure size [] ys := fun n hn => by
  subst hn
  exact ⟨#[], rfl, by simp, fun i row hi => by simp at hi⟩
 unfold rowsOf at h
 split at h
 ·rename_i iE
  split at h
  ·rename_i pD
   simp only [Option.some.injEq] at h; subst h
   cases hr with
   | slice _ _ aa cap nj ad xf ha hX hz hF kj hR =>
    refine ⟨aa, cap, rfl, hX, ?_⟩
    cases fk : iE with
    | nil =>
     subst fk
     cases aa with
     | none => exact wA 0 rfl
     | some a0 => exact ⟨#[], by simp [Builtin.firstCells, loadCells, loadCellsFrom], by simp, fun i row hi => by simp at hi⟩
    | cons r0 rr =>
     have bD : iE ≠ [] := by simp [fk]
     have he : nj = size := by
      unfold bM at pD
      have h0 : iE[0]? = some r0 := by simp [fk]
      rw [h0] at pD
      simp only [beq_iff_eq] at pD
      rw [← pD, hz 0 _ h0]
     subst he
     obtain rfl := ha bD
     rw [← fk]
     exact u9 (P := P) hz fun i row j c hi hj => ⟨_, hs.F _ _ (hF i row j c hi hj), kj i row j c hi hj, hR i row j c hi hj⟩
  ·simp at h
 ·rename_i b v s l
  have AA : ∀ (rs : List V), s + l ≤ rs.length → rows = (rs.drop s).take l → (∀ g e c, E.aG b v = some (g, e, c) → e = size ∧ fF E.pure size rs (fun o => w.cell? ⟨g, o, none⟩)) →
    ∃ aa cap, x = .slice aa rows.length cap ∧ rows.length ≤ cap ∧ ∃ ys : Array Value, (Builtin.firstCells size rows.length x).run P w = .ok ys w ∧ qA E.pure size rows ys := by
   intro rs hl fk hb
   have hlen : rows.length = l := by rw [fk]; simp; omega
   cases hr with
   | cZ =>
    have : rows = [] := List.length_eq_zero_iff.1 hlen
    subst this
    exact ⟨none, 0, rfl, Nat.le_refl _, wA 0 rfl⟩
   | ms _ _ _ _ _ g e c aa cap eV JU Gd CR =>
    obtain ⟨rfl, Rp⟩ := hb g e c eV
    rw [← hlen]
    refine ⟨aa, cap, rfl, by omega, ?_⟩
    by_cases QH : 0 < l
    ·obtain rfl := JU QH
     refine u9 (P := P) (fun i row hi => ?_) fun i row j c hi hj => ?_
     ·rw [fk] at hi; exact (Rp _ _ (rL hi)).1
     ·rw [fk] at hi
      obtain ⟨x, hx, h1, h2⟩ := (Rp _ _ (rL hi)).2 j c hj
      exact ⟨x, by rw [add_lit, ← hx]; congr 2; rw [Nat.add_mul]; omega, h1, h2⟩
    ·have : rows = [] := List.length_eq_zero_iff.1 (by omega)
     subst this
     cases aa with
     | none => exact ⟨#[], rfl, by simp, fun i row hi => by simp at hi⟩
     | some a0 => exact ⟨#[], by simp [Builtin.firstCells, loadCells, loadCellsFrom], by simp, fun i row hi => by simp at hi⟩
  split at h
  ·rename_i v' e rs hm
   split at h
   ·rename_i hc
    obtain ⟨rfl, hc⟩ := hc
    simp only [Option.some.injEq] at h
    refine AA rs hc.2 h.symm fun g e' c hb => ?_
    rcases hs.mem b _ hm with ⟨-, hn⟩ | ⟨g', T', xs, c', eO, hh, -, -, uk, -⟩
    ·rw [hb] at hn; cases hn
    ·rw [hb] at eO; cases eO
     refine ⟨hc.1, ?_⟩
     rw [hc.1] at uk
     intro i row hi
     obtain ⟨h1, h2⟩ := uk i row hi
     exact ⟨h1, fun j c hj => by dsimp only; rw [jf hh]; exact h2 j c hj⟩
   ·simp at h
  ·rename_i v' e rs hm
   split at h
   ·rename_i hc
    obtain ⟨rfl, hc⟩ := hc
    simp only [Option.some.injEq] at h
    refine AA rs hc.2 h.symm fun g e' c hb => ?_
    rcases hs.mem b _ hm with ⟨-, hn⟩ | ⟨g', c', eO, -, uk⟩
    ·rw [hb] at hn; cases hn
    rw [hb] at eO; cases eO
    refine ⟨hc.1, ?_⟩
    rw [hc.1] at uk
    intro i row hi
    obtain ⟨h1, h2⟩ := uk i row hi
    exact ⟨h1, fun j c hj => let ⟨x, hx, h⟩ := h2 j c hj; ⟨x, hs.F _ _ hx, h⟩⟩
   ·simp at h
  ·simp at h
 ·simp only [Option.some.injEq] at h; subst h
  obtain rfl := bN hr
  exact ⟨none, 0, rfl, Nat.le_refl _, wA 0 rfl⟩
 ·simp at h

def jb : V → V
 | .sc (.slice none 0 0) => .slice []
 | v => v
theorem oq {E : Env} {v : V} {x : Value} (h : aT E v x) : aT E (jb v) x := by
 unfold jb
 split
 ·obtain rfl := bN h
  exact .slice _ [] none 0 0 default (fun _ _ => default) (by simp) (by simp) (by simp) (by simp) (by simp) (by simp)
 ·exact h
def JZ : V → V
 | .agg cs => .agg (cs.map jb)
 | v => jb v
theorem AX {v : V} {cs : List V} (h : fH v = some cs) : (JZ v).cells = cs.map jb := by
 unfold fH at h
 split at h
 ·split at h
  ·simp only [Option.some.injEq] at h; subst h; rfl
  ·simp at h
 ·rename_i bD
  split at h
  ·simp only [Option.some.injEq] at h; subst h
   cases v <;> first | exact absurd rfl (bD _) | rfl | skip
   rename_i v
   simp only [JZ,jb,List.map_cons,List.map_nil]
   split <;> rfl
  ·simp at h
theorem aO.jb {E : Env} : ∀ {vs : List V} {xs : List Value}, aO E vs xs → aO E (vs.map jb) xs
 | [], xs, h => h
 | v :: vs, xs, h => by
  obtain ⟨x, ys, rfl, h1, h2⟩ := h.of_cons
  exact .cons (oq h1) (aO.jb h2)

def mi (size : Nat) : List V → Option (List V)
 | [] => some []
 | v :: r => match fH v with
  | some cs => if cs.length = size ∧ cs.all jH = true then (match mi size r with | some rs => some (JZ v :: rs) | none => none) else none
  | none => none

def lz : Nat → List (Nat × Operand) → Bool
 | _, [] => true
 | k, (i, _) :: r => i == k && lz (k + 1) r

theorem qB (off : Nat) : ∀ (l : List Value) (n : Nat) (cs : Array Value), (l.zipIdx n).foldl (fun cs (x : Value × Nat) => cs.setIfInBounds (off + x.2) x.1) cs = ee cs (off + n) l := by
 intro l
 induction l with
 | nil => intro n cs; rfl
 | cons v r ih => intro n cs; rw [List.zipIdx_cons, List.foldl_cons, ih, ee, Nat.add_assoc]

theorem Gm {E : Env} {size : Nat} : ∀ (parts : List (Nat × Operand)) (k : Nat) (ev : Operand → V) (av : Operand → Value) (Z : Array Value) (rs : List V), (∀ p ∈ parts, aT E (ev p.2) (av p.2)) → lz k parts = true →
  mi size (parts.map fun p => ev p.2) = some rs → (k + parts.length) * size ≤ Z.size →
  ∃ Z', Instr.fill (fun i => some (i * size, size)) Z (parts.map fun p => (p.1, av p.2)) = some Z' ∧ Z'.size = Z.size ∧ rs.length = parts.length ∧ (∀ o, o < k * size → Z'[o]? = Z[o]?) ∧
   fF E.pure size rs (fun o => Z'[k * size + o]?) := by
 intro parts
 induction parts with
 | nil =>
  intro k ev av Z rs _ _ hl _
  simp only [List.map_nil,mi,Option.some.injEq] at hl; subst hl
  exact ⟨Z, rfl, rfl, rfl, fun _ _ => rfl, fun i row hi => by simp at hi⟩
 | cons p r ih =>
  intro k ev av Z rs ot ru hl kd
  obtain ⟨i, o⟩ := p
  simp only [lz,Bool.and_eq_true,beq_iff_eq] at ru
  obtain ⟨rfl, ru⟩ := ru
  simp only [List.map_cons,mi] at hl
  split at hl
  ·rename_i cs uj
   split at hl
   ·rename_i hc
    split at hl
    ·rename_i rs' NH
     simp only [Option.some.injEq] at hl; subst hl
     obtain ⟨hr, kj⟩ := kn (ot (i, o) (List.mem_cons_self ..)) uj
     have va : (av o).cells.size = size := by have := hr.1; simp at this; omega
     simp only [List.length_cons] at kd
     have hmul : i * size + size ≤ Z.size := by
      have : (i + 1) * size ≤ (i + (r.length + 1)) * size := Nat.mul_le_mul_right _ (by omega)
      rw [Nat.succ_mul] at this; omega
     obtain ⟨Z', h1, h2, h3, h4, h5⟩ := ih (i + 1) ev av (ee Z (i * size) (av o).cells.toList) rs' (fun p hp => ot p (List.mem_cons_of_mem _ hp)) ru NH (by rw [fG]; rw [show i + 1 + r.length = i + (r.length + 1) from by omega]; exact kd)
     have hlen : (av o).cells.toList.length = size := by simpa using va
     have rK : ∀ q, (ee Z (i * size) (av o).cells.toList)[q]? = if i * size ≤ q ∧ q < i * size + size then (av o).cells.toList[q - i * size]? else Z[q]? := fun q => by
      rw [ep _ _ _ _ (by rw [hlen]; exact hmul), hlen]
     refine ⟨Z', ?_, by rw [h2, fG], by simp [h3], fun q hq => ?_, fun q row hq => ?_⟩
     ·simp only [List.map_cons,Instr.fill,va]
      rw [if_neg (by simp; omega)]
      rw [← h1]
      congr 1
      rw [← Array.foldl_toList, Array.toList_zipIdx]
      exact qB (i * size) (av o).cells.toList 0 Z
     ·rw [h4 q (by rw [Nat.succ_mul]; omega), rK, if_neg (by omega)]
     ·cases q with
      | zero =>
       simp only [List.getElem?_cons_zero,Option.some.injEq] at hq; subst hq
       rw [AX uj]
       refine ⟨by simpa using hc.1, fun j c hj => ?_⟩
       have qw : j < size := by rw [← hc.1]; simpa using (List.getElem?_eq_some_iff.1 hj).1
       obtain ⟨x, hx, Gh⟩ := (hr.pure hc.2).jb.get hj
       refine ⟨x, ?_, kj x (List.mem_of_getElem? hx), Gh⟩
       dsimp only
       rw [Nat.zero_mul, Nat.zero_add, h4 _ (by rw [Nat.succ_mul]; omega), rK, if_pos ⟨by omega, by omega⟩, ← hx]
       congr 1; omega
      | succ q =>
       simp only [List.getElem?_cons_succ] at hq
       obtain ⟨h6, h7⟩ := h5 q row hq
       refine ⟨h6, fun j c hj => ?_⟩
       obtain ⟨x, hx, uA, Gh⟩ := h7 j c hj
       refine ⟨x, ?_, uA, Gh⟩
       dsimp only at hx ⊢
       rw [← hx]
       congr 1
       rw [Nat.succ_mul, Nat.succ_mul]; omega
    ·simp at hl
   ·simp at hl
  ·simp at hl

def pE (tt : Table) (T : TypeId) (len : Nat) (parts : List (Nat × Operand)) (ev : Operand → V) : Option (Nat × List V) :=
 match dA tt T with
 | some e => match jd tt e with
  | some size => if lz 0 parts = true ∧ parts.length = len ∧ len * size ≤ 65536 then (match mi size (parts.map fun p => ev p.2) with | some rs => some (size, rs) | none => none) else none
  | none => none
 | none => none

theorem wB {P : Program} {tt : Table} (ht : TT P tt) {E : Env} {w : World} {a : Act} {ev : Operand → V} {T : TypeId} {len size : Nat} {parts : Array (Nat × Operand)} {rs : List V} (dm : ∀ p ∈ parts.toList, aT E (ev p.2) (a.eval p.2))
  (h : pE tt T len parts.toList ev = some (size, rs)) :
  ∃ (Z : Array Value) (e : TypeId), (Instr.buildSlice T len (parts.map fun (i, x) => (i, a.eval x))).run P w = .ok (.slice (some ⟨w.heap.size, 0, none⟩) len len) (w.alloc (.cells Z e (0, 0))) ∧ Z.size = len * size ∧ rs.length = len ∧ fF E.pure size rs (fun o => Z[o]?) := by
 unfold pE dA jd at h
 cases hT : tt T with
 | none => rw [hT] at h; simp at h
 | some iT =>
  rw [hT] at h; simp only at h
  cases he : iT.elem with
  | none => rw [he] at h; simp at h
  | some e =>
   rw [he] at h; simp only at h
   cases hE : tt e with
   | none => rw [hE] at h; simp at h
   | some ie =>
    rw [hE] at h; simp only at h
    split at h
    ·rename_i hc
     obtain ⟨ru, hlen, J0⟩ := hc
     split at h
     ·rename_i rs' Gn
      simp only [Option.some.injEq,Prod.mk.injEq] at h
      obtain ⟨rfl, rfl⟩ := h
      obtain ⟨d, hd, -, hZ, -⟩ := ht.desc T iT hT
      obtain rfl := hZ e he
      obtain ⟨info, qC, MA, -, z, hz, El⟩ := ht.size e ie hE
      have hzero : ∀ w' : World, (zeroValue e).run P w' = .ok z w' := fun w' => by simp [zeroValue, cD qC, hz]
      obtain ⟨zc, Ua⟩ : ∃ zc : Array Value, zc = if len * ie.size = 0 then #[] else z.cells := ⟨_, rfl⟩
      obtain ⟨Z', h1, h2, h3, -, h5⟩ := Gm (size := ie.size) parts.toList 0 ev a.eval ((Array.range (len * ie.size)).map (zc[· % zc.size]!)) rs' dm ru Gn (by simp [hlen])
      refine ⟨Z', e, ?_, by simpa using h2, by omega, by simpa using h5⟩
      have nt : (parts.map fun (i, x) => (i, a.eval x)).toList = parts.toList.map fun p => (p.1, a.eval p.2) := by simp
      unfold Instr.buildSlice
      simp only [Sem.run_bind,ao hd,Result.andThen_ok,ht.sizeOf hE]
      rw [if_neg (by omega)]
      by_cases h0 : len * ie.size = 0
      ·simp only [h0,if_true,Sem.run_pure,Result.andThen_ok,nt]
       rw [if_pos h0] at Ua
       subst Ua
       rw [h0] at h1
       simp only [Sem.run_bind,Sem.run_pure,Result.andThen_ok,nt]
       simp only [h1]
       simp [newRow]
      ·simp only [h0,if_false,Sem.run_bind,hzero,Sem.run_pure,Result.andThen_ok,nt]
       rw [if_neg h0] at Ua
       subst Ua
       simp only [h1]
       simp [newRow]
     ·simp at h
    ·simp at h
end Go.Eng
end

section
namespace Go.Eng
variable [aE]
open Go.RowKit (Below)

section
variable {P : Program} {w : World}
theorem so {t u ty e e' : TypeId} {i : TypeInfo} (ht : P.underlying t = some (.slice e)) (hu : P.underlying u = some (.slice e')) (hi : P.info? e = some i) (g lb dP n c : Nat) (aa : Option Addr) (news : Array Value)
  (hf : (Builtin.firstCells i.size n (.slice aa n c)).run P w = .ok news w) (ou : lb + n ≤ dP) {w' : World} (lq : (storeCells ⟨g, lb * i.size, none⟩ news.toList).run P w = .ok () w') :
  (Builtin.append_ #[t, u] ty #[.slice (some ⟨g, 0, none⟩) lb dP, .slice aa n c]).run P w = .ok (.slice (some ⟨g, 0, none⟩) (lb + n) dP) w' := by
 simp [Builtin.append_, ao ht, ao hu, c5 hi, Builtin.lenOf, ou, hf, add_lit, lq]

theorem ef {t u ty e e' : TypeId} {i : TypeInfo} (ht : P.underlying t = some (.slice e)) (hu : P.underlying u = some (.slice e')) (hi : P.info? e = some i) (c : Nat) (aa : Option Addr) (news : Array Value)
  (hf : (Builtin.firstCells i.size 0 (.slice aa 0 c)).run P w = .ok news w) :
  (Builtin.append_ #[t, u] ty #[.slice none 0 0, .slice aa 0 c]).run P w = .ok (.slice none 0 0) w := by
 simp [Builtin.append_, ao ht, ao hu, c5 hi, Builtin.lenOf, hf]

theorem fI {t u ty e e' : TypeId} {i : TypeInfo} {z : Value} (ht : P.underlying t = some (.slice e)) (hu : P.underlying u = some (.slice e')) (hi : P.info? e = some i) (hz : i.zero = some z) (base : Option Addr) (lb dP n c : Nat)
  (aa : Option Addr) (Rr news : Array Value) (fJ : (Builtin.firstCells i.size lb (.slice base lb dP)).run P w.drew = .ok Rr w.drew) (hf : (Builtin.firstCells i.size n (.slice aa n c)).run P w.drew = .ok news w.drew)
  (hg : dP < lb + n) (h63 : ((lb + n : Nat) : Int) ≤ 9223372036854775807) (Em : Builtin.nextslicecap (lb + n) dP * i.bytes ≤ 281474976710656) :
  (Builtin.append_ #[t, u] ty #[.slice base lb dP, .slice aa n c]).run P w =
   .ok (.slice (some ⟨w.heap.size, 0, none⟩) (lb + n) (grownCap w (lb + n) dP e))
    (w.drew.alloc (.cells (Rr ++ news ++ Builtin.zeroCells z.cells (grownCap w (lb + n) dP e - (lb + n))) e)) := by
 have hn : ¬ (lb + n ≤ dP) := by omega
 have UW : ¬ (9223372036854775807 < ((lb : Int) + (n : Int))) := by omega
 have UX : ¬ (281474976710656 < Builtin.nextslicecap (lb + n) dP * i.bytes) := by omega
 simp [Builtin.append_, ao ht, ao hu, cD hi, c5 hi, zeroValue, hz, Builtin.lenOf, hn, UW, UX, Question.forced, hf, fJ, newRow, grownCap]
end

def lA (mem : List au) (size : Nat) : V → Option (Option (Nat × Nat) × List V)
 | .sc (.slice none 0 0) => some (none, [])
 | .full rows => if bM rows 0 size = true then some (none, rows) else none
 | .ms b v 0 l => match mem[b]? with
  | some (.rows v' e rs) => if v' = v ∧ e = size ∧ rs.length = l then some (some (b, v), rs) else none
  | _ => none
 | _ => none

def yn : V → List V → Bool
 | .full _, [] => false
 | _, _ => true
theorem Gp (b v s l : Nat) (xs : List V) : yn (.ms b v s l) xs = true := rfl
theorem Gq (v : Value) (xs : List V) : yn (.sc v) xs = true := rfl
theorem AY (v x : V) (xs : List V) : yn v (x :: xs) = true := by cases v <;> rfl
def dn (tt : Table) (mem : List au) (ts : List TypeId) (s x : V) : Option (Nat × Option (Nat × Nat) × List V) :=
 match ts with
 | [t, u] => match tt t with
  | some it => match it.elem with
   | some e => match dA tt u with
    | some _ => match tt e with
     | some i =>
      if 0 < i.size ∧ i.bytes ≤ 4096 ∧ i.zero.length = i.size then
       match lA mem i.size s with
       | some (nZ, rs) => match rowsOf mem i.size x with
        | some xs => if rs.length + xs.length ≤ 34359738368 then (if yn s xs = true then some (i.size, nZ, rs ++ xs) else none) else none
        | none => none
       | none => none
      else none
     | none => none
    | none => none
   | none => none
  | none => none
 | _ => none

def ct (mem : List au) (key size : Nat) (rows : List V) : Option (Nat × Nat) → List au × V
 | none => (aX mem key (.rows 0 size rows), .ms key 0 0 rows.length)
 | some (b, v) => (mem.set b (.rows (v + 1) size rows), .ms b (v + 1) 0 rows.length)

theorem aV.renew {E : Env} {w w' : World} {a : Act} {st : St} (hs : aV E w a st) {b v e0 g e c : Nat} {rs rows : List V} (hm : st.mem[b]? = some (.rows v e0 rs)) (hF : ∀ ad x, E.F ad = some x → w'.cell? ad = some x) (kd : w.heap.size ≤ w'.heap.size)
  (hg : g < w'.heap.size) (sr : ∀ k B', k ≠ b → st.mem[k]? = some B' → B'.held = true → ∀ g' e' c', E.aG k B'.ay = some (g', e', c') → w'.heap[g']? = w.heap[g']? ∧ g' ≠ g)
  (hB : iA (E.with b (v + 1) (g, e, c)) w' b (.rows (v + 1) e rows)) (QI : ∀ k v' e' c', E.aG k v' = some (g, e', c') → k = b) : aV (E.with b (v + 1) (g, e, c)) w' a { st with mem := st.mem.set b (.rows (v + 1) e rows) } := by
 have hn : ∀ v', v < v' → E.aG b v' = none := fun v' rn => hs.ay b _ hm v' rn
 have hle : E.le (E.with b (v + 1) (g, e, c)) := Env.gx (hn _ (Nat.lt_succ_self v)) _
 have bX : (E.with b (v + 1) (g, e, c)).aG b (v + 1) = some (g, e, c) := if_pos ⟨rfl, rfl⟩
 have hblk : ∀ k v', ¬ (k = b ∧ v' = v + 1) → (E.with b (v + 1) (g, e, c)).aG k v' = E.aG k v' := fun k v' bD => if_neg bD
 have FY : ∀ k v', k ≠ b → (E.with b (v + 1) (g, e, c)).aG k v' = E.aG k v' := fun k v' bD => hblk k v' fun h => bD h.1
 have aF : b < st.mem.length := (List.getElem?_eq_some_iff.1 hm).1
 have eU : ∀ (k : Nat) (B : au), (st.mem.set b (.rows (v + 1) e rows))[k]? = some B → (k = b ∧ B = .rows (v + 1) e rows) ∨ (k ≠ b ∧ st.mem[k]? = some B) := fun k B hk => by
  rw [List.getElem?_set] at hk
  by_cases dr : b = k
  ·subst dr; simp only [if_true,aF] at hk; cases hk; exact .inl ⟨rfl, rfl⟩
  ·rw [if_neg dr] at hk; exact .inr ⟨fun e => dr e.symm, hk⟩
 refine ⟨hF, fun k v' g' e' c' hb => ?_, fun k B hk => ?_, fun k hk v' => ?_, fun k B hk v' rn => ?_, fun k k' v1 v2 g' e1 c1 e2 c2 h5 h6 => ?_, hs.fr.mono hle⟩
 ·by_cases hq : k = b ∧ v' = v + 1
  ·obtain ⟨rfl, rfl⟩ := hq; rw [bX] at hb; cases hb; exact hg
  ·rw [hblk k v' hq] at hb; exact Nat.lt_of_lt_of_le (hs.lt _ _ _ _ _ hb) kd
 ·rcases eU k B hk with ⟨rfl, rfl⟩ | ⟨dr, eQ⟩
  ·exact hB
  ·cases JC : B.held with
   | false =>
    have := hs.mem k B eQ
    cases B with
    | hole => exact fun v' => by rw [FY k v' dr]; exact this v'
    | dead => trivial
    | _ => simp [au.held] at JC
   | true => exact (hs.mem k B eQ).mono hle (fun v' h => by rw [FY k v' dr]; exact h) (fun g' e' c' eV => (sr k B dr eQ JC g' e' c' eV).1) fun _ _ _ _ _ h => h
 ·have eQ : st.mem.length ≤ k := by simpa using hk
  rw [FY k v' (by omega)]; exact hs.top k eQ v'
 ·rcases eU k B hk with ⟨rfl, rfl⟩ | ⟨dr, eQ⟩
  ·have : v + 1 < v' := rn
   rw [hblk k v' (by omega)]; exact hn v' (by omega)
  ·rw [FY k v' dr]; exact hs.ay k B eQ v' rn
 ·by_cases hq : k = b ∧ v1 = v + 1 <;> by_cases JD : k' = b ∧ v2 = v + 1
  ·rw [hq.1, JD.1]
  ·obtain ⟨rfl, rfl⟩ := hq; rw [bX] at h5; cases h5; rw [hblk k' _ JD] at h6; exact (QI _ _ _ _ h6).symm
  ·obtain ⟨rfl, rfl⟩ := JD; rw [bX] at h6; cases h6; rw [hblk k _ hq] at h5; exact QI _ _ _ _ h5
  ·rw [hblk k _ hq] at h5; rw [hblk k' _ JD] at h6
   exact hs.apart _ _ _ _ _ _ _ _ _ h5 h6

theorem aV.yp {E : Env} {w : World} {a : Act} {st : St} (hs : aV E w a st) {b v e0 e : Nat} {rs : List V} (hm : st.mem[b]? = some (.rows v e0 rs)) : aV E w a { st with mem := st.mem.set b (.rows (v + 1) e []) } := by
 have hn : ∀ v', v < v' → E.aG b v' = none := fun v' rn => hs.ay b _ hm v' rn
 have aF : b < st.mem.length := (List.getElem?_eq_some_iff.1 hm).1
 have eU : ∀ (k : Nat) (B : au), (st.mem.set b (.rows (v + 1) e []))[k]? = some B → (k = b ∧ B = .rows (v + 1) e []) ∨ (k ≠ b ∧ st.mem[k]? = some B) := fun k B hk => by
  rw [List.getElem?_set] at hk
  by_cases dr : b = k
  ·subst dr; simp only [if_true,aF] at hk; cases hk; exact .inl ⟨rfl, rfl⟩
  ·rw [if_neg dr] at hk; exact .inr ⟨fun e => dr e.symm, hk⟩
 refine ⟨hs.F, hs.lt, fun k B hk => ?_, fun k hk v' => hs.top k (by simpa using hk) v', fun k B hk v' rn => ?_, hs.apart, hs.fr⟩
 ·rcases eU k B hk with ⟨rfl, rfl⟩ | ⟨dr, eQ⟩
  ·exact .inl ⟨rfl, hn _ (Nat.lt_succ_self v)⟩
  ·exact hs.mem k B eQ
 ·rcases eU k B hk with ⟨rfl, rfl⟩ | ⟨dr, eQ⟩
  ·exact hn v' (Nat.lt_of_succ_lt rn)
  ·exact hs.ay k B eQ v' rn

theorem gy {E : Env} {e : Nat} {rs xs : List V} {A B C : Array Value} (h1 : qA E e rs A) (h2 : qA E e xs B) : fF E e (rs ++ xs) (fun o => (A ++ B ++ C)[o]?) := by
 intro i row hi
 rw [List.getElem?_append] at hi
 split at hi
 ·rename_i aF
  obtain ⟨h3, h4⟩ := h1.2 i row hi
  refine ⟨h3, fun j c hj => ?_⟩
  obtain ⟨x, hx, hr⟩ := h4 j c hj
  dsimp only at hx
  have NI : i * e + j < A.size := (Array.getElem?_eq_some_iff.1 hx).1
  refine ⟨x, ?_, hr⟩
  dsimp only
  rw [Array.append_assoc, Array.getElem?_append_left NI, hx]
 ·rename_i dg
  obtain ⟨h3, h4⟩ := h2.2 (i - rs.length) row hi
  refine ⟨h3, fun j c hj => ?_⟩
  obtain ⟨x, hx, hr⟩ := h4 j c hj
  dsimp only at hx
  have NI : (i - rs.length) * e + j < B.size := (Array.getElem?_eq_some_iff.1 hx).1
  refine ⟨x, ?_, hr⟩
  dsimp only
  have hmul : i * e = A.size + (i - rs.length) * e := by
   rw [h1.1, ← Nat.add_mul]; congr 1; omega
  rw [Array.append_assoc, Array.getElem?_append_right (by omega), Array.getElem?_append_left (by omega), ← hx]
  congr 1; omega

theorem wC {E : Env} {b v s l : Nat} {x : Value} (h : aT E (.ms b v s l) x) : (l = 0 ∧ x = .slice none 0 0) ∨
  ∃ g e c a cap, x = .slice a l cap ∧ E.aG b v = some (g, e, c) ∧ (0 < l → a = some ⟨g, s * e, none⟩) ∧ (s = 0 → a = some ⟨g, 0, none⟩ ∧ cap = c) ∧ (l ≤ cap ∧ s + cap = c ∧ (0 < cap → a = some ⟨g, s * e, none⟩)) := by
 cases h with
 | cZ => exact .inl ⟨rfl, rfl⟩
 | ms _ _ _ _ _ g e c a cap hb hl h0 hc => exact .inr ⟨g, e, c, a, cap, rfl, hb, hl, h0, hc⟩

theorem qD {E : Env} {e : Nat} {xs : List V} {A : Array Value} (iF : 0 < e) (h : qA E e xs A) : ∀ v ∈ A.toList, v.oneCell' = true := by
 intro v hv
 obtain ⟨q, hq, rfl⟩ := List.mem_iff_getElem.1 hv
 have JD : q < xs.length * e := by rw [← h.1]; simpa using hq
 have Ys : q / e < xs.length := by rwa [Nat.div_lt_iff_lt_mul iF]
 have bW := List.getElem?_eq_getElem Ys
 obtain ⟨UY, lB⟩ := h.2 _ _ bW
 obtain ⟨vv, Ub, AB, -⟩ := lB (q % e) _ (List.getElem?_eq_getElem (by rw [UY]; exact Nat.mod_lt _ iF))
 dsimp only at Ub
 rw [Nat.mul_comm, Nat.div_add_mod] at Ub
 have : A.toList[q] = vv := by
  have NJ : q < A.size := by simpa using hq
  rw [Array.getElem?_eq_getElem NJ] at Ub
  simpa using Ub
 rw [this]; exact AB

theorem uB {P : Program} {tt : Table} (ht : TT P tt) {E : Env} {w : World} {a : Act} {st : St} (hs : aV E w a st) {ts : Array TypeId} {ty : TypeId} {s x : V} {y z : Value} {size : Nat} {nZ : Option (Nat × Nat)} {rows : List V} {key : Nat}
  (hk : dE st.mem key) (CU : aT E s y) (Gh : aT E x z) (h : dn tt st.mem ts.toList s x = some (size, nZ, rows)) :
  ∃ v w' E', (Builtin.append_ ts ty #[y, z]).run P w = .ok v w' ∧ aV E' w' a { st with mem := (ct st.mem key size rows nZ).1 } ∧ dk E w E' w' ∧ aT E' (ct st.mem key size rows nZ).2 v := by
 unfold dn at h
 split at h
 ·rename_i t u UZ
  obtain rfl : ts = #[t, u] := by rw [← Array.toArray_toList (xs := ts), UZ]
  split at h
  ·rename_i it hT
   split at h
   ·rename_i e he
    split at h
    ·rename_i e' QJ
     split at h
     ·rename_i i hE
      split at h
      ·rename_i hc
       obtain ⟨iF, ss, El⟩ := hc
       split at h
       ·rename_i Yt rs hD
        split at h
        ·rename_i xs na
         split at h
         ·rename_i hlen
          split at h
          case isFalse => cases h
          rename_i U0
          simp only [Option.some.injEq,Prod.mk.injEq] at h
          obtain ⟨rfl, rfl, rfl⟩ := h
          obtain ⟨d, hd, -, hZ, -⟩ := ht.desc t it hT
          obtain rfl := hZ e he
          have CV : ∃ e1, P.underlying u = some (.slice e1) := by
           unfold dA at QJ
           split at QJ
           ·rename_i iu hU
            obtain ⟨d, hd, -, hZ, -⟩ := ht.desc u iu hU
            exact ⟨e', by rw [hd, hZ e' QJ]⟩
           ·simp at QJ
          obtain ⟨e1, CV⟩ := CV
          obtain ⟨info, qC, MA, Rs, z0, NK, Gk⟩ := ht.size e i hE
          have J1 : z0.cells.size = info.size := by rw [MA, ← El, ← Gk]; simp
          rw [← MA] at na hD iF ⊢
          rw [← Rs] at ss
          have AE : aV E w.drew a st := hs.drew
          obtain ⟨xa, xc, rfl, Yu, xA, uA, AF⟩ := dF (P := P) hs Gh na
          obtain ⟨Yv, Yw, heq, -, xB, J2, Gr⟩ := dF (P := P) AE Gh na
          simp only [Value.slice.injEq] at heq
          obtain ⟨rfl, -, rfl⟩ := heq
          have Em : ∀ dP, dP < rs.length + xs.length → Builtin.nextslicecap (rs.length + xs.length) dP * info.bytes ≤ 281474976710656 := fun dP aF =>
           growslice_fits aF (Nat.le_trans (Nat.mul_le_mul hlen ss) (by decide))
          have pC : (rs ++ xs).length = rs.length + xs.length := by simp
          have dg : ∀ dP, rs.length + xs.length ≤ grownCap w (rs.length + xs.length) dP e := fun dP => grownCap_ge w (rs.length + xs.length) dP e
          have lC : ∀ (dP : Nat) (A : Array Value), qA E.pure info.size rs A → (A ++ xB ++ Builtin.zeroCells z0.cells (grownCap w (rs.length + xs.length) dP e - (rs.length + xs.length))).size = grownCap w (rs.length + xs.length) dP e * info.size := fun dP A Yx => by
           simp only [Array.size_append,size_zeroCells,J1,Yx.1,Gr.1,← Nat.add_mul]
           congr 1; have := dg dP; omega
          unfold lA at hD
          split at hD
          ·-- nil
           simp only [Option.some.injEq,Prod.mk.injEq] at hD
           obtain ⟨rfl, rfl⟩ := hD
           obtain rfl := bN CU
           by_cases h0 : xs.length = 0
           ·have Rt : xs = [] := List.length_eq_zero_iff.1 h0
            subst Rt
            exact ⟨_, w, E, ef (ty := ty) hd CV qC xc xa xA uA, hs.JX hk info.size, dk.refl E w, .cZ _ _ _ _⟩
           ·have cH := fI (ty := ty) hd CV qC NK none 0 0 xs.length xc xa #[] xB rfl J2 (by omega) (by omega) (Em 0 (by simp; omega))
            obtain ⟨E', h5, h6, h7⟩ := aV.oi AE (key := key) hk (xs := #[] ++ xB ++ Builtin.zeroCells z0.cells (grownCap w (([] : List V).length + xs.length) 0 e - (([] : List V).length + xs.length))) (rs := [] ++ xs) (e := info.size)
             (c := grownCap w (([] : List V).length + xs.length) 0 e) e (lC 0 #[] ⟨by simp, fun i row hi => by simp at hi⟩) (by rw [pC]; exact dg 0) (gy ⟨by simp, fun i row hi => by simp at hi⟩ Gr)
            refine ⟨_, _, E', cH, h5, (dk.drew E w).trans h6, ?_⟩
            simp only [ct]
            rw [pC] at h7 ⊢
            exact h7
          ·-- rows CW room
           rename_i iE
           split at hD
           case isFalse => cases hD
           rename_i pD
           simp only [Option.some.injEq,Prod.mk.injEq] at hD
           obtain ⟨rfl, rfl⟩ := hD
           have Az : 0 < xs.length := by
            cases xs with
            | nil => simp [yn] at U0
            | cons _ _ => simp
           cases CU with
           | full _ _ sa CU =>
           have NF : rowsOf st.mem info.size (.slice iE) = some iE := by simp only [rowsOf]; rw [if_pos pD]
           obtain ⟨Xn, sc, heq, fb, A, J3, CX⟩ := dF (P := P) AE CU NF
           simp only [Value.slice.injEq] at heq
           obtain ⟨rfl, -, rfl⟩ := heq
           have cH := fI (ty := ty) hd CV qC NK sa iE.length iE.length xs.length xc xa A xB J3 J2 (by omega) (by omega) (Em _ (by omega))
           obtain ⟨E', h5, h6, h7⟩ := aV.oi AE (key := key) hk (xs := A ++ xB ++ Builtin.zeroCells z0.cells (grownCap w (iE.length + xs.length) iE.length e - (iE.length + xs.length))) (rs := iE ++ xs) (e := info.size)
            (c := grownCap w (iE.length + xs.length) iE.length e) e (lC iE.length A CX) (by rw [pC]; exact dg _) (gy CX Gr)
           refine ⟨_, _, E', cH, h5, (dk.drew E w).trans h6, ?_⟩
           simp only [ct]
           rw [pC] at h7 ⊢
           exact h7
          ·rename_i b v l
           split at hD
           ·rename_i v' eb rs' hm
            split at hD
            ·rename_i MB
             obtain ⟨rfl, rfl, QK⟩ := MB
             simp only [Option.some.injEq,Prod.mk.injEq] at hD
             obtain ⟨rfl, rfl⟩ := hD
             have NF : rowsOf st.mem info.size (.ms b v' 0 l) = some rs' := by
              simp [rowsOf, hm, QK]
              rw [← QK]; simp
             obtain ⟨sa, sc, rfl, fb, A, J3, CX⟩ := dF (P := P) AE CU NF
             simp only [ct]
             by_cases ou : rs'.length + xs.length ≤ sc
             ·-- there is room
              rcases wC CU with ⟨QH, nb⟩ | ⟨g, Uc, c, Xn, Yy, nb, hb, hl, Gd, CR⟩
              ·simp only [Value.slice.injEq] at nb
               obtain ⟨rfl, U1, rfl⟩ := nb
               have Az : xs = [] := List.length_eq_zero_iff.1 (by omega)
               have NL : rs' = [] := List.length_eq_zero_iff.1 (by omega)
               subst Az; subst NL
               exact ⟨_, w, E, ef (ty := ty) hd CV qC xc xa xA uA, hs.yp hm, dk.refl E w, .cZ _ _ _ _⟩
              ·simp only [Value.slice.injEq] at nb
               obtain ⟨rfl, -, rfl⟩ := nb
               obtain ⟨rfl, Yz⟩ := Gd rfl
               have U2 := Yz.symm
               subst U2
               rcases hs.mem b _ hm with ⟨-, hn⟩ | ⟨g', T', cur, c', eO, hh, uj, kf, uk, hf⟩
               ·rw [hb] at hn; cases hn
               rw [hb] at eO; cases eO
               have su : rs'.length * info.size + xA.toList.length ≤ cur.size := by
                have := AF.1
                simp only [Array.length_toList]
                rw [this, uj, ← Nat.add_mul]; exact Nat.mul_le_mul_right _ ou
               obtain ⟨w', lq, JB, wD⟩ := fg (P := P) (g := g) (T := T') (rs'.length * info.size) xA.toList 0 w cur hh (by simpa using su) (qD iF AF)
               have cH := so (ty := ty) hd CV qC g rs'.length c xs.length xc xa xA uA ou lq
               have hle : E.le (E.with b (v' + 1) (g, info.size, c)) := Env.gx (hs.ay b _ hm _ (Nat.lt_succ_self v')) _
               have bX : (E.with b (v' + 1) (g, info.size, c)).aG b (v' + 1) = some (g, info.size, c) := if_pos ⟨rfl, rfl⟩
               refine ⟨_, w', E.with b (v' + 1) (g, info.size, c), cH, hs.renew hm (fun ad y hy => ?_) (by rw [wD.size]; exact Nat.le_refl _) (by rw [wD.size]; exact hs.lt _ _ _ _ _ hb) (fun k B' dr eQ MC g' e' c' eV => ?_) ?_ (fun k v2 e2 c2 h => hs.apart _ _ _ _ _ _ _ _ _ h hb),
                ⟨hle, fun k q g' e' c' dr => ?_, fun ad y hy => .inl hy, wD.os, wD.tape, wD.output, by rw [wD.size]; exact Nat.le_refl _, fun b' eO bD => wD.heap b' fun e => by subst e; exact bD _ _ _ _ hb⟩, ?_⟩
               ·have bD := hs.wv hf hy
                rw [← hs.F ad y hy]; simp [World.cell?, wD.heap _ bD]
               ·have Ru : g' ≠ g := fun e => by
                 subst e
                 exact dr (hs.apart _ _ _ _ _ _ _ _ _ eV hb)
                exact ⟨wD.heap _ Ru, Ru⟩
               ·refine .inr ⟨g, T', _, c, bX, JB, by rw [fG]; exact uj, by rw [pC]; exact ou, ?_, hf⟩
                intro q row hq
                simp only [Nat.add_zero]
                have yq : xA.toList.length = xs.length * info.size := by simpa using AF.1
                rw [List.getElem?_append] at hq
                split at hq
                ·rename_i aF
                 obtain ⟨h3, h4⟩ := uk q row hq
                 refine ⟨h3, fun j cc hj => ?_⟩
                 obtain ⟨v, hv, AB, En⟩ := h4 j cc hj
                 have qw : j < info.size := by rw [← h3]; exact (List.getElem?_eq_some_iff.1 hj).1
                 refine ⟨v, ?_, AB, En⟩
                 rw [ep _ _ _ _ su, if_neg (by have := sn aF qw; omega)]
                 exact hv
                ·rename_i U3
                 obtain ⟨h3, h4⟩ := AF.2 _ row hq
                 refine ⟨h3, fun j cc hj => ?_⟩
                 obtain ⟨v, hv, AB, En⟩ := h4 j cc hj
                 have qw : j < info.size := by rw [← h3]; exact (List.getElem?_eq_some_iff.1 hj).1
                 have Rv : q - rs'.length < xs.length := (List.getElem?_eq_some_iff.1 hq).1
                 have hmul : q * info.size = rs'.length * info.size + (q - rs'.length) * info.size := by rw [← Nat.add_mul]; congr 1; omega
                 refine ⟨v, ?_, AB, En⟩
                 rw [ep _ _ _ _ su, if_pos (by have := sn Rv qw; omega)]
                 dsimp only at hv
                 rw [← hv, Array.getElem?_toList]
                 congr 1; omega
               ·by_cases hq : k = b ∧ q = v' + 1
                ·obtain ⟨rfl, rfl⟩ := hq; rw [bX] at dr; cases dr; exact .inl ⟨_, _, _, _, hb⟩
                ·have : (E.with b (v' + 1) (g, info.size, c)).aG k q = E.aG k q := if_neg hq
                 rw [this] at dr; exact .inl ⟨_, _, _, _, dr⟩
               ·rw [pC]
                exact .ms _ _ _ _ _ g info.size c _ _ bX (fun _ => by simp) (fun _ => ⟨rfl, rfl⟩) ⟨ou, Nat.zero_add _, fun _ => by simp⟩
             ·-- a new block
              have aF : sc < rs'.length + xs.length := by omega
              have cH := fI (ty := ty) hd CV qC NK sa rs'.length sc xs.length xc xa A xB J3 J2 aF (by omega) (Em sc aF)
              have hle : E.le (E.with b (v' + 1) (w.heap.size, info.size, grownCap w (rs'.length + xs.length) sc e)) := Env.gx (hs.ay b _ hm _ (Nat.lt_succ_self v')) _
              have bX : (E.with b (v' + 1) (w.heap.size, info.size, grownCap w (rs'.length + xs.length) sc e)).aG b (v' + 1) = some (w.heap.size, info.size, grownCap w (rs'.length + xs.length) sc e) := if_pos ⟨rfl, rfl⟩
              refine ⟨_, _, E.with b (v' + 1) (w.heap.size, info.size, grownCap w (rs'.length + xs.length) sc e), cH, hs.renew hm (fun ad y hy => ?_) (by simp) (by simp) (fun k B' dr eQ MC g' e' c' eV => ?_) ?_ (fun k v2 e2 c2 h => absurd (hs.lt _ _ _ _ _ h) (Nat.lt_irrefl _)),
               ⟨hle, fun k q g' e' c' dr => ?_, fun ad y hy => .inl hy, rfl, rfl, rfl, by simp, fun b' eO bD => Go.RowKit.Below.heap_alloc w.drew _ b' eO⟩, ?_⟩
              ·rw [World.cell?_alloc_lt w.drew _ ad (World.block_lt_of_cell? w ad (hs.F ad y hy))]; exact hs.F ad y hy
              ·have := hs.lt _ _ _ _ _ eV
               exact ⟨Go.RowKit.Below.heap_alloc w.drew _ g' this, by omega⟩
              ·refine .inr ⟨w.heap.size, e, _, _, bX, heap_alloc_new w.drew _, lC sc A CX, by rw [pC]; exact dg sc, ?_, fun o => ?_⟩
               ·intro q row hq
                obtain ⟨h3, h4⟩ := gy (C := Builtin.zeroCells z0.cells (grownCap w (rs'.length + xs.length) sc e - (rs'.length + xs.length))) CX Gr q row hq
                exact ⟨h3, fun j cc hj => let ⟨v, hv, AB, En⟩ := h4 j cc hj; ⟨v, hv, AB, En.mono (Env.fC hle)⟩⟩
               ·show E.F _ = none
                cases hx : E.F ⟨w.heap.size, o, none⟩ with
                | none => rfl
                | some x => have := World.block_lt_of_cell? w _ (hs.F _ _ hx); simp at this
              ·by_cases hq : k = b ∧ q = v' + 1
               ·obtain ⟨rfl, rfl⟩ := hq; rw [bX] at dr; cases dr; exact .inr (Nat.le_refl _)
               ·have : (E.with b (v' + 1) (w.heap.size, info.size, grownCap w (rs'.length + xs.length) sc e)).aG k q = E.aG k q := if_neg hq
                rw [this] at dr; exact .inl ⟨_, _, _, _, dr⟩
              ·rw [pC]
               exact .ms _ _ _ _ _ w.heap.size info.size _ _ _ bX (fun _ => by simp) (fun _ => ⟨rfl, rfl⟩) ⟨dg sc, Nat.zero_add _, fun _ => by simp⟩
            ·simp at hD
           ·simp at hD
          ·simp at hD
         ·simp at h
        ·simp at h
       ·simp at h
      ·simp at h
     ·simp at h
    ·simp at h
   ·simp at h
  ·simp at h
 ·simp at h
end Go.Eng
end

section
namespace Go.Eng
variable [aE]

theorem cw.set {E : Env} {bf : List (Value × Nat × V)} {es : List MapEntry} (h : cw E bf es) (i : Nat) {kb : Value × Nat × V} {e : MapEntry} (h1 : e.key = kb.1) (h2 : e.born = kb.2.1) (h3 : aT E kb.2.2 e.val) : cw E (bf.set i kb) (es.set i e) := by
  refine ⟨by simp [h.1], fun j k e' hk he => ?_⟩
  by_cases sv : i = j
  · subst sv
    rw [List.getElem?_set] at hk he
    simp only [if_true] at hk he
    split at hk
    · split at he
      · cases hk; cases he; exact ⟨h1, h2, h3⟩
      · cases he
    · cases hk
  · rw [List.getElem?_set_ne sv] at hk he; exact h.2 j k e' hk he
theorem cw.push {E : Env} {bf : List (Value × Nat × V)} {es : List MapEntry} (h : cw E bf es) {kb : Value × Nat × V} {e : MapEntry} (h1 : e.key = kb.1) (h2 : e.born = kb.2.1) (h3 : aT E kb.2.2 e.val) : cw E (bf ++ [kb]) (es ++ [e]) := by
  refine ⟨by simp [h.1], fun j k e' hk he => ?_⟩
  by_cases hj : j < bf.length
  · rw [List.getElem?_append_left hj] at hk; rw [List.getElem?_append_left (by have := h.1; omega)] at he; exact h.2 j k e' hk he
  · rw [List.getElem?_append_right (by omega)] at hk; rw [List.getElem?_append_right (by have := h.1; omega)] at he
    rw [h.1] at hk
    cases hd : j - es.length with
    | zero => rw [hd] at hk he; simp at hk he; subst hk; subst he; exact ⟨h1, h2, h3⟩
    | succ n => rw [hd] at hk; simp at hk
theorem cw.erase {E : Env} : ∀ {bf : List (Value × Nat × V)} {es : List MapEntry}, cw E bf es → ∀ (i : Nat), cw E (bf.eraseIdx i) (es.eraseIdx i)
  | [], es, h, i => by rw [h.of_nil]; exact ⟨rfl, fun j k e hk => by simp at hk⟩
  | k :: r, es, h, i => by
    obtain ⟨e, es', rfl, h1, h2, h3, h4⟩ := h.of_cons
    cases i with
    | zero => exact h4
    | succ i =>
      have h5 := cw.erase h4 i
      simp only [List.eraseIdx_cons_succ]
      refine ⟨by simp [h5.1], fun j k' e' hk he => ?_⟩
      cases j with
      | zero => simp at hk he; subst hk; subst he; exact ⟨h1, h2, h3⟩
      | succ j => exact h5.2 j k' e' (by simpa using hk) (by simpa using he)

def insertAt (P : Program) (kt : TypeId) (key : Value) (v : V) (bf : List (Value × Nat × V)) (clock : Nat) : Option (List (Value × Nat × V) × Nat) :=
  match kT P kt key bf with
  | some (some (i, _)) => match bf[i]? with
    | some e => if Instr.sameBits 10000 e.1 key = true then some (bf.set i (key, e.2.1, v), clock) else none
    | none => none
  | some none => some (bf ++ [(key, clock, v)], clock + 1)
  | none => none
def ch (P : Program) (mem : List au) (T : TypeId) (m k v : V) : Option (List au) :=
  match cN P T with
  | some (kt, _) => match bp k with
    | some key => if mX P kt key = true then
        match m with
        | .mp b => match mem[b]? with
          | some (.map bf clock) => match insertAt P kt key v bf clock with
            | some (kvs', clock') => some (mem.set b (.map kvs' clock'))
            | none => none
          | _ => none
        | _ => none
      else none
    | none => none
  | none => none
def CY (P : Program) (kt et : TypeId) (key : Value) (bf : List (Value × Nat × V)) (clock : Nat) : Option (List (Value × Nat × V) × Nat × V) :=
  match kT P kt key bf with
  | some (some (i, v)) => match bf[i]? with
    | some e => if Instr.sameBits 10000 e.1 key = true then some (bf.set i (key, e.2.1, e.2.2), clock, .bt [v, .sc (.int .i64 e.2.1)]) else none
    | none => none
  | some none => match zeroV P et with
    | some z => some (bf ++ [(key, clock, z)], clock + 1, .bt [z, .sc (.int .i64 clock)])
    | none => none
  | none => none
def pF (P : Program) (mem : List au) (T : TypeId) (m k : V) : Option (List au × V) :=
  match cN P T with
  | some (kt, et) => match bp k with
    | some key => if mX P kt key = true then
        match m with
        | .mp b => match mem[b]? with
          | some (.map bf clock) => match CY P kt et key bf clock with
            | some (kvs', clock', v) => some (mem.set b (.map kvs' clock'), v)
            | none => none
          | _ => none
        | _ => none
      else none
    | none => none
  | none => none
def pG (mem : List au) (m s v : V) : Option (List au) :=
  match m, s with
  | .mp b, .sc (.int _ n) => match mem[b]? with
    | some (.map bf clock) => match bf.findIdx? (fun e => (e.2.1 : Int) == n) with
      | some i => match bf[i]? with
        | some e => some (mem.set b (.map (bf.set i (e.1, e.2.1, v)) clock))
        | none => none
      | none => none
    | _ => none
  | _, _ => none
def ml (P : Program) (mem : List au) (ts : Array TypeId) : List V → Option (List au)
  | [.mp b, k] => match ts[0]? with
    | some T => match cN P T with
      | some (kt, _) => match bp k with
        | some key => if mX P kt key = true then
            match mem[b]? with
            | some (.map bf clock) => match kT P kt key bf with
              | some (some (i, _)) => some (mem.set b (.map (bf.eraseIdx i) clock))
              | some none => some (mem.set b (.map bf clock))
              | none => none
            | _ => none
          else none
        | none => none
      | none => none
    | none => none
  | _ => none

theorem lD {w : World} {g : Nat} {o : Obj} : oj w { w with heap := w.heap.setIfInBounds g o } g :=
  ⟨rfl, rfl, rfl, by simp, fun b hb => Array.getElem?_setIfInBounds_ne (fun e => hb e.symm)⟩
theorem heap_set {w : World} {g : Nat} {o o' : Obj} (h : w.heap[g]? = some o) : ({ w with heap := w.heap.setIfInBounds g o' } : World).heap[g]? = some o' := by
  have : g < w.heap.size := by
    rcases Nat.lt_or_ge g w.heap.size with h1 | h1
    · exact h1
    · rw [Array.getElem?_eq_none h1] at h; cases h
  simp [this]
theorem aV.ko {E : Env} {w : World} {a : Act} {st : St} (hs : aV E w a st) {b g e c : Nat} {bf kvs' : List (Value × Nat × V)} {clock clock' : Nat} {es es' : Array MapEntry} (hm : st.mem[b]? = some (.map bf clock)) (hb : E.aG b 0 = some (g, e, c)) (hh : w.heap[g]? = some (.map es clock))
    (hf : ∀ o, E.F ⟨g, o, none⟩ = none) (hr : cw E kvs' es'.toList) :
    aV E { w with heap := w.heap.setIfInBounds g (.map es' clock') } a { st with mem := st.mem.set b (.map kvs' clock') } ∧ dk E w E { w with heap := w.heap.setIfInBounds g (.map es' clock') } := by
  obtain ⟨-, -, -, -, h0⟩ := gw hs hm hb
  cases h0
  exact hs.yl hm rfl (B' := .map kvs' clock') rfl hb hf lD ⟨g, es', hb, heap_set hh, hr, hf⟩

theorem nu {es : Array MapEntry} {i : Nat} {e : MapEntry} (h : es[i]? = some e) (f : MapEntry → MapEntry) : (es.modify i f).toList = es.toList.set i (f e) := by
  apply List.ext_getElem?
  intro j
  rw [Array.getElem?_toList, Array.getElem?_modify, List.getElem?_set]
  by_cases sv : i = j
  · subst sv
    have : i < es.size := (Array.getElem?_eq_some_iff.1 h).1
    have he : es[i] = e := (Array.getElem?_eq_some_iff.1 h).2
    simp [this, he]
  · simp [sv]
theorem vb {P : Program} {w : World} {nZ new : Value} (h : Instr.sameBits 10000 nZ new = true) : (Instr.keyThatStays nZ new).run P w = .ok new w := by simp [Instr.keyThatStays, h]

theorem nc {P : Program} {E : Env} {w : World} {a : Act} {st : St} (hs : aV E w a st) {T : TypeId} {m k v : V} {x y z : Value} {aA : List au} (hm : aT E m x) (hk : aT E k y) (hv : aT E v z) (h : ch P st.mem T m k v = some aA) :
    ∃ w', (Instr.mapUpdate T x y z).run P w = .ok () w' ∧ aV E w' a { st with mem := aA } ∧ dk E w E w' := by
  unfold ch at h
  split at h
  · rename_i kt et hd
    have hd := ff hd
    split at h
    · rename_i key bX
      cases eI hk bX
      split at h
      · rename_i bB
        have FW := fun b => ji bB b w
        split at h
        · rename_i b
          obtain ⟨g, e, c, rfl, hb⟩ := nn hm
          split at h
          · rename_i bf clock hB
            obtain ⟨es, hh, hr, hf, -⟩ := gw hs hB hb
            split at h
            · rename_i kvs' clock' hi
              cases h
              unfold insertAt at hi
              split at hi
              · rename_i i u Gs
                obtain ⟨r', h1, h2⟩ := c6 hr w Gs
                match r', h2 with
                | some (j', z'), h2 =>
                  obtain ⟨rfl, h3, kb, en, h4, h5, h6, h7⟩ := h2
                  have NM : es[i]? = some en := by simpa using h5
                  split at hi
                  · rename_i YA dr
                    rw [dr] at h4; cases h4
                    split at hi
                    · rename_i Gt
                      cases hi
                      obtain ⟨p1, p2, p3⟩ := hr.2 i _ _ dr h5
                      have cH : (Instr.mapUpdate T (.map (some g)) y z).run P w = .ok () { w with heap := w.heap.setIfInBounds g (.map (es.modify i fun e => { e with key := y, val := z }) clock) } := by
                        have := dD (P := P) (o' := .map (es.modify i fun e => { e with key := y, val := z }) clock) hh (by simp)
                        simp [Instr.mapUpdate, ao hd, b8 hh, FW, h1, NM, p1, vb Gt, this]
                      obtain ⟨q1, q2⟩ := hs.ko hB hb hh hf (clock' := clock) (kvs' := bf.set i (y, kb.2.1, v)) (es' := es.modify i fun e => { e with key := y, val := z }) (by rw [nu NM]; exact hr.set i rfl p2 hv)
                      exact ⟨_, cH, q1, q2⟩
                    · cases hi
                  · cases hi
              · rename_i Gs
                obtain ⟨r', h1, h2⟩ := c6 hr w Gs
                match r', h2 with
                | none, h2 =>
                  cases hi
                  have cH : (Instr.mapUpdate T (.map (some g)) y z).run P w = .ok () { w with heap := w.heap.setIfInBounds g (.map (es.push { key := y, val := z, born := clock }) (clock + 1)) } := by
                    have := dD (P := P) (o' := .map (es.push { key := y, val := z, born := clock }) (clock + 1)) hh (by simp)
                    simp [Instr.mapUpdate, ao hd, b8 hh, FW, h1, this]
                  obtain ⟨q1, q2⟩ := hs.ko hB hb hh hf (clock' := clock + 1) (kvs' := bf ++ [(y, clock, v)]) (es' := es.push { key := y, val := z, born := clock }) (by rw [Array.toList_push]; exact hr.push rfl rfl hv)
                  exact ⟨_, cH, q1, q2⟩
              · cases hi
            · cases h
          · cases h
        · cases h
      · cases h
    · cases h
  · cases h

theorem yr {E : Env} {v : V} {x : Value} (h : aT E v x) (n : Nat) : aT E (.bt [v, .sc (.int .i64 n)]) (.tuple #[x, goInt n]) := by
  refine .bt _ _ _ rfl fun i c y hc hy => ?_
  match i with
  | 0 => simp at hc hy; subst hc; subst hy; exact h
  | 1 => simp at hc hy; subst hc; subst hy; exact .sc _ _
  | i + 2 => simp at hc
theorem wE {P : Program} {E : Env} {w : World} {a : Act} {st : St} (hs : aV E w a st) {T : TypeId} {m k v : V} {x y : Value} {aA : List au} (hm : aT E m x) (hk : aT E k y) (h : pF P st.mem T m k = some (aA, v)) :
    ∃ z w', (Instr.mapEntry T x y).run P w = .ok z w' ∧ aV E w' a { st with mem := aA } ∧ dk E w E w' ∧ aT E v z := by
  unfold pF at h
  split at h
  · rename_i kt et hd
    have hd := ff hd
    split at h
    · rename_i key bX
      cases eI hk bX
      split at h
      · rename_i bB
        have FW := fun b => ji bB b w
        split at h
        · rename_i b
          obtain ⟨g, e, c, rfl, hb⟩ := nn hm
          split at h
          · rename_i bf clock hB
            obtain ⟨es, hh, hr, hf, -⟩ := gw hs hB hb
            split at h
            · rename_i kvs' clock' v' hi
              cases h
              unfold CY at hi
              split at hi
              · rename_i i u Gs
                obtain ⟨r', h1, h2⟩ := c6 hr w Gs
                match r', h2 with
                | some (j', z'), h2 =>
                  obtain ⟨rfl, h3, kb, en, h4, h5, h6, h7⟩ := h2
                  have NM : es[i]? = some en := by simpa using h5
                  split at hi
                  · rename_i YA dr
                    rw [dr] at h4; cases h4
                    split at hi
                    · rename_i Gt
                      cases hi
                      obtain ⟨p1, p2, p3⟩ := hr.2 i _ _ dr h5
                      have cH : (Instr.mapEntry T (.map (some g)) y).run P w = .ok (.tuple #[z', goInt en.born]) { w with heap := w.heap.setIfInBounds g (.map (es.modify i fun e => { e with key := y }) clock) } := by
                        have := dD (P := P) (o' := .map (es.modify i fun e => { e with key := y }) clock) hh (by simp)
                        simp [Instr.mapEntry, ao hd, b8 hh, FW, h1, NM, p1, vb Gt, this]
                      obtain ⟨q1, q2⟩ := hs.ko hB hb hh hf (clock' := clock) (kvs' := bf.set i (y, kb.2.1, kb.2.2)) (es' := es.modify i fun e => { e with key := y }) (by rw [nu NM]; exact hr.set i rfl p2 p3)
                      exact ⟨_, _, cH, q1, q2, by rw [p2]; exact yr h3 _⟩
                    · cases hi
                  · cases hi
              · rename_i Gs
                obtain ⟨r', h1, h2⟩ := c6 hr w Gs
                match r', h2 with
                | none, h2 =>
                  split at hi
                  · rename_i z0 NK
                    cases hi
                    obtain ⟨zz, h3, h4⟩ := lx NK E w
                    have cH : (Instr.mapEntry T (.map (some g)) y).run P w = .ok (.tuple #[zz, goInt clock]) { w with heap := w.heap.setIfInBounds g (.map (es.push { key := y, val := zz, born := clock }) (clock + 1)) } := by
                      have := dD (P := P) (o' := .map (es.push { key := y, val := zz, born := clock }) (clock + 1)) hh (by simp)
                      simp [Instr.mapEntry, ao hd, b8 hh, FW, h1, h3, this]
                    obtain ⟨q1, q2⟩ := hs.ko hB hb hh hf (clock' := clock + 1) (kvs' := bf ++ [(y, clock, z0)]) (es' := es.push { key := y, val := zz, born := clock }) (by rw [Array.toList_push]; exact hr.push rfl rfl h4)
                    exact ⟨_, _, cH, q1, q2, yr h4 _⟩
                  · cases hi
              · cases hi
            · cases h
          · cases h
        · cases h
      · cases h
    · cases h
  · cases h

theorem qE {E : Env} (n : Int) : ∀ {bf : List (Value × Nat × V)} {es : List MapEntry}, cw E bf es → bf.findIdx? (fun e => (e.2.1 : Int) == n) = es.findIdx? (fun e => (e.born : Int) == n)
  | [], es, h => by rw [h.of_nil]; rfl
  | k :: r, es, h => by
    obtain ⟨e, es', rfl, h1, h2, h3, h4⟩ := h.of_cons
    rw [List.findIdx?_cons, List.findIdx?_cons, h2, qE n h4]
theorem wF {P : Program} {E : Env} {w : World} {a : Act} {st : St} (hs : aV E w a st) {T : TypeId} {m s v : V} {x y z : Value} {aA : List au} (hm : aT E m x) (hk : aT E s y) (hv : aT E v z) (h : pG st.mem m s v = some aA) :
    ∃ w', (Instr.entryStore T x y z).run P w = .ok () w' ∧ aV E w' a { st with mem := aA } ∧ dk E w E w' := by
  unfold pG at h
  split at h
  · rename_i b k n
    obtain ⟨g, e, c, rfl, hb⟩ := nn hm
    obtain rfl := mg hk
    split at h
    · rename_i bf clock hB
      obtain ⟨es, hh, hr, hf, -⟩ := gw hs hB hb
      split at h
      · rename_i i hi
        split at h
        · rename_i kb dr
          cases h
          obtain ⟨en, h5, p1, p2, p3⟩ := hr.get dr
          have NM : es[i]? = some en := by simpa using h5
          have NN : es.findIdx? (fun e => (e.born : Int) == n) = some i := by
            rw [qE n hr, ← List.findIdx?_toArray, Array.toArray_toList] at hi; exact hi
          have cH : (Instr.entryStore T (.map (some g)) (.int k n) z).run P w = .ok () { w with heap := w.heap.setIfInBounds g (.map (es.modify i fun e => { e with val := z }) clock) } := by
            have := dD (P := P) (o' := .map (es.modify i fun e => { e with val := z }) clock) hh (by simp)
            simp [Instr.entryStore, b8 hh, asInt, asIntOf, NN, this]
          obtain ⟨q1, q2⟩ := hs.ko hB hb hh hf (clock' := clock) (kvs' := bf.set i (kb.1, kb.2.1, v)) (es' := es.modify i fun e => { e with val := z }) (by rw [nu NM]; exact hr.set i p1 p2 hv)
          exact ⟨_, cH, q1, q2⟩
        · cases h
      · cases h
    · cases h
  · cases h

theorem uC {P : Program} {E : Env} {w : World} {a : Act} {st : St} (hs : aV E w a st) {ts : Array TypeId} {ty : TypeId} {xs : List V} {ys : Array Value} {aA : List au} (hx : aO E xs ys.toList) (h : ml P st.mem ts xs = some aA) :
    ∃ w', (Builtin.delete_ ts ty ys).run P w = .ok (.tuple #[]) w' ∧ aV E w' a { st with mem := aA } ∧ dk E w E w' := by
  unfold ml at h
  split at h
  · rename_i b k
    obtain ⟨x, r, hy, AV, hx⟩ := hx.of_cons
    obtain ⟨y, r2, hz, Eo, hx⟩ := hx.of_cons
    have := hx.of_nil
    subst this; subst hz
    obtain rfl : ys = #[x, y] := by rw [← Array.toArray_toList (xs := ys), hy]
    obtain ⟨g, e, c, rfl, hb⟩ := nn AV
    split at h
    · rename_i T h0
      split at h
      · rename_i kt et hd
        have hd := ff hd
        split at h
        · rename_i key bX
          cases eI Eo bX
          split at h
          · rename_i bB
            have FW := fun b => ji bB b w
            split at h
            · rename_i bf clock hB
              obtain ⟨es, hh, hr, hf, -⟩ := gw hs hB hb
              split at h
              · rename_i i u Gs
                cases h
                obtain ⟨r', h1, h2⟩ := c6 hr w Gs
                match r', h2 with
                | some (j', z'), h2 =>
                  obtain ⟨rfl, h3, kb, en, h4, h5, h6, h7⟩ := h2
                  have cH : (Builtin.delete_ ts ty #[.map (some g), y]).run P w = .ok (.tuple #[]) { w with heap := w.heap.setIfInBounds g (.map (es.eraseIdxIfInBounds i) clock) } := by
                    have := dD (P := P) (o' := .map (es.eraseIdxIfInBounds i) clock) hh (by simp)
                    simp [Builtin.delete_, h0, ao hd, b8 hh, FW, h1, this]
                  obtain ⟨q1, q2⟩ := hs.ko hB hb hh hf (clock' := clock) (kvs' := bf.eraseIdx i) (es' := es.eraseIdxIfInBounds i) (by rw [Array.toList_eraseIdxIfInBounds]; exact hr.erase i)
                  exact ⟨_, cH, q1, q2⟩
              · rename_i Gs
                cases h
                obtain ⟨r', h1, h2⟩ := c6 hr w Gs
                match r', h2 with
                | none, h2 =>
                  have cH : (Builtin.delete_ ts ty #[.map (some g), y]).run P w = .ok (.tuple #[]) { w with heap := w.heap.setIfInBounds g (.map es clock) } := by
                    have := dD (P := P) (o' := .map es clock) hh (by simp)
                    simp [Builtin.delete_, h0, ao hd, b8 hh, FW, h1, this]
                  obtain ⟨q1, q2⟩ := hs.ko hB hb hh hf (clock' := clock) (kvs' := bf) (es' := es) hr
                  exact ⟨_, cH, q1, q2⟩
              · cases h
            · cases h
          · cases h
        · cases h
      · cases h
    · cases h
  · cases h

/-! ### ranging -/

def leftOf (bf : List (Value × Nat × V)) (seen : List Nat) : List (Value × Nat × V) := bf.filter fun e => !seen.contains e.2.1
def sw (bf : List (Value × Nat × V)) (seen : List Nat) (since : Nat) : List (Value × Nat × V) := (leftOf bf seen).filter fun e => e.2.1 < since
def Gu (bf : List (Value × Nat × V)) (seen : List Nat) (since : Nat) : List (Value × Nat × V) := (leftOf bf seen).filter fun e => e.2.1 ≥ since
def wG (bf : List (Value × Nat × V)) (seen : List Nat) (last : Nat) : Bool := !seen.isEmpty && !bf.isEmpty && bf.all fun e => e.2.1 ≥ last
def sx : V := .bt [.sc (.bool false)]
def Gv (e : Value × Nat × V) : V := .bt [.sc (.bool true), dj e.1, e.2.2]
def MD (s : ByteArray) (pos : Nat) : V := .bt [.sc (.bool true), .sc (.int .i64 pos), .sc (.int .i32 (Utf8.decode s pos).1)]
def ov (st : St) (dst : Option Tmp) (it : V) (str : Bool) (Q : St → Prop) : Prop :=
  match it with
  | .ptr b 0 => match st.mem[b]? with
    | some (.ed m since seen last) => match st.mem[m]? with
      | some (.map bf clock) => str = false ∧ wG bf seen last = false ∧ (sw bf seen since = [] → Q (st.put dst sx)) ∧
          ∀ e ∈ sw bf seen since ++ Gu bf seen since, Q ({ st with mem := st.mem.set b (.ed m since (seen ++ [e.2.1]) clock) }.put dst (Gv e))
      | _ => False
    | some (.gZ s pos) => str = true ∧ if pos < s.size then Q ({ st with mem := st.mem.set b (.gZ s (pos + (Utf8.decode s pos).2)) }.put dst (MD s pos)) else Q (st.put dst sx)
    | some .iz => str = false ∧ Q (st.put dst sx)
    | _ => False
  | _ => False

theorem cw.filter {E : Env} (p : Nat → Bool) : ∀ {bf : List (Value × Nat × V)} {es : List MapEntry}, cw E bf es → cw E (bf.filter fun e => p e.2.1) (es.filter fun e => p e.born)
  | [], es, h => by rw [h.of_nil]; exact ⟨rfl, fun j k e hk => by simp at hk⟩
  | k :: r, es, h => by
    obtain ⟨e, es', rfl, h1, h2, h3, h4⟩ := h.of_cons
    have h5 := cw.filter p h4
    simp only [List.filter_cons,h2]
    split
    · refine ⟨by simp [h5.1], fun j k' e' hk he => ?_⟩
      cases j with
      | zero => simp at hk he; subst hk; subst he; exact ⟨h1, h2, h3⟩
      | succ j => exact h5.2 j k' e' (by simpa using hk) (by simpa using he)
    · exact h5
theorem cw.all {E : Env} (p : Nat → Bool) : ∀ {bf : List (Value × Nat × V)} {es : List MapEntry}, cw E bf es → (bf.all fun e => p e.2.1) = es.all fun e => p e.born
  | [], es, h => by rw [h.of_nil]; rfl
  | k :: r, es, h => by
    obtain ⟨e, es', rfl, h1, h2, h3, h4⟩ := h.of_cons
    simp only [List.all_cons,h2,cw.all p h4]
theorem cw.append {E : Env} {a b : List (Value × Nat × V)} {x y : List MapEntry} (h : cw E a x) (k : cw E b y) : cw E (a ++ b) (x ++ y) := by
  refine ⟨by simp [h.1, k.1], fun j kk e hk he => ?_⟩
  by_cases hj : j < a.length
  · rw [List.getElem?_append_left hj] at hk; rw [List.getElem?_append_left (by have := h.1; omega)] at he; exact h.2 j kk e hk he
  · rw [List.getElem?_append_right (by omega)] at hk; rw [List.getElem?_append_right (by have := h.1; omega)] at he
    rw [h.1] at hk
    exact k.2 _ kk e hk he
theorem Ep {E : Env} {k : Value × Nat × V} {e : MapEntry} (h1 : e.key = k.1) (h3 : aT E k.2.2 e.val) : aT E (Gv k) (.tuple #[.bool true, e.key, e.val]) := by
  refine .bt _ _ _ rfl fun i c y hc hy => ?_
  match i with
  | 0 => simp at hc hy; subst hc; subst hy; exact .sc _ _
  | 1 => simp at hc hy; subst hc; subst hy; rw [h1]; exact fE E _
  | 2 => simp at hc hy; subst hc; subst hy; exact h3
  | i + 3 => simp at hc

theorem sy {P : Program} {w : World} {n : Nat} (hn : 0 < n) : ∃ i w', (choose (.mapNext n)).run P w = .ok i w' ∧ i < n ∧ (w' = w ∨ w' = w.drew) := by
  unfold choose
  rw [Sem.run]
  split
  · exact ⟨0, w, rfl, hn, .inl rfl⟩
  · exact ⟨_, _, rfl, Nat.mod_lt _ hn, .inr rfl⟩
theorem aV.NO {E : Env} {w w' : World} {a : Act} {st : St} (hs : aV E w a st) (h : w' = w ∨ w' = w.drew) : aV E w' a st ∧ dk E w E w' ∧ w'.heap = w.heap := by
  rcases h with rfl | rfl
  · exact ⟨hs, dk.refl _ _, rfl⟩
  · exact ⟨hs.drew, dk.drew _ _, rfl⟩
theorem yu {P : Program} {E : Env} {w : World} {a : Act} {st : St} (hs : aV E w a st) {dst : Option Tmp} {it : V} {x : Value} {str : Bool} {ty : TypeId} {Q : St → Prop} (hi : aT E it x) (h : ov st dst it str Q) :
    ∃ z w' st', (Instr.next x str ty).run P w = .ok z w' ∧ aV E w' (a.put dst z) st' ∧ dk E w E w' ∧ Q st' := by
  unfold ov at h
  split at h
  · rename_i b
    split at h
    · rename_i m since seen last hB
      split at h
      · rename_i bf clock hM
        obtain ⟨rfl, lq, Rw, bn⟩ := h
        obtain ⟨g, gm, em, cm, hb, JA, hh, hf⟩ := hs.mem b _ hB
        obtain ⟨es, UQ, hr, Ym, h0⟩ := gw hs hM JA
        cases h0
        cases hi with
        | ptr _ _ _ g' e' c' eO =>
        rw [hb] at eO; cases eO
        have eU : (getObj g).run P w = .ok (.mapIter (some gm) since seen.toArray last) w := by simp [getObj, Sem.run, hh]
        have NP : (!seen.toArray.isEmpty && !es.isEmpty && es.all (fun e => decide (e.born ≥ last))) = false := by
          rw [← lq]
          unfold wG
          have e1 : seen.toArray.isEmpty = seen.isEmpty := by simp
          have e2 : es.isEmpty = bf.isEmpty := by
            have h1 := hr.1
            rw [Bool.eq_iff_iff, Array.isEmpty_iff_size_eq_zero, List.isEmpty_iff, ← List.length_eq_zero_iff, h1, Array.length_toList]
          rw [e1, e2, ← Array.all_toList, ← cw.all (fun n => decide (n ≥ last)) hr]
        have ME : (es.filter fun e => !seen.toArray.contains e.born).toList = es.toList.filter fun e => !seen.contains e.born := by
          rw [Array.toList_filter]; simp
        have hl := cw.filter (fun n => !seen.contains n) hr
        have ho := cw.filter (fun n => decide (n < since)) hl
        have hw := cw.filter (fun n => decide (n ≥ since)) hl
        have Rx := ho.append hw
        obtain ⟨L, hL⟩ : ∃ L, L = es.filter fun e => !seen.toArray.contains e.born := ⟨_, rfl⟩
        have hO : (L.filter fun e => decide (e.born < since)).toList = (es.toList.filter fun e => !seen.contains e.born).filter fun e => decide (e.born < since) := by rw [Array.toList_filter, hL, ME]
        have hN : (L.filter fun e => decide (e.born ≥ since)).toList = (es.toList.filter fun e => !seen.contains e.born).filter fun e => decide (e.born ≥ since) := by rw [Array.toList_filter, hL, ME]
        rw [← hO] at ho
        rw [← hO, ← hN] at Rx
        generalize YB : L.filter (fun e => decide (e.born < since)) = O at ho Rx
        generalize YC : L.filter (fun e => decide (e.born ≥ since)) = N at Rx
        have U4 : O.isEmpty = (sw bf seen since).isEmpty := by
          have h1 := ho.1
          rw [Bool.eq_iff_iff, Array.isEmpty_iff_size_eq_zero, List.isEmpty_iff, ← List.length_eq_zero_iff, ← Array.length_toList, ← h1]; rfl
        have Ry : 0 < ((if O.isEmpty then #[none] else #[]) ++ (O ++ N).map some : Array (Option MapEntry)).size := by
          by_cases Gw : O.isEmpty = true
          · rw [if_pos Gw]; simp; omega
          · rw [if_neg Gw]
            have : O.size ≠ 0 := fun h => Gw (Array.isEmpty_iff_size_eq_zero.2 h)
            simp; omega
        obtain ⟨i, w1, Xo, MB, QK⟩ := sy (P := P) (w := w) Ry
        obtain ⟨s1, v1, nw⟩ := hs.NO QK
        have cH : ∀ {R}, (match ((if O.isEmpty then #[none] else #[]) ++ (O ++ N).map some : Array (Option MapEntry))[i]? with
            | some (some e) => do setObj g (.mapIter (some gm) since (seen.toArray.push e.born) clock); pure (Value.tuple #[.bool true, e.key, e.val])
            | some none => (pure (Value.tuple #[.bool false]) : Sem Value)
            | none => stuck "Next: no such candidate").run P w1 = R → (Instr.next (.pointer (some ⟨g, 0, none⟩)) false ty).run P w = R := fun hR => by
          rw [← hR]
          simp only [Instr.next,Sem.run_bind,eU,Result.andThen_ok,b8 UQ,NP,Bool.false_eq_true,if_false,← hL,YB,YC,Xo]
          rfl
        have hci := Array.getElem?_eq_getElem MB
        by_cases hY : i < (if O.isEmpty then #[none] else #[] : Array (Option MapEntry)).size
        · have Gw : O.isEmpty = true := by
            by_cases Gw : O.isEmpty = true
            · exact Gw
            · rw [if_neg Gw] at hY; simp at hY
          rw [if_pos Gw] at hY
          have J4 : i = 0 := by simp at hY; omega
          subst J4
          have hold : sw bf seen since = [] := by rw [U4] at Gw; exact List.isEmpty_iff.1 Gw
          refine ⟨_, w1, _, cH (R := Result.ok (Value.tuple #[.bool false]) w1) ?_, s1.put dst (.bt _ _ _ rfl fun i c y hc hy => ?_), v1, Rw hold⟩
          · rw [if_pos Gw, Array.getElem?_append_left (by simp)]; rfl
          · match i with
            | 0 => simp at hc hy; subst hc; subst hy; exact .sc _ _
            | i + 1 => simp at hc
        · obtain ⟨j, hj, U5⟩ : ∃ j, j < (O ++ N).size ∧ ((if O.isEmpty then #[none] else #[]) ++ (O ++ N).map some : Array (Option MapEntry))[i]? = some (some ((O ++ N)[j]!)) := by
            refine ⟨i - (if O.isEmpty then #[none] else #[] : Array (Option MapEntry)).size, ?_, ?_⟩
            · have := MB; simp only [Array.size_append,Array.size_map] at this ⊢; omega
            · rw [Array.getElem?_append_right (by omega), Array.getElem?_map]
              have aF : i - (if O.isEmpty then #[none] else #[] : Array (Option MapEntry)).size < (O ++ N).size := by have := MB; simp only [Array.size_append,Array.size_map] at this ⊢; omega
              rw [Array.getElem?_eq_getElem aF, getElem!_pos (O ++ N) _ aF]; rfl
          rw [getElem!_pos (O ++ N) _ hj] at U5
          obtain ⟨kb, dr⟩ : ∃ kb, (sw bf seen since ++ Gu bf seen since)[j]? = some kb := ⟨_, List.getElem?_eq_getElem (by have h1 := Rx.1; simp only [List.length_append,Array.length_toList] at h1; simp only [List.length_append]; simp only [Array.size_append] at hj; exact Nat.lt_of_lt_of_eq hj h1.symm)⟩
          obtain ⟨en, YD, p1, p2, p3⟩ := Rx.get dr
          have U6 : (O ++ N)[j] = en := by
            have : (O ++ N).toList[j]? = some en := by rw [Array.toList_append]; exact YD
            rw [Array.getElem?_toList, Array.getElem?_eq_getElem hj] at this
            simpa using this
          rw [U6] at U5
          have QL : w1.heap[g]? = some (.mapIter (some gm) since seen.toArray last) := by rw [nw]; exact hh
          have nY : iA E { w1 with heap := w1.heap.setIfInBounds g (.mapIter (some gm) since (seen.toArray.push en.born) clock) } b (.ed m since (seen ++ [kb.2.1]) clock) := by
            refine ⟨g, gm, 0, 0, hb, JA, ?_, hf⟩
            rw [heap_set QL, p2]; simp
          obtain ⟨q1, q2⟩ := s1.yl hB rfl (B' := .ed m since (seen ++ [kb.2.1]) clock) rfl hb hf lD nY
          refine ⟨.tuple #[.bool true, en.key, en.val], _, _, cH ?_, q1.put dst (Ep p1 p3), v1.trans q2, bn kb (List.mem_of_getElem? dr)⟩
          rw [U5]
          have := dD (P := P) (o' := .mapIter (some gm) since (seen.toArray.push en.born) clock) QL (by simp)
          dsimp only
          rw [Sem.run_bind, this]; rfl
      · exact h.elim
    · rename_i s pos hB
      obtain ⟨rfl, sA⟩ := h
      obtain ⟨g, hb, hh, hf⟩ := hs.mem b _ hB
      cases hi with
      | ptr _ _ _ g' e' c' eO =>
      rw [hb] at eO; cases eO
      have eU : (getObj g).run P w = .ok (.stringIter s pos) w := by simp [getObj, Sem.run, hh]
      split at sA
      · rename_i aF
        obtain ⟨q1, q2⟩ := hs.yl hB rfl (B' := .gZ s (pos + (Utf8.decode s pos).2)) rfl hb hf (lD (o := .stringIter s (pos + (Utf8.decode s pos).2))) ⟨g, hb, heap_set hh, hf⟩
        refine ⟨.tuple #[.bool true, goInt pos, .int .i32 (Utf8.decode s pos).1], _, _, ?_, q1.put dst (.bt _ _ _ rfl fun i c y hc hy => ?_), q2, sA⟩
        · have := dD (P := P) (o' := .stringIter s (pos + (Utf8.decode s pos).2)) hh (by simp)
          simp [Instr.next, eU, aF, this]
        · match i with
          | 0 => simp at hc hy; subst hc; subst hy; exact .sc _ _
          | 1 => simp at hc hy; subst hc; subst hy; exact .sc _ _
          | 2 => simp at hc hy; subst hc; subst hy; exact .sc _ _
          | i + 3 => simp at hc
      · rename_i aF
        refine ⟨.tuple #[.bool false], w, _, by simp [Instr.next, eU, aF], hs.put dst (.bt _ _ _ rfl fun i c y hc hy => ?_), dk.refl _ _, sA⟩
        match i with
        | 0 => simp at hc hy; subst hc; subst hy; exact .sc _ _
        | i + 1 => simp at hc
    · rename_i hB
      obtain ⟨rfl, sA⟩ := h
      obtain ⟨g, hb, hh, hf⟩ := hs.mem b _ hB
      cases hi with
      | ptr _ _ _ g' e' c' eO =>
      rw [hb] at eO; cases eO
      have eU : (getObj g).run P w = .ok (.mapIter none 0 #[] 0) w := by simp [getObj, Sem.run, hh]
      refine ⟨.tuple #[.bool false], w, _, by simp [Instr.next, eU], hs.put dst (.bt _ _ _ rfl fun i c y hc hy => ?_), dk.refl _ _, sA⟩
      match i with
      | 0 => simp at hc hy; subst hc; subst hy; exact .sc _ _
      | i + 1 => simp at hc
    · exact h.elim
  · exact h.elim

def jI (P : Program) (mem : List au) (T : TypeId) (x : V) : Option au :=
  match x with
  | .mp b => match mem[b]? with
    | some (.map _ clock) => match cN P T with | some _ => some (.ed b clock [] clock) | none => none
    | _ => none
  | .sc (.map none) => match cN P T with | some _ => some .iz | none => none
  | .sc (.string s) => match P.underlying T with | some .string => some (.gZ s 0) | _ => none
  | _ => none
theorem CZ {E : Env} {w : World} {a : Act} {st : St} (hs : aV E w a st) (o : Nat) : E.F ⟨w.heap.size, o, none⟩ = none := by
  cases hx : E.F ⟨w.heap.size, o, none⟩ with
  | none => rfl
  | some x => have := World.block_lt_of_cell? w _ (hs.F _ _ hx); simp at this
theorem aV.newObj {E : Env} {w : World} {a : Act} {st : St} (hs : aV E w a st) {key : Nat} (hk : dE st.mem key) {obj : Obj} {B : au} (hv : B.ay = 0) (hB : iA (E.with key 0 (w.heap.size, 0, 0)) (w.alloc obj) key B) :
    ∃ E', aV E' (w.alloc obj) a { st with mem := aX st.mem key B } ∧ dk E w E' (w.alloc obj) ∧ E'.aG key 0 = some (w.heap.size, 0, 0) := by
  have := hs.new (obj := obj) (B := B) (e := 0) (c := 0) hk hv hB
  exact ⟨_, this.1, this.2, if_pos ⟨rfl, rfl⟩⟩
theorem sB {P : Program} {E : Env} {w : World} {a : Act} {st : St} (hs : aV E w a st) {key : Nat} (hk : dE st.mem key) {T : TypeId} {x : V} {y : Value} {B : au} (hx : aT E x y) (h : jI P st.mem T x = some B) :
    ∃ E' w', (Instr.range T y).run P w = .ok (.pointer (some ⟨w.heap.size, 0, none⟩)) w' ∧ aV E' w' a { st with mem := aX st.mem key B } ∧ dk E w E' w' ∧ aT E' (.ptr key 0) (.pointer (some ⟨w.heap.size, 0, none⟩)) := by
  have bX : (E.with key 0 (w.heap.size, 0, 0)).aG key 0 = some (w.heap.size, 0, 0) := if_pos ⟨rfl, rfl⟩
  unfold jI at h
  split at h
  · rename_i b
    split at h
    · rename_i bf clock hB
      split at h
      · rename_i p hp
        cases h
        obtain ⟨kt, et⟩ := p
        have hd := ff hp
        obtain ⟨g, e, c, rfl, hb⟩ := nn hx
        obtain ⟨es, hh, hr, -⟩ := gw hs hB hb
        have bD : b ≠ key := fun e => by subst e; rw [hs.free hk 0] at hb; cases hb
        obtain ⟨E', h1, h2, h3⟩ := hs.newObj hk (obj := .mapIter (some g) clock #[] clock) (B := .ed b clock [] clock) rfl ⟨w.heap.size, g, e, c, bX, (if_neg fun h => bD h.1).trans hb, heap_alloc_new w _, fun o => CZ (E := E) hs o⟩
        exact ⟨E', _, by simp [Instr.range, ao hd, b8 hh, newObj, Sem.run], h1, h2, .ptr _ _ _ _ 0 0 h3⟩
      · cases h
    · cases h
  · obtain rfl := mg hx
    split at h
    · rename_i p hp
      cases h
      obtain ⟨kt, et⟩ := p
      have hd := ff hp
      obtain ⟨E', h1, h2, h3⟩ := hs.newObj hk (obj := .mapIter none 0 #[] 0) (B := .iz) rfl ⟨w.heap.size, bX, heap_alloc_new w _, fun o => CZ (E := E) hs o⟩
      exact ⟨E', _, by simp [Instr.range, ao hd, newObj, Sem.run], h1, h2, .ptr _ _ _ _ 0 0 h3⟩
    · cases h
  · rename_i s
    obtain rfl := mg hx
    split at h
    · rename_i hd
      cases h
      obtain ⟨E', h1, h2, h3⟩ := hs.newObj hk (obj := .stringIter s 0) (B := .gZ s 0) rfl ⟨w.heap.size, bX, heap_alloc_new w _, fun o => CZ (E := E) hs o⟩
      exact ⟨E', _, by simp [Instr.range, ao hd, newObj, Sem.run], h1, h2, .ptr _ _ _ _ 0 0 h3⟩
    · cases h
  · cases h
theorem uD {P : Program} {E : Env} {w : World} {a : Act} {st : St} (hs : aV E w a st) {key : Nat} (hk : dE st.mem key) (T : TypeId) :
    ∃ E' w', (Instr.makeMap T none).run P w = .ok (.map (some w.heap.size)) w' ∧ aV E' w' a { st with mem := aX st.mem key (.map [] 0) } ∧ dk E w E' w' ∧ aT E' (.mp key) (.map (some w.heap.size)) := by
  have bX : (E.with key 0 (w.heap.size, 0, 0)).aG key 0 = some (w.heap.size, 0, 0) := if_pos ⟨rfl, rfl⟩
  obtain ⟨E', h1, h2, h3⟩ := hs.newObj hk (obj := .map #[] 0) (B := .map [] 0) rfl ⟨w.heap.size, #[], bX, heap_alloc_new w _, ⟨rfl, fun i k e h => by simp at h⟩, fun o => CZ (E := E) hs o⟩
  exact ⟨E', _, by simp [Instr.makeMap, newObj, Sem.run], h1, h2, .mp _ _ _ 0 0 h3⟩
def rM (i : Ti) : V := if i.agg = true then .agg (i.zero.map fun z => jb (.sc z)) else match i.zero with | z :: _ => jb (.sc z) | [] => .undef
def qF (tt : Table) (T : TypeId) (l c : V) : Option (Nat × List V × Nat) :=
  match l, c with
  | .sc (.int _ l), .sc (.int _ c) => match dA tt T with
    | some e => match tt e with
      | some i => if 0 ≤ l ∧ l ≤ c ∧ i.bytes * c ≤ 281474976710656 ∧ c ≤ 1152921504606846976 ∧ 0 < i.size ∧ i.zero.length = i.size ∧ i.zero.all Value.oneCell' = true ∧ (i.agg = true ∨ i.size = 1) then some (i.size, List.replicate l.toNat (rM i), c.toNat) else none
      | none => none
    | none => none
  | _, _ => none
theorem uE {i : Ti} (h : i.agg = true ∨ i.size = 1) (hz : i.zero.length = i.size) : (rM i).cells = i.zero.map fun z => jb (.sc z) := by
  unfold rM
  split
  · rfl
  · rename_i hn
    have h1 : i.size = 1 := by rcases h with h | h
                               · exact absurd h hn
                               · exact h
    match Rz : i.zero with
    | [] => rw [Rz] at hz; simp at hz; omega
    | [z] => simp only [List.map_cons,List.map_nil]; unfold jb; split <;> rfl
    | _ :: _ :: _ => rw [Rz] at hz; simp at hz; omega
theorem yv {P : Program} {tt : Table} (ht : TT P tt) {E : Env} {w : World} {a : Act} {st : St} (hs : aV E w a st) {key : Nat} (hk : dE st.mem key) {T : TypeId} {l c : V} {x y : Value} {size cap : Nat} {rs : List V} (hl : aT E l x) (hc : aT E c y)
    (h : qF tt T l c = some (size, rs, cap)) :
    ∃ E' w', (Instr.makeSlice T x y).run P w = .ok (.slice (some ⟨w.heap.size, 0, none⟩) rs.length cap) w' ∧ aV E' w' a { st with mem := aX st.mem key (.rows 0 size rs) } ∧ dk E w E' w' ∧ aT E' (.ms key 0 0 rs.length) (.slice (some ⟨w.heap.size, 0, none⟩) rs.length cap) := by
  unfold qF at h
  split at h
  · rename_i k1 l k2 c
    obtain rfl := mg hl
    obtain rfl := mg hc
    unfold dA at h
    cases hT : tt T with
    | none => rw [hT] at h; simp at h
    | some iT =>
      rw [hT] at h; simp only at h
      cases he : iT.elem with
      | none => rw [he] at h; simp at h
      | some e =>
        rw [he] at h; simp only at h
        cases hE : tt e with
        | none => rw [hE] at h; simp at h
        | some i =>
          rw [hE] at h; simp only at h
          split at h
          · rename_i oo
            obtain ⟨h0, h1, hb, sC, iF, El, kj, J5⟩ := oo
            cases h
            obtain ⟨d, hd, -, hZ, -⟩ := ht.desc T iT hT
            obtain rfl := hZ e he
            obtain ⟨info, qC, MA, Rs, z, hz, Rz⟩ := ht.size e i hE
            have J1 : z.cells.size = i.size := by rw [← El, ← Rz]; simp
            have YE : IntKind.i64.wrap l = l := by rw [IntWalk.i64_in _ (by omega)]
            have YF : IntKind.i64.wrap c = c := by rw [IntWalk.i64_in _ (by omega)]
            obtain ⟨xs, na⟩ : ∃ xs : Array Value, xs = (Array.range (c.toNat * i.size)).map (z.cells[· % z.cells.size]!) := ⟨_, rfl⟩
            have cH : (Instr.makeSlice T (.int k1 l) (.int k2 c)).run P w = .ok (.slice (some ⟨w.heap.size, 0, none⟩) l.toNat c.toNat) (w.alloc (.cells xs e (0, 0))) := by
              have e0 : (decide (c < 0) || decide ((info.bytes : Int) * c > 2 ^ 48)) = false := by
                rw [Rs]
                simp only [Bool.or_eq_false_iff,decide_eq_false_iff_not]
                exact ⟨by omega, by omega⟩
              have e1 : (decide (l < 0)) = false := by simp; omega
              have e2 : (decide (l > c)) = false := by simp; omega
              have RA : (zeroValue e).run P (w) = .ok z w := by simp [zeroValue, cD qC, hz]
              simp only [Instr.makeSlice,Sem.run_bind,ao hd,Result.andThen_ok,asInt,asIntOf,Sem.run_pure,cD qC,YE,YF,e0,e1,e2,Bool.or_self,Bool.false_eq_true,if_false,run_askRoom,c5 qC,MA]
              by_cases hn : c.toNat * i.size = 0
              · have Az : xs = #[] := by rw [na, hn]; simp
                have NL : ∀ f : Nat → Value, Array.map f (Array.range 0) = #[] := fun f => Array.eq_empty_of_size_eq_zero (by simp)
                simp only [hn,if_true,Sem.run_pure,Result.andThen_ok,NL,Az]
                rfl
              · simp only [hn,if_false,Sem.run_bind,RA,Result.andThen_ok,Sem.run_pure]
                simp [newRow, na]
            obtain ⟨E', g1, g2, g3⟩ := hs.oi hk (xs := xs) (rs := List.replicate l.toNat (rM i)) (e := i.size) (c := c.toNat) e (by rw [na]; simp) (by simp; omega) (fun q row hq => by
              rw [List.getElem?_replicate] at hq
              split at hq
              · rename_i Rv
                cases hq
                have lC := uE J5 El
                refine ⟨by rw [lC]; simpa using El, fun j cc hj => ?_⟩
                rw [lC, List.getElem?_map, Option.map_eq_some_iff] at hj
                obtain ⟨v, hv, rfl⟩ := hj
                have qw : j < i.size := by rw [← El]; exact (List.getElem?_eq_some_iff.1 hv).1
                have aF : q * i.size + j < c.toNat * i.size := by
                  have : (q + 1) * i.size ≤ c.toNat * i.size := Nat.mul_le_mul_right _ (by omega)
                  rw [Nat.succ_mul] at this; omega
                have U7 : (q * i.size + j) % i.size = j := by rw [Nat.add_comm, Nat.add_mul_mod_self_right, Nat.mod_eq_of_lt qw]
                refine ⟨v, ?_, List.all_eq_true.1 kj v (List.mem_of_getElem? hv), oq (.sc _ _)⟩
                rw [na]
                have Xp : z.cells[j]? = some v := by rw [← Array.getElem?_toList, Rz]; exact hv
                have Xq : j < z.cells.size := by omega
                simp only [Array.getElem?_map,Array.getElem?_range,aF,if_true,Option.map_some,J1,U7]
                rw [getElem!_pos z.cells j Xq]
                rw [Array.getElem?_eq_getElem Xq] at Xp
                exact Xp
              · cases hq)
            refine ⟨E', _, ?_, g1, g2, ?_⟩
            · simpa using cH
            · simpa using g3
          · cases h
  · cases h
end Go.Eng
end

section
namespace Go.Eng
variable [aE]
open Go.RowKit (Below)
def jj (tt : Table) (mem : List au) (ts : List TypeId) (s x : V) : Option (Nat × Nat × Nat × Nat × List V × List V) :=
 match s with
 | .ms b v o l => match mem[b]? with
  | some (.rows v' eb rs) => match ts with
   | [t, u] => match dA tt t with
    | some e => match dA tt u with
     | some _ => match tt e with
      | some i =>
       if v' = v ∧ eb = i.size ∧ o + l = rs.length ∧ 0 < i.size ∧ i.bytes ≤ 4096 ∧ i.zero.length = i.size then
        match rowsOf mem i.size x with
        | some xs => if l + xs.length ≤ 34359738368 then some (i.size, b, v, l, rs.drop o, xs) else none
        | none => none
       else none
      | none => none
     | none => none
    | none => none
   | _ => none
  | _ => none
 | _ => none
theorem uF {P : Program} {tt : Table} (ht : TT P tt) {E : Env} {w : World} {a : Act} {st : St} (hs : aV E w a st) {ts : Array TypeId} {ty : TypeId} {s x : V} {y z : Value} {size b v l : Nat} {Ud xs : List V}
  (CU : aT E s y) (Gh : aT E x z) (h : jj tt st.mem ts.toList s x = some (size, b, v, l, Ud, xs)) :
  ∃ u w' E' o' rs', (Builtin.append_ ts ty #[y, z]).run P w = .ok u w' ∧ rs'.drop o' = Ud ++ xs ∧ o' + (l + xs.length) = rs'.length ∧ aV E' w' a { st with mem := st.mem.set b (.rows (v + 1) size rs') } ∧ dk E w E' w' ∧ aT E' (.ms b (v + 1) o' (l + xs.length)) u := by
 unfold jj at h
 split at h
 ·rename_i b1 v1 o l1
  split at h
  ·rename_i v' eb rs hm
   split at h
   ·rename_i t u UZ
    obtain rfl : ts = #[t, u] := by rw [← Array.toArray_toList (xs := ts), UZ]
    split at h
    ·rename_i e he
     split at h
     ·rename_i e' QJ
      split at h
      ·rename_i i hE
       split at h
       ·rename_i hc
        obtain ⟨rfl, rfl, NQ, iF, ss, El⟩ := hc
        split at h
        ·rename_i n5 na
         split at h
         ·rename_i hlen
          simp only [Option.some.injEq,Prod.mk.injEq] at h
          obtain ⟨rfl, rfl, rfl, rfl, rfl, rfl⟩ := h
          have Xr : ∀ {t e : TypeId}, dA tt t = some e → P.underlying t = some (.slice e) := fun {t e} he => by
           unfold dA at he
           split at he
           ·rename_i iu hU
            obtain ⟨d, hd, -, hZ, -⟩ := ht.desc t iu hU
            rw [hd, hZ e he]
           ·simp at he
          have hd := Xr he
          have CV := Xr QJ
          obtain ⟨info, qC, MA, Rs, z0, NK, Gk⟩ := ht.size e i hE
          have J1 : z0.cells.size = info.size := by rw [MA, ← El, ← Gk]; simp
          rw [← MA] at na iF hm ⊢
          rw [← Rs] at ss
          have AE : aV E w.drew a st := hs.drew
          obtain ⟨xa, xc, rfl, Yu, xA, uA, AF⟩ := dF (P := P) hs Gh na
          obtain ⟨Yv, Yw, heq, -, xB, J2, Gr⟩ := dF (P := P) AE Gh na
          simp only [Value.slice.injEq] at heq
          obtain ⟨rfl, -, rfl⟩ := heq
          have Em : ∀ dP, dP < l1 + n5.length → Builtin.nextslicecap (l1 + n5.length) dP * info.bytes ≤ 281474976710656 := fun dP aF =>
           growslice_fits aF (Nat.le_trans (Nat.mul_le_mul hlen ss) (by decide))
          have F0 : (rs.drop o).length = l1 := by rw [List.length_drop]; omega
          have pC : (rs.drop o ++ n5).length = l1 + n5.length := by rw [List.length_append, F0]
          have dg : ∀ dP, l1 + n5.length ≤ grownCap w (l1 + n5.length) dP e := fun dP => grownCap_ge w (l1 + n5.length) dP e
          have NF : rowsOf st.mem info.size (.ms b1 v' o l1) = some (rs.drop o) := by
           have h1 : o + l1 ≤ rs.length := by omega
           simp [rowsOf, hm, h1]
           rw [List.take_of_length_le (by rw [List.length_drop]; omega)]
          obtain ⟨sa, sc, rfl, fb, A, J3, CX⟩ := dF (P := P) AE CU NF
          rw [F0] at J3 CU ⊢
          have lC : ∀ dP, (A ++ xB ++ Builtin.zeroCells z0.cells (grownCap w (l1 + n5.length) dP e - (l1 + n5.length))).size = grownCap w (l1 + n5.length) dP e * info.size := fun dP => by
           simp only [Array.size_append,size_zeroCells,J1,CX.1,Gr.1,F0,← Nat.add_mul]
           congr 1; have := dg dP; omega
          by_cases ou : l1 + n5.length ≤ sc
          ·rcases wC CU with ⟨QH, nb⟩ | ⟨g, Uc, c, Xn, Yy, nb, hb, hl, Gd, CR⟩
           ·simp only [Value.slice.injEq] at nb
            obtain ⟨rfl, U1, rfl⟩ := nb
            have Az : n5 = [] := List.length_eq_zero_iff.1 (by omega)
            subst Az
            have MF : l1 = 0 := by omega
            subst MF
            have NL : rs.drop o = [] := List.length_eq_zero_iff.1 F0
            rw [NL]
            exact ⟨_, w, E, 0, [], ef (ty := ty) hd CV qC xc xa xA uA, rfl, rfl, hs.yp hm, dk.refl E w, .cZ _ _ _ _⟩
           ·simp only [Value.slice.injEq] at nb
            obtain ⟨rfl, -, rfl⟩ := nb
            obtain ⟨Xo, MB, QK⟩ := CR
            rcases hs.mem b1 _ hm with ⟨-, hn⟩ | ⟨g', T', cur, c', eO, hh, uj, kf, uk, hf⟩
            ·rw [hb] at hn; cases hn
            rw [hb] at eO; cases eO
            by_cases U8 : sc = 0
            ·-- nothing at all
             have Az : n5 = [] := List.length_eq_zero_iff.1 (by omega)
             subst Az
             have MF : l1 = 0 := by omega
             subst MF
             subst U8
             have NL : rs.drop o = [] := List.length_eq_zero_iff.1 F0
             have cH : (Builtin.append_ #[t, u] ty #[.slice sa 0 0, .slice xa 0 xc]).run P w = .ok (.slice sa 0 0) w := by
              cases sa with
              | none => exact ef (ty := ty) hd CV qC xc xa xA uA
              | some ad =>
               have YG : xA.toList = [] := by
                have := AF.1
                simp at this
                simpa using this
               have YH : (Builtin.firstCells info.size 0 (.slice xa 0 xc)).run P w = .ok xA w := uA
               simp [Builtin.append_, ao hd, ao CV, c5 qC, Builtin.lenOf, YH, YG, storeCells]
             have hle : E.le (E.with b1 (v' + 1) (g, info.size, c)) := Env.gx (hs.ay b1 _ hm _ (Nat.lt_succ_self v')) _
             have bX : (E.with b1 (v' + 1) (g, info.size, c)).aG b1 (v' + 1) = some (g, info.size, c) := if_pos ⟨rfl, rfl⟩
             refine ⟨_, w, E.with b1 (v' + 1) (g, info.size, c), o, rs, cH, by simp [NL], by omega, hs.renew hm hs.F (Nat.le_refl _) (hs.lt _ _ _ _ _ hb) (fun k B' dr eQ MC g' e' c' eV => ⟨rfl, fun e => by subst e; exact dr (hs.apart _ _ _ _ _ _ _ _ _ eV hb)⟩) ?_ (fun k v2 e2 c2 h => hs.apart _ _ _ _ _ _ _ _ _ h hb),
              ⟨hle, fun k q g' e' c' dr => ?_, fun ad y hy => .inl hy, rfl, rfl, rfl, Nat.le_refl _, fun _ _ _ => rfl⟩, ?_⟩
             ·exact .inr ⟨g, T', cur, c, bX, hh, uj, kf, fun q row hq => let ⟨h3, h4⟩ := uk q row hq; ⟨h3, fun j cc hj => let ⟨v, hv, AB, En⟩ := h4 j cc hj; ⟨v, hv, AB, En.mono (Env.fC hle)⟩⟩, hf⟩
             ·by_cases hq : k = b1 ∧ q = v' + 1
              ·obtain ⟨rfl, rfl⟩ := hq; rw [bX] at dr; cases dr; exact .inl ⟨_, _, _, _, hb⟩
              ·have : (E.with b1 (v' + 1) (g, info.size, c)).aG k q = E.aG k q := if_neg hq
               rw [this] at dr; exact .inl ⟨_, _, _, _, dr⟩
             ·exact .ms _ _ _ _ _ g info.size c _ _ bX (fun h => absurd h (by simp)) (fun h => Gd h) ⟨by simp, MB, fun h => absurd h (Nat.lt_irrefl _)⟩
            ·obtain rfl := QK (by omega)
             have su : rs.length * info.size + xA.toList.length ≤ cur.size := by
              have := AF.1
              simp only [Array.length_toList]
              rw [this, uj, ← Nat.add_mul]; exact Nat.mul_le_mul_right _ (by omega)
             obtain ⟨w', lq, JB, wD⟩ := fg (P := P) (g := g) (T := T') (rs.length * info.size) xA.toList 0 w cur hh (by simpa using su) (qD iF AF)
             have cH : (Builtin.append_ #[t, u] ty #[.slice (some ⟨g, o * info.size, none⟩) l1 sc, .slice xa n5.length xc]).run P w = .ok (.slice (some ⟨g, o * info.size, none⟩) (l1 + n5.length) sc) w' := by
              have NR : (storeCells (Addr.add ⟨g, o * info.size, none⟩ (l1 * info.size)) xA.toList).run P w = .ok () w' := by
               rw [add_lit, ← Nat.add_mul, NQ]; exact lq
              simp [Builtin.append_, ao hd, ao CV, c5 qC, Builtin.lenOf, ou, uA, NR]
             have hle : E.le (E.with b1 (v' + 1) (g, info.size, c)) := Env.gx (hs.ay b1 _ hm _ (Nat.lt_succ_self v')) _
             have bX : (E.with b1 (v' + 1) (g, info.size, c)).aG b1 (v' + 1) = some (g, info.size, c) := if_pos ⟨rfl, rfl⟩
             refine ⟨_, w', E.with b1 (v' + 1) (g, info.size, c), o, rs ++ n5, cH, by rw [List.drop_append_of_le_length (by omega)], by rw [List.length_append]; omega, hs.renew hm (fun ad y hy => ?_) (by rw [wD.size]; exact Nat.le_refl _) (by rw [wD.size]; exact hs.lt _ _ _ _ _ hb) (fun k B' dr eQ MC g' e' c' eV => ?_) ?_ (fun k v2 e2 c2 h => hs.apart _ _ _ _ _ _ _ _ _ h hb),
              ⟨hle, fun k q g' e' c' dr => ?_, fun ad y hy => .inl hy, wD.os, wD.tape, wD.output, by rw [wD.size]; exact Nat.le_refl _, fun b' eO bD => wD.heap b' fun e => by subst e; exact bD _ _ _ _ hb⟩, ?_⟩
             ·have bD := hs.wv hf hy
              rw [← hs.F ad y hy]; simp [World.cell?, wD.heap _ bD]
             ·have Ru : g' ≠ g := fun e => by
               subst e
               exact dr (hs.apart _ _ _ _ _ _ _ _ _ eV hb)
              exact ⟨wD.heap _ Ru, Ru⟩
             ·refine .inr ⟨g, T', _, c, bX, JB, by rw [fG]; exact uj, by rw [List.length_append]; omega, ?_, hf⟩
              intro q row hq
              simp only [Nat.add_zero]
              have yq : xA.toList.length = n5.length * info.size := by simpa using AF.1
              rw [List.getElem?_append] at hq
              split at hq
              ·rename_i aF
               obtain ⟨h3, h4⟩ := uk q row hq
               refine ⟨h3, fun j cc hj => ?_⟩
               obtain ⟨v, hv, AB, En⟩ := h4 j cc hj
               have qw : j < info.size := by rw [← h3]; exact (List.getElem?_eq_some_iff.1 hj).1
               refine ⟨v, ?_, AB, En⟩
               rw [ep _ _ _ _ su, if_neg (by have := sn aF qw; omega)]
               exact hv
              ·rename_i U3
               obtain ⟨h3, h4⟩ := AF.2 _ row hq
               refine ⟨h3, fun j cc hj => ?_⟩
               obtain ⟨v, hv, AB, En⟩ := h4 j cc hj
               have qw : j < info.size := by rw [← h3]; exact (List.getElem?_eq_some_iff.1 hj).1
               have Rv : q - rs.length < n5.length := (List.getElem?_eq_some_iff.1 hq).1
               have hmul : q * info.size = rs.length * info.size + (q - rs.length) * info.size := by rw [← Nat.add_mul]; congr 1; omega
               refine ⟨v, ?_, AB, En⟩
               rw [ep _ _ _ _ su, if_pos (by have := sn Rv qw; omega)]
               dsimp only at hv
               rw [← hv, Array.getElem?_toList]
               congr 1; omega
             ·by_cases hq : k = b1 ∧ q = v' + 1
              ·obtain ⟨rfl, rfl⟩ := hq; rw [bX] at dr; cases dr; exact .inl ⟨_, _, _, _, hb⟩
              ·have : (E.with b1 (v' + 1) (g, info.size, c)).aG k q = E.aG k q := if_neg hq
               rw [this] at dr; exact .inl ⟨_, _, _, _, dr⟩
             ·exact .ms _ _ _ _ _ g info.size c _ _ bX (fun _ => rfl) (fun h => Gd h) ⟨ou, MB, fun _ => rfl⟩
          ·-- a new block
           have aF : sc < l1 + n5.length := by omega
           have cH := fI (ty := ty) hd CV qC NK sa l1 sc n5.length xc xa A xB J3 J2 aF (by omega) (Em sc aF)
           have hle : E.le (E.with b1 (v' + 1) (w.heap.size, info.size, grownCap w (l1 + n5.length) sc e)) := Env.gx (hs.ay b1 _ hm _ (Nat.lt_succ_self v')) _
           have bX : (E.with b1 (v' + 1) (w.heap.size, info.size, grownCap w (l1 + n5.length) sc e)).aG b1 (v' + 1) = some (w.heap.size, info.size, grownCap w (l1 + n5.length) sc e) := if_pos ⟨rfl, rfl⟩
           refine ⟨_, _, E.with b1 (v' + 1) (w.heap.size, info.size, grownCap w (l1 + n5.length) sc e), 0, rs.drop o ++ n5, cH, rfl, by rw [pC]; omega, hs.renew hm (fun ad y hy => ?_) (by simp) (by simp) (fun k B' dr eQ MC g' e' c' eV => ?_) ?_ (fun k v2 e2 c2 h => absurd (hs.lt _ _ _ _ _ h) (Nat.lt_irrefl _)),
            ⟨hle, fun k q g' e' c' dr => ?_, fun ad y hy => .inl hy, rfl, rfl, rfl, by simp, fun b' eO bD => Go.RowKit.Below.heap_alloc w.drew _ b' eO⟩, ?_⟩
           ·rw [World.cell?_alloc_lt w.drew _ ad (World.block_lt_of_cell? w ad (hs.F ad y hy))]; exact hs.F ad y hy
           ·have := hs.lt _ _ _ _ _ eV
            exact ⟨Go.RowKit.Below.heap_alloc w.drew _ g' this, by omega⟩
           ·refine .inr ⟨w.heap.size, e, _, _, bX, heap_alloc_new w.drew _, lC sc, by rw [pC]; exact dg sc, ?_, fun o => ?_⟩
            ·intro q row hq
             obtain ⟨h3, h4⟩ := gy (C := Builtin.zeroCells z0.cells (grownCap w (l1 + n5.length) sc e - (l1 + n5.length))) CX Gr q row hq
             exact ⟨h3, fun j cc hj => let ⟨v, hv, AB, En⟩ := h4 j cc hj; ⟨v, hv, AB, En.mono (Env.fC hle)⟩⟩
            ·show E.F _ = none
             cases hx : E.F ⟨w.heap.size, o, none⟩ with
             | none => rfl
             | some x => have := World.block_lt_of_cell? w _ (hs.F _ _ hx); simp at this
           ·by_cases hq : k = b1 ∧ q = v' + 1
            ·obtain ⟨rfl, rfl⟩ := hq; rw [bX] at dr; cases dr; exact .inr (Nat.le_refl _)
            ·have : (E.with b1 (v' + 1) (w.heap.size, info.size, grownCap w (l1 + n5.length) sc e)).aG k q = E.aG k q := if_neg hq
             rw [this] at dr; exact .inl ⟨_, _, _, _, dr⟩
           ·exact .ms _ _ _ _ _ w.heap.size info.size _ _ _ bX (fun _ => by simp) (fun _ => ⟨rfl, rfl⟩) ⟨dg sc, Nat.zero_add _, fun _ => by simp⟩
         ·simp at h
        ·simp at h
       ·simp at h
      ·simp at h
     ·simp at h
    ·simp at h
   ·simp at h
  ·simp at h
 ·simp at h
end Go.Eng
end

section
namespace Go.Eng
variable [aE]
open Go.RowKit (Below)

def bz (mem : List au) : V → Option V
  | .undef => some .undef
  | .sc v => some (jb (.sc v))
  | .slice rows => some (.slice rows)
  | .full rows => some (.slice rows)
  | .cg cs => some (.cg cs)
  | .gn => some .gn
  | .ms b v s l => match mem[b]? with
    | some (.rows v' _ rs) => if v' = v ∧ s + l ≤ rs.length then some (.slice ((rs.drop s).take l)) else none
    | some (.mO v' _ rs) => if v' = v ∧ s + l ≤ rs.length then some (.slice ((rs.drop s).take l)) else none
    | _ => none
  | .fU f [] [] => some (.sc (.func f #[] #[]))
  | _ => none
def c8 (mem : List au) : List V → Option (List V)
  | [] => some []
  | c :: r => match bz mem c with
    | some c' => match c8 mem r with | some r' => some (c' :: r') | none => none
    | none => none
def er (mem : List au) : V → Option V
  | .agg cs => match c8 mem cs with | some l => some (.agg l) | none => none
  | v => bz mem v
def cj (mem : List au) : List V → Option (List V)
  | [] => some []
  | c :: r => match er mem c with
    | some c' => match cj mem r with | some r' => some (c' :: r') | none => none
    | none => none
def MG (mem : List au) : V → Option V
  | .bt vs => match cj mem vs with | some l => some (.bt l) | none => none
  | v => er mem v

def eg : V → List (Nat × Nat)
  | .ms b v _ _ => [(b, v)]
  | _ => []
def ck : V → List (Nat × Nat)
  | .agg cs => cs.flatMap eg
  | v => eg v
def refs : V → List (Nat × Nat)
  | .bt vs => vs.flatMap ck
  | v => ck v

def Env.kg (E : Env) (w : World) (keys : List (Nat × Nat)) : Env :=
  { F := fun ad => match E.F ad with
      | some x => some x
      | none => if keys.any (fun k => match E.aG k.1 k.2 with | some (g, _, _) => g == ad.block | none => false) then w.cell? ad else none
    aG := E.aG
    gl := E.gl.mono fun ad x h => by simp only [h] }
theorem Env.pH (E : Env) (w : World) (keys : List (Nat × Nat)) : E.le (E.kg w keys) := ⟨fun ad x h => by simp [Env.kg, h], fun _ _ _ h => h⟩
theorem Env.C0 {E : Env} {w : World} {keys : List (Nat × Nat)} (hF : ∀ ad x, E.F ad = some x → w.cell? ad = some x) {ad : Addr} {x : Value} (h : (E.kg w keys).F ad = some x) : w.cell? ad = some x := by
  unfold Env.kg at h
  dsimp only at h
  split at h
  · rename_i y hy; cases h; exact hF _ _ hy
  · split at h
    · exact h
    · cases h
theorem Env.wH {E : Env} {w : World} {keys : List (Nat × Nat)} {ad : Addr} {x : Value} (h : (E.kg w keys).F ad = some x) : E.F ad = some x ∨ ∃ k ∈ keys, ∃ e c, E.aG k.1 k.2 = some (ad.block, e, c) := by
  unfold Env.kg at h
  dsimp only at h
  split at h
  · rename_i y hy; cases h; exact .inl hy
  · split at h
    · rename_i NS
      obtain ⟨k, hk, hm⟩ := List.any_eq_true.1 NS
      split at hm
      · rename_i g e c hb
        simp only [beq_iff_eq] at hm; subst hm
        exact .inr ⟨k, hk, e, c, hb⟩
      · cases hm
    · cases h
theorem Env.NT {E : Env} {w : World} {keys : List (Nat × Nat)} {k v g e c : Nat} (hk : (k, v) ∈ keys) (hb : E.aG k v = some (g, e, c)) {o : Nat} {x : Value} (hn : E.F ⟨g, o, none⟩ = none) (hx : w.cell? ⟨g, o, none⟩ = some x) : (E.kg w keys).F ⟨g, o, none⟩ = some x := by
  have : keys.any (fun k => match E.aG k.1 k.2 with | some (g', _, _) => g' == g | none => false) = true := List.any_eq_true.2 ⟨(k, v), hk, by simp [hb]⟩
  unfold Env.kg
  dsimp only
  rw [hn]
  dsimp only
  rw [if_pos this]; exact hx

theorem yw {E : Env} {w : World} {a : Act} {st : St} (hs : aV E w a st) {keys : List (Nat × Nat)} {k v g e c : Nat} (hk : (k, v) ∈ keys) (hb : E.aG k v = some (g, e, c)) {B : au} (hm : st.mem[k]? = some B) {rs : List V} {e' : Nat}
    (hB : B = .rows v e' rs ∨ B = .mO v e' rs) : e' = e ∧ rs.length ≤ c ∧ fF E.pure e rs (fun o => (E.kg w keys).F ⟨g, o, none⟩) := by
  rcases hB with rfl | rfl
  · rcases hs.mem k _ hm with ⟨-, hn⟩ | ⟨g', T, xs, c', eO, hh, kd, hl, hr, hf⟩
    · rw [hb] at hn; cases hn
    · rw [hb] at eO; cases eO
      refine ⟨rfl, hl, fun i row hi => ?_⟩
      obtain ⟨h1, h2⟩ := hr i row hi
      exact ⟨h1, fun j cc hj => let ⟨x, hx, h⟩ := h2 j cc hj; ⟨x, Env.NT hk hb (hf _) (by rw [jf hh]; exact hx), h⟩⟩
  · rcases hs.mem k _ hm with ⟨-, hn⟩ | ⟨g', c', eO, hl, hr⟩
    · rw [hb] at hn; cases hn
    rw [hb] at eO; cases eO
    refine ⟨rfl, hl, fun i row hi => ?_⟩
    obtain ⟨h1, h2⟩ := hr i row hi
    exact ⟨h1, fun j cc hj => let ⟨x, hx, h⟩ := h2 j cc hj; ⟨x, (Env.pH E w keys).F _ _ hx, h⟩⟩

theorem ju {E : Env} {w : World} {a : Act} {st : St} (hs : aV E w a st) {keys : List (Nat × Nat)} {v v' : V} {x : Value} (hr : aT E v x) (h : bz st.mem v = some v') (hk : ∀ k ∈ eg v, k ∈ keys) : aT (E.kg w keys).pure v' x := by
  have hle := Env.fC (Env.pH E w keys)
  have AA : ∀ {b v s l : Nat} {B : au} {rs : List V} {e' : Nat}, aT E (.ms b v s l) x → (b, v) ∈ keys → st.mem[b]? = some B → (B = .rows v e' rs ∨ B = .mO v e' rs) → s + l ≤ rs.length → aT (E.kg w keys).pure (.slice ((rs.drop s).take l)) x := by
    intro b v s l B rs e' hr eV hm hB hl
    have hlen : ((rs.drop s).take l).length = l := by simp; omega
    rcases wC hr with ⟨rfl, rfl⟩ | ⟨g, e, c, aa, cap, rfl, hb, MF, -, NU⟩
    · rw [show (rs.drop s).take 0 = [] from by simp]
      exact .slice _ [] none 0 0 default (fun _ _ => default) (by simp) (by simp) (by simp) (by simp) (by simp) (by simp)
    · obtain ⟨rfl, pC, Rp⟩ := yw hs eV hb hm hB
      have eU : ∀ (i : Nat) (row : V) (j : Nat) (cc : V), ((rs.drop s).take l)[i]? = some row → row.cells[j]? = some cc → ∃ y, (E.kg w keys).F ⟨g, (s + i) * e' + j, none⟩ = some y ∧ y.oneCell' = true ∧ aT E.pure cc y := fun i row j cc hi hj =>
        (Rp _ _ (rL hi)).2 j cc hj
      let xf : Nat → Nat → Value := fun i j => ((E.kg w keys).F ⟨g, (s + i) * e' + j, none⟩).getD default
      have yb : aT (E.kg w keys).pure (.slice ((rs.drop s).take l)) (.slice aa ((rs.drop s).take l).length cap) := by
        refine .slice _ _ _ _ e' ⟨g, s * e', none⟩ xf (fun bD => MF ?_) (by rw [hlen]; exact NU.1) (fun i row hi => (Rp _ _ (rL hi)).1) (fun i row j cc hi hj => ?_) (fun i row j cc hi hj => ?_) fun i row j cc hi hj => ?_
        · have : ((rs.drop s).take l).length ≠ 0 := fun h0 => bD (List.length_eq_zero_iff.1 h0)
          omega
        · obtain ⟨y, hy, -⟩ := eU i row j cc hi hj
          have NN : s * e' + (i * e' + j) = (s + i) * e' + j := by rw [Nat.add_mul]; omega
          rw [add_lit, NN]
          show (E.kg w keys).F _ = some (xf i j)
          simp [xf, hy]
        · obtain ⟨y, hy, h1, -⟩ := eU i row j cc hi hj
          simp [xf, hy, h1]
        · obtain ⟨y, hy, -, h2⟩ := eU i row j cc hi hj
          have : xf i j = y := by simp [xf, hy]
          rw [this]; exact h2.mono hle
      rw [hlen] at yb; exact yb
  unfold bz at h
  split at h
  · simp only [Option.some.injEq] at h; subst h; exact .undef _ _
  · simp only [Option.some.injEq] at h; subst h; exact oq (by rw [bN hr]; exact .sc _ _)
  · simp only [Option.some.injEq] at h; subst h
    cases hr with
    | slice _ _ a cap nj ad xf ha hX hz hF h1 hR => exact (aT.slice E.pure _ a cap nj ad xf ha hX hz hF h1 hR).mono hle
  · simp only [Option.some.injEq] at h; subst h
    cases hr with
    | full _ _ a h =>
    cases h with
    | slice _ _ a cap nj ad xf ha hX hz hF h1 hR => exact (aT.slice E.pure _ a _ nj ad xf ha (Nat.le_refl _) hz hF h1 hR).mono hle
  · simp only [Option.some.injEq] at h; subst h
    cases hr with
    | cg _ _ ad xf hF hR => exact (aT.cg E.pure _ ad xf hF hR).mono hle
  · simp only [Option.some.injEq] at h; subst h
    cases hr with
    | gn => exact .gn _
  · rename_i b v s l
    have eV : (b, v) ∈ keys := hk (b, v) (by simp [eg])
    split at h
    · rename_i v' e rs hm
      split at h
      · rename_i hl; obtain ⟨rfl, hl⟩ := hl; simp only [Option.some.injEq] at h; subst h; exact AA hr eV hm (.inl rfl) hl
      · cases h
    · rename_i v' e rs hm
      split at h
      · rename_i hl; obtain ⟨rfl, hl⟩ := hl; simp only [Option.some.injEq] at h; subst h; exact AA hr eV hm (.inr rfl) hl
      · cases h
    · cases h
  · simp only [Option.some.injEq] at h; subst h
    cases hr with
    | fU _ f _ _ xs ys hx hy h1 h2 =>
      have e1 : xs = #[] := by simpa using hx.symm
      have e2 : ys = #[] := by simpa using hy.symm
      subst e1; subst e2; exact .sc _ _
  · cases h

theorem lE {E : Env} {w : World} {a : Act} {st : St} (hs : aV E w a st) {keys : List (Nat × Nat)} : ∀ {vs vs' : List V} {xs : List Value}, aO E vs xs → c8 st.mem vs = some vs' → (∀ k ∈ vs.flatMap eg, k ∈ keys) →
    aO (E.kg w keys).pure vs' xs
  | [], vs', xs, hr, h, _ => by simp [c8] at h; subst h; rw [hr.of_nil]; exact .nil _
  | v :: vs, vs', xs, hr, h, hk => by
    obtain ⟨x, ys, rfl, h1, h2⟩ := hr.of_cons
    simp only [c8] at h
    split at h
    · rename_i c' hc
      split at h
      · rename_i r' um
        simp only [Option.some.injEq] at h; subst h
        exact .cons (ju hs h1 hc fun k eQ => hk k (by simp [eQ])) (lE hs h2 um fun k eQ => hk k (by simp at eQ ⊢; exact .inr eQ))
      · cases h
    · cases h

theorem sD {E : Env} {w : World} {a : Act} {st : St} (hs : aV E w a st) {keys : List (Nat × Nat)} {v v' : V} {x : Value} (hr : aT E v x) (h : er st.mem v = some v') (hk : ∀ k ∈ ck v, k ∈ keys) : aT (E.kg w keys).pure v' x := by
  unfold er at h
  split at h
  · split at h
    · rename_i cs l hl
      simp only [Option.some.injEq] at h; subst h
      cases hr with
      | agg _ _ xs hlen hh =>
        have := lE hs (xs := xs.toList) ⟨by simpa using hlen, fun i c x hc hx => hh i c x hc (by simpa using hx)⟩ hl (by simpa [ck] using hk)
        exact .agg _ _ _ (by simpa using this.1) fun i c x hc hx => this.2 i c x hc (by simpa using hx)
    · cases h
  · rename_i bD
    refine ju hs hr h fun k eQ => hk k ?_
    cases v <;> first | exact eQ | exact absurd rfl (bD _)
theorem ga {E : Env} {w : World} {a : Act} {st : St} (hs : aV E w a st) {keys : List (Nat × Nat)} : ∀ {vs vs' : List V} {xs : List Value}, aO E vs xs → cj st.mem vs = some vs' → (∀ k ∈ vs.flatMap ck, k ∈ keys) →
    aO (E.kg w keys).pure vs' xs
  | [], vs', xs, hr, h, _ => by simp [cj] at h; subst h; rw [hr.of_nil]; exact .nil _
  | v :: vs, vs', xs, hr, h, hk => by
    obtain ⟨x, ys, rfl, h1, h2⟩ := hr.of_cons
    simp only [cj] at h
    split at h
    · rename_i c' hc
      split at h
      · rename_i r' um
        simp only [Option.some.injEq] at h; subst h
        exact .cons (sD hs h1 hc fun k eQ => hk k (by simp [eQ])) (ga hs h2 um fun k eQ => hk k (by simp at eQ ⊢; exact .inr eQ))
      · cases h
    · cases h
theorem vd {E : Env} {w : World} {a : Act} {st : St} (hs : aV E w a st) {keys : List (Nat × Nat)} {v v' : V} {x : Value} (hr : aT E v x) (h : MG st.mem v = some v') (hk : ∀ k ∈ refs v, k ∈ keys) : aT (E.kg w keys).pure v' x := by
  unfold MG at h
  split at h
  · split at h
    · rename_i vs l hl
      simp only [Option.some.injEq] at h; subst h
      cases hr with
      | bt _ _ xs hlen hh =>
        have := ga hs (xs := xs.toList) ⟨by simpa using hlen, fun i c x hc hx => hh i c x hc (by simpa using hx)⟩ hl (by simpa [refs] using hk)
        exact .bt _ _ _ (by simpa using this.1) fun i c x hc hx => this.2 i c x hc (by simpa using hx)
    · cases h
  · rename_i bD
    refine sD hs hr h fun k eQ => hk k ?_
    cases v <;> first | exact eQ | exact absurd rfl (bD _)

def aP (P : Program) (f : FuncId) (args : List V) (r : V) : Prop :=
  (∀ (xs : Array Value) (w : World), (callFunc f xs).run P w = .ok (.enter f xs) w) ∧
  ∀ (F : Addr → Option Value) (hg : Gl F) (w : World) (xs : Array Value), (∀ ad x, F ad = some x → w.cell? ad = some x) → aO ⟨F, fun _ _ => none, hg⟩ args xs.toList →
    Calls P f xs w fun e w' => ∃ F' x, e = .returned x ∧ (∀ ad y, F ad = some y → F' ad = some y) ∧ (∀ ad y, F' ad = some y → w'.cell? ad = some y) ∧ (∀ ad y, F' ad = some y → F ad = some y ∨ w.heap.size ≤ ad.block) ∧
      (∃ J6, aT ⟨F', fun _ _ => none, J6⟩ r x) ∧ Below w.heap.size w w'

def yx : V → Bool
  | .undef => true
  | .sc _ => true
  | .agg cs => cs.all (fun c => match c with | .sc _ => true | _ => false)
  | _ => false
def Gx : V → Bool
  | .bt vs => vs.all yx
  | v => yx v

theorem ve {E E' : Env} {v : V} {x : Value} (h : aT E v x) (hf : yx v = true) : aT E' v x := by
  cases h with
  | undef => exact .undef _ _
  | sc => exact .sc _ _
  | agg _ cs xs hl hh =>
    refine .agg _ _ _ hl fun i c x hc hx => ?_
    have h1 := hh i c x hc hx
    simp only [yx,List.all_eq_true] at hf
    have := hf c (List.mem_of_getElem? hc)
    cases c <;> simp at this
    rw [bN h1]; exact .sc _ _
  | _ => simp [yx] at hf
theorem Er {E E' : Env} {v : V} {x : Value} (h : aT E v x) (hf : Gx v = true) : aT E' v x := by
  unfold Gx at hf
  split at hf
  · cases h with
    | bt _ vs xs hl hh =>
      refine .bt _ _ _ hl fun i c x hc hx => ve (hh i c x hc hx) ?_
      simp only [List.all_eq_true] at hf
      exact hf c (List.mem_of_getElem? hc)
  · exact ve h hf

def sE (mem : List au) (k : Nat × Nat) : List au := match mem[k.1]? with | some (.rows v e rs) => if v = k.2 then mem.set k.1 (.mO v e rs) else mem | _ => mem
def bL (mem : List au) (keys : List (Nat × Nat)) : List au := keys.foldl sE mem

def jk (keys : List (Nat × Nat)) (q : Nat) : Option au → Option au
  | some (.rows v e rs) => if (q, v) ∈ keys then some (.mO v e rs) else some (.rows v e rs)
  | B => B
theorem yy (mem : List au) (k : Nat × Nat) (q : Nat) : (sE mem k)[q]? = jk [k] q mem[q]? := by
  obtain ⟨k, kv⟩ := k
  unfold sE
  dsimp only
  split
  · rename_i v e rs hk
    split
    · rename_i hv
      subst hv
      rw [List.getElem?_set]
      by_cases hq : k = q
      · subst hq
        rw [hk]
        simp [jk, (List.getElem?_eq_some_iff.1 hk).1]
      · rw [if_neg hq]
        have JD : ¬ q = k := fun e => hq e.symm
        cases hB : mem[q]? with
        | none => rfl
        | some B => cases B <;> simp [jk, JD]
    · rename_i hv
      cases hB : mem[q]? with
      | none => rfl
      | some B =>
        cases B <;> first | rfl | skip
        rename_i v' e' rs'
        simp only [jk,List.mem_singleton,Prod.mk.injEq]
        rw [if_neg]
        rintro ⟨rfl, rfl⟩
        rw [hk] at hB; cases hB; exact hv rfl
  · rename_i hk
    cases hB : mem[q]? with
    | none => rfl
    | some B =>
      cases B <;> first | rfl | skip
      rename_i v e rs
      simp only [jk,List.mem_singleton,Prod.mk.injEq]
      rw [if_neg]
      rintro ⟨rfl, rfl⟩
      exact hk _ _ _ hB
theorem kp (keys : List (Nat × Nat)) : ∀ (mem : List au) (q : Nat), (bL mem keys)[q]? = jk keys q mem[q]? := by
  induction keys with
  | nil => intro mem q; simp only [bL,List.foldl_nil]; cases hB : mem[q]? with | none => rfl | some B => cases B <;> simp [jk]
  | cons k r ih =>
    intro mem q
    show (bL (sE mem k) r)[q]? = _
    rw [ih, yy]
    cases hB : mem[q]? with
    | none => rfl
    | some B =>
      cases B <;> first | rfl | skip
      rename_i v e rs
      simp only [jk,List.mem_cons,List.not_mem_nil,or_false]
      by_cases hq : (q, v) = k
      · rw [if_pos hq, if_pos (.inl hq)]
      · rw [if_neg hq]
        by_cases hr : (q, v) ∈ r
        · rw [if_pos (.inr hr)]; simp [hr]
        · rw [if_neg (fun h => h.elim hq hr)]; simp [hr]
theorem nd (keys : List (Nat × Nat)) : ∀ (mem : List au), (bL mem keys).length = mem.length := by
  induction keys with
  | nil => intro mem; rfl
  | cons k r ih =>
    intro mem
    show (bL (sE mem k) r).length = _
    rw [ih]; unfold sE
    split
    · split <;> simp
    · rfl

def cI (mem : List au) (keys : List (Nat × Nat)) (r : V) : List au := if Gx r = true then mem else bL mem keys

theorem Es {mem : List au} {k : Nat × Nat} : ∀ {us MH : List V}, cj mem us = some MH → k ∈ us.flatMap ck → ∃ B, mem[k.1]? = some B ∧ B.ay = k.2 ∧ ∃ e rs, B = .rows k.2 e rs ∨ B = .mO k.2 e rs := by
  have MI : ∀ (cs mZ : List V), c8 mem cs = some mZ → k ∈ cs.flatMap eg → ∃ B, mem[k.1]? = some B ∧ B.ay = k.2 ∧ ∃ e rs, B = .rows k.2 e rs ∨ B = .mO k.2 e rs := by
    intro cs
    induction cs with
    | nil => intro mZ _ hm; simp at hm
    | cons c r ih =>
      intro mZ hp hm
      simp only [c8] at hp
      split at hp
      · rename_i c' hc
        split at hp
        · rename_i r' hr
          simp only [List.flatMap_cons,List.mem_append] at hm
          rcases hm with hm | hm
          · cases c <;> simp only [eg,List.mem_singleton,List.not_mem_nil] at hm
            subst hm
            simp only [bz] at hc
            split at hc
            · rename_i h
              split at hc
              · rename_i hv; obtain ⟨rfl, -⟩ := hv; exact ⟨_, h, rfl, _, _, .inl rfl⟩
              · cases hc
            · rename_i h
              split at hc
              · rename_i hv; obtain ⟨rfl, -⟩ := hv; exact ⟨_, h, rfl, _, _, .inr rfl⟩
              · cases hc
            · cases hc
          · exact ih _ hr hm
        · cases hp
      · cases hp
  intro us
  induction us with
  | nil => intro MH _ hm; simp at hm
  | cons c r ih =>
    intro MH hp hm
    simp only [cj] at hp
    split at hp
    · rename_i c' hc
      split at hp
      · rename_i r' hr
        simp only [List.flatMap_cons,List.mem_append] at hm
        rcases hm with hm | hm
        · unfold er at hc
          split at hc
          · split at hc
            · rename_i l hl; exact MI _ _ hl hm
            · cases hc
          · rename_i bD
            refine MI [c] [c'] (by simp [c8, hc]) ?_
            simp only [List.flatMap_cons,List.flatMap_nil,List.append_nil]
            cases c <;> first | exact hm | exact absurd rfl (bD _)
        · exact ih hr hm
      · cases hp
    · cases hp

theorem sF {E : Env} {w w' : World} {a : Act} {st : St} (hs : aV E w a st) {vs vs' : List V} (hp : cj st.mem vs = some vs') {F' : Addr → Option Value} (AZ : ∀ ad y, (E.kg w (vs.flatMap ck)).F ad = some y → F' ad = some y)
    (eJ : ∀ ad y, F' ad = some y → w'.cell? ad = some y) (Ue : ∀ ad y, F' ad = some y → (E.kg w (vs.flatMap ck)).F ad = some y ∨ w.heap.size ≤ ad.block) (hb : Below w.heap.size w w') :
    ∃ hg, dk E w ⟨F', E.aG, hg⟩ w' ∧ aV ⟨F', E.aG, hg⟩ w' a { st with mem := bL st.mem (vs.flatMap ck) } := by
  have hg : Gl F' := E.gl.mono fun ad x h => AZ _ _ ((Env.pH E w _).F _ _ h)
  refine ⟨hg, ?_⟩
  have hle : E.le ⟨F', E.aG, hg⟩ := ⟨fun ad y hy => AZ _ _ ((Env.pH E w _).F _ _ hy), fun _ _ _ h => h⟩
  have U9 : (E.kg w (vs.flatMap ck)).le ⟨F', E.aG, hg⟩ := ⟨AZ, fun _ _ _ h => h⟩
  -- no cell of F' bd in a held block gF was not handed over
  have clean : ∀ k B, st.mem[k]? = some B → B.held = true → (∀ v e rs, B ≠ .mO v e rs) → (∀ v e rs, B = .rows v e rs → (k, v) ∉ vs.flatMap ck) → ∀ g e c o, E.aG k B.ay = some (g, e, c) → E.F ⟨g, o, none⟩ = none → F' ⟨g, o, none⟩ = none := by
    intro k B hB hh YI sG g e c o eV hn
    cases hy : F' ⟨g, o, none⟩ with
    | none => rfl
    | some y =>
      exfalso
      rcases Ue _ y hy with h | h
      · rcases Env.wH h with h | ⟨k', eQ, e', c', h⟩
        · rw [hn] at h; cases h
        · obtain ⟨B', nY, rn, e1, n9, JC⟩ := Es hp eQ
          have JB : B'.held = true := by rcases JC with rfl | rfl <;> rfl
          rw [← rn] at h
          have bS := hs.apart _ _ _ _ _ _ _ _ _ eV h
          subst bS
          rw [hB] at nY; cases nY
          rcases JC with rfl | rfl
          · exact sG _ _ _ rfl (by rw [show (k'.1, k'.2) = k' from rfl]; exact eQ)
          · exact YI _ _ _ rfl
      · have := hs.lt _ _ _ _ _ eV; simp at h; omega
  refine ⟨⟨hle, fun k v g e c h => .inl ⟨k, v, e, c, h⟩, fun ad y hy => ?_, hb.os, hb.tape, hb.output, hb.size, fun b aF _ => hb.block b aF⟩, ?_⟩
  · rcases Ue ad y hy with h | h
    · rcases Env.wH h with h | ⟨k, -, e, c, h⟩
      · exact .inl h
      · exact .inr (.inr ⟨k.1, k.2, e, c, h⟩)
    · exact .inr (.inl h)
  · have nZ : ∀ (q : Nat) (B : au), (bL st.mem (vs.flatMap ck))[q]? = some B → ∃ B', st.mem[q]? = some B' ∧ B.ay = B'.ay ∧ B.held = B'.held ∧ (B = B' ∧ (∀ v e rs, B = .rows v e rs → (q, v) ∉ vs.flatMap ck) ∨ ∃ v e rs, B' = .rows v e rs ∧ B = .mO v e rs ∧ (q, v) ∈ vs.flatMap ck) := fun q B hq => by
      rw [kp] at hq
      cases vf : st.mem[q]? with
      | none => rw [vf] at hq; simp [jk] at hq
      | some B0 =>
        rw [vf] at hq
        refine ⟨B0, rfl, ?_⟩
        cases B0 with
        | rows v e rs =>
          simp only [jk] at hq
          split at hq
          · rename_i hY; cases hq; exact ⟨rfl, rfl, .inr ⟨v, e, rs, rfl, rfl, hY⟩⟩
          · rename_i hY; cases hq; exact ⟨rfl, rfl, .inl ⟨rfl, fun v' e' rs' h => by cases h; exact hY⟩⟩
        | _ => cases hq; exact ⟨rfl, rfl, .inl ⟨rfl, fun v' e' rs' h => by cases h⟩⟩
    refine ⟨eJ, fun k v g e c h => Nat.lt_of_lt_of_le (hs.lt _ _ _ _ _ h) hb.size, fun k B hk => ?_, fun k hk v => hs.top k (by simpa [nd] using hk) v, fun k B hk v hv => ?_, hs.apart, hs.fr.mono hle⟩
    · obtain ⟨B', nY, -, -, sA⟩ := nZ k B hk
      rcases sA with ⟨rfl, sG⟩ | ⟨v, e, rs, rfl, rfl, hY⟩
      · have sH := (hs.mem k B nY).mono (E' := ⟨F', E.aG, hg⟩) (w' := w') hle (fun _ h => h) (fun g e c h => hb.block _ (hs.lt _ _ _ _ _ h))
        cases J7 : B with
        | mO v e rs =>
          subst J7
          rcases hs.mem k _ nY with h9 | ⟨g, c, qG, hl, hr⟩
          · exact .inl h9
          refine .inr ⟨g, c, qG, hl, fun i row hi => ?_⟩
          obtain ⟨h5, h6⟩ := hr i row hi
          exact ⟨h5, fun j cc hj => let ⟨x, hx, h7, h8⟩ := h6 j cc hj; ⟨x, hle.F _ _ hx, h7, h8.mono (Env.fC hle)⟩⟩
        | hole => subst J7; exact hs.mem k _ nY
        | dead => trivial
        | loop s jr fr params assign body => subst J7; exact sH (clean k _ nY rfl (fun _ _ _ h => by cases h) (fun _ _ _ h => by cases h))
        | box cs => subst J7; exact sH (clean k _ nY rfl (fun _ _ _ h => by cases h) (fun _ _ _ h => by cases h))
        | map bf clock => subst J7; exact sH (clean k _ nY rfl (fun _ _ _ h => by cases h) (fun _ _ _ h => by cases h))
        | ed m since seen last => subst J7; exact sH (clean k _ nY rfl (fun _ _ _ h => by cases h) (fun _ _ _ h => by cases h))
        | gZ s pos => subst J7; exact sH (clean k _ nY rfl (fun _ _ _ h => by cases h) (fun _ _ _ h => by cases h))
        | iz => subst J7; exact sH (clean k _ nY rfl (fun _ _ _ h => by cases h) (fun _ _ _ h => by cases h))
        | rows v e rs => subst J7; exact sH (clean k _ nY rfl (fun _ _ _ h => by cases h) sG)
      · rcases hs.mem k _ nY with h9 | ⟨g, T, cur, c, qG, -⟩
        · exact .inl h9
        · obtain ⟨-, hl, hr⟩ := yw hs hY qG nY (.inl rfl)
          refine .inr ⟨g, c, qG, hl, fun i row hi => ?_⟩
          obtain ⟨h5, h6⟩ := hr i row hi
          exact ⟨h5, fun j cc hj => let ⟨x, hx, h7, h8⟩ := h6 j cc hj; ⟨x, U9.F _ _ hx, h7, h8.mono (Env.fC hle)⟩⟩
    · obtain ⟨B', nY, AB, -, -⟩ := nZ k B hk
      exact hs.ay k B' nY v (by omega)

theorem aV.freeze {E : Env} {w : World} {a : Act} {st : St} (hs : aV E w a st) {vs vs' : List V} (hp : cj st.mem vs = some vs') :
    ∃ E', aV E' w a { st with mem := bL st.mem (vs.flatMap ck) } ∧ dk E w E' w ∧ ∀ xs, aO E vs xs → aO E' vs' xs := by
  obtain ⟨hg, h1, h2⟩ := sF hs hp (F' := (E.kg w (vs.flatMap ck)).F) (fun _ _ h => h) (fun ad y h => Env.C0 hs.F h) (fun _ _ h => .inl h) (Below.refl _ w)
  exact ⟨_, h2, h1, fun xs hx => (ga hs (keys := vs.flatMap ck) hx hp fun k hk => hk).mono ⟨fun _ _ h => h, fun _ _ _ h => by cases h⟩⟩

theorem Et {P : Program} {f : FuncId} {E : Env} {w : World} {a : Act} {st : St} (hs : aV E w a st) {vs vs' : List V} {r : V} {xs : Array Value} (hx : aO E vs xs.toList) (hp : cj st.mem vs = some vs') (hf : aP P f vs' r) :
    Calls P f xs w fun e w' => ∃ E' x, e = .returned x ∧ dk E w E' w' ∧ aV E' w' a { st with mem := cI st.mem (vs.flatMap ck) r } ∧ aT E' r x := by
  have h1 := ga hs (keys := vs.flatMap ck) hx hp fun k hk => hk
  refine (hf.2 (E.kg w (vs.flatMap ck)).F (E.kg w (vs.flatMap ck)).gl w xs (fun ad x h => Env.C0 hs.F h) h1).mono ?_
  rintro e w' ⟨F', x, rfl, AZ, eJ, Ue, ⟨J6, ot⟩, hb⟩
  unfold cI
  split
  · rename_i RB
    refine ⟨E, x, rfl, ⟨E.le_refl, fun k v g e c h => .inl ⟨k, v, e, c, h⟩, fun _ _ h => .inl h, hb.os, hb.tape, hb.output, hb.size, fun b aF _ => hb.block b aF⟩, ?_, Er ot RB⟩
    refine ⟨fun ad y hy => ?_, fun k v g e c h => Nat.lt_of_lt_of_le (hs.lt _ _ _ _ _ h) hb.size, fun k B hk => ?_, hs.top, hs.ay, hs.apart, hs.fr⟩
    · rw [hb.cell (World.block_lt_of_cell? w ad (hs.F ad y hy))]; exact hs.F ad y hy
    · exact (hs.mem k B hk).mono E.le_refl (fun _ h => h) (fun g e c h => hb.block _ (hs.lt _ _ _ _ _ h)) fun _ _ _ _ _ h => h
  · obtain ⟨hg, e1, s1⟩ := sF hs hp AZ eJ Ue hb
    exact ⟨_, x, rfl, e1, s1, ot.mono ⟨fun _ _ h => h, fun _ _ _ h => by simp at h⟩⟩
end Go.Eng
end
