/-
  THE ENGINE, A: abstract values, and what it means that one stands for a value of the model in a world.
  THE ENGINE, B: the table of types, the store, the state of a call, and what one operation makes of it.
  THE ENGINE, C: the operations that write nothing, and that each does in the model what it says.
  THE ENGINE, D: one word for all operations that write nothing.
  THE ENGINE, DM: maps: reading them.
  THE ENGINE, E: the word for every operation that writes nothing, and its soundness.
  THE ENGINE, F: new blocks, stores, what is read for good.
  THE ENGINE, G: stores.
  THE ENGINE, H: slices that are made: literals, append.
  THE ENGINE, I: append.
  THE ENGINE, IM: maps: writing them; ranging over them, and over strings.
  THE ENGINE, SF: append to a slice that begins behind its block's beginning: it may stay where it is, or go to a new block.
  THE ENGINE, J: what a call hands over; contracts.
-/
import Derived.Orders
import Derived.Below
import Derived.Laws.AppendOwn
import Derived.Laws.Cells
import Derived.Laws.Entries
import Derived.Laws.ResultCell
import Derived.Laws.BytesArg
import Derived.Laws.Append
import Derived.IntWalk
set_option linter.all false
section
namespace Go.Eng

class Glob where
 n : Int
 κ : Int → Option Bool
 ok : ∀ k b, κ k = some b → decide (k ≤ n) = b
 g : Option Nat
 tabs : Nat → Option (List Value)
variable [Glob]
structure Gl (F : Addr → Option Value) : Prop where
 n : ∀ g, Glob.g = some g → F ⟨g, 0, none⟩ = some (.int .i64 Glob.n)
 t : ∀ g cs (j : Nat) x, Glob.tabs g = some cs → cs[j]? = some x → F ⟨g, j, none⟩ = some x
theorem Gl.mono {F F' : Addr → Option Value} (h : Gl F) (hF : ∀ ad x, F ad = some x → F' ad = some x) : Gl F' := ⟨fun g hg => hF _ _ (h.n g hg), fun g cs j x h1 h2 => hF _ _ (h.t g cs j x h1 h2)⟩

inductive V where
 | undef
 | sc (v : Value)
 | agg (cs : List V)
 | slice (rows : List V)
 | ms (b v s l : Nat)
 | ptr (b o : Nat)
 | rptr (b v i o : Nat)
 | eptr (cs : List V)
 | clo (f : Fn) (first cap : List V)
 | tup (vs : List V)
 | yld (b : Nat)
 | mp (b : Nat)
 | gn
 | full (rows : List V)
 deriving Inhabited

def V.cells : V → List V
 | .agg cs => cs
 | v => [v]

structure Env where
 F : Addr → Option Value
 blk : Nat → Nat → Option (Nat × Nat × Nat)
 gl : Gl F

def Env.pure (E : Env) : Env := { F := E.F, blk := fun _ _ => none, gl := E.gl }

inductive Rep : Env → V → Value → Prop
 | undef (E : Env) (x : Value) : Rep E .undef x
 | sc (E : Env) (v : Value) : Rep E (.sc v) v
 | agg (E : Env) (cs : List V) (xs : Array Value) (hl : cs.length = xs.size) (h : ∀ (i : Nat) (c : V) (x : Value), cs[i]? = some c → xs[i]? = some x → Rep E c x) : Rep E (.agg cs) (.agg xs)
 | slice (E : Env) (rows : List V) (a : Option Addr) (cap esz : Nat) (ad : Addr) (xf : Nat → Nat → Value) (ha : rows ≠ [] → a = some ad) (hcap : rows.length ≤ cap)
   (hs : ∀ (i : Nat) (row : V), rows[i]? = some row → row.cells.length = esz)
   (hF : ∀ (i : Nat) (row : V) (j : Nat) (c : V), rows[i]? = some row → row.cells[j]? = some c → E.F (ad.add (i * esz + j)) = some (xf i j))
   (h1 : ∀ (i : Nat) (row : V) (j : Nat) (c : V), rows[i]? = some row → row.cells[j]? = some c → (xf i j).oneCell' = true)
   (h : ∀ (i : Nat) (row : V) (j : Nat) (c : V), rows[i]? = some row → row.cells[j]? = some c → Rep E.pure c (xf i j)) : Rep E (.slice rows) (.slice a rows.length cap)
 | ms (E : Env) (b v s l g e c : Nat) (a : Option Addr) (cap : Nat) (hb : E.blk b v = some (g, e, c)) (hl : 0 < l → a = some ⟨g, s * e, none⟩) (h0 : s = 0 → a = some ⟨g, 0, none⟩ ∧ cap = c) (hc : l ≤ cap ∧ s + cap = c ∧ (0 < cap → a = some ⟨g, s * e, none⟩)) :
   Rep E (.ms b v s l) (.slice a l cap)
 | msnil (E : Env) (b v s : Nat) : Rep E (.ms b v s 0) (.slice none 0 0)
 | ptr (E : Env) (b o g e c : Nat) (hb : E.blk b 0 = some (g, e, c)) : Rep E (.ptr b o) (.pointer (some ⟨g, o, none⟩))
 | rptr (E : Env) (b v i o g e c : Nat) (hb : E.blk b v = some (g, e, c)) : Rep E (.rptr b v i o) (.pointer (some ⟨g, i * e + o, none⟩))
 | eptr (E : Env) (cs : List V) (ad : Addr) (xf : Nat → Value) (hF : ∀ (j : Nat) (c : V), cs[j]? = some c → E.F (ad.add j) = some (xf j)) (h : ∀ (j : Nat) (c : V), cs[j]? = some c → Rep E.pure c (xf j)) :
   Rep E (.eptr cs) (.pointer (some ad))
 | clo (E : Env) (f : Fn) (first cap : List V) (xs ys : Array Value) (hx : first.length = xs.size) (hy : cap.length = ys.size)
   (h1 : ∀ (i : Nat) (c : V) (x : Value), first[i]? = some c → xs[i]? = some x → Rep E c x) (h2 : ∀ (i : Nat) (c : V) (x : Value), cap[i]? = some c → ys[i]? = some x → Rep E c x) : Rep E (.clo f first cap) (.func f xs ys)
 | yld (E : Env) (b l e c : Nat) (hb : E.blk b 0 = some (l, e, c)) : Rep E (.yld b) (.func (.yield l) #[] #[])
 | mp (E : Env) (b l e c : Nat) (hb : E.blk b 0 = some (l, e, c)) : Rep E (.mp b) (.map (some l))
 | gn (E : Env) : Rep E .gn (.int .i64 Glob.n)
 | full (E : Env) (rows : List V) (a : Option Addr) (h : Rep E (.slice rows) (.slice a rows.length rows.length)) : Rep E (.full rows) (.slice a rows.length rows.length)
 | tup (E : Env) (vs : List V) (xs : Array Value) (hl : vs.length = xs.size) (h : ∀ (i : Nat) (c : V) (x : Value), vs[i]? = some c → xs[i]? = some x → Rep E c x) : Rep E (.tup vs) (.tuple xs)

def RepL (E : Env) (vs : List V) (xs : List Value) : Prop := vs.length = xs.length ∧ ∀ (i : Nat) (v : V) (x : Value), vs[i]? = some v → xs[i]? = some x → Rep E v x

theorem Env.ext2 {a b : Env} (h1 : a.F = b.F) (h2 : a.blk = b.blk) : a = b := by
 cases a; cases b; dsimp only at h1 h2; subst h1; subst h2; rfl

structure Env.le (E E' : Env) : Prop where
 F : ∀ ad x, E.F ad = some x → E'.F ad = some x
 blk : ∀ b v t, E.blk b v = some t → E'.blk b v = some t

theorem Env.le_refl (E : Env) : E.le E := ⟨fun _ _ h => h, fun _ _ _ h => h⟩
theorem Env.le_trans {a b c : Env} (h : a.le b) (k : b.le c) : a.le c := ⟨fun ad x hx => k.F _ _ (h.F _ _ hx), fun b v t hx => k.blk _ _ _ (h.blk _ _ _ hx)⟩
theorem Env.le_pure {a b : Env} (h : a.le b) : a.pure.le b.pure := ⟨h.F, fun _ _ _ h => h⟩
theorem Env.pure_le (a : Env) : a.pure.le a := ⟨fun _ _ h => h, fun _ _ _ h => by simp [Env.pure] at h⟩

theorem Rep.mono {E E' : Env} {v : V} {x : Value} (h : Rep E v x) (hle : E.le E') : Rep E' v x := by
 induction h generalizing E' with
 | undef => exact .undef _ _
 | sc => exact .sc _ _
 | agg E cs xs hl h ih => exact .agg _ _ _ hl fun i c x hc hx => ih i c x hc hx hle
 | slice E rows a cap esz ad xf ha hcap hs hF h1 h ih => exact .slice _ _ _ _ esz ad xf ha hcap hs (fun i row j c hi hj => hle.F _ _ (hF i row j c hi hj)) h1 fun i row j c hi hj => ih i row j c hi hj (Env.le_pure hle)
 | ms E b v s l g e c a cap hb hl h0 hc => exact .ms _ _ _ _ _ g e c _ _ (hle.blk _ _ _ hb) hl h0 hc
 | msnil E b v s => exact .msnil _ _ _ _
 | ptr E b o g e c hb => exact .ptr _ _ _ g e c (hle.blk _ _ _ hb)
 | rptr E b v i o g e c hb => exact .rptr _ _ _ _ _ g e c (hle.blk _ _ _ hb)
 | eptr E cs ad xf hF h ih => exact .eptr _ _ _ xf (fun j c hj => hle.F _ _ (hF j c hj)) fun j c hj => ih j c hj (Env.le_pure hle)
 | clo E f first cap xs ys hx hy h1 h2 ih1 ih2 => exact .clo _ _ _ _ _ _ hx hy (fun i c x hc hx => ih1 i c x hc hx hle) fun i c x hc hx => ih2 i c x hc hx hle
 | yld E b l e c hb => exact .yld _ _ l e c (hle.blk _ _ _ hb)
 | mp E b l e c hb => exact .mp _ _ l e c (hle.blk _ _ _ hb)
 | gn E => exact .gn _
 | full E rows a h ih => exact .full _ _ _ (ih hle)
 | tup E vs xs hl h ih => exact .tup _ _ _ hl fun i c x hc hx => ih i c x hc hx hle

theorem RepL.mono {E E' : Env} {vs : List V} {xs : List Value} (h : RepL E vs xs) (hle : E.le E') : RepL E' vs xs :=
 ⟨h.1, fun i v x hv hx => (h.2 i v x hv hx).mono hle⟩
theorem RepL.nil (E : Env) : RepL E [] [] := ⟨rfl, fun i v x h => by simp at h⟩
theorem RepL.cons {E : Env} {v : V} {x : Value} {vs : List V} {xs : List Value} (h : Rep E v x) (hs : RepL E vs xs) : RepL E (v :: vs) (x :: xs) := by
 refine ⟨by simp [hs.1], fun i => ?_⟩
 cases i with
 | zero => intro v' x' hv hx; simp at hv hx; subst hv; subst hx; exact h
 | succ i => intro v' x' hv hx; simp at hv hx; exact hs.2 i v' x' hv hx
theorem RepL.of_cons {E : Env} {v : V} {vs : List V} {xs : List Value} (h : RepL E (v :: vs) xs) : ∃ x ys, xs = x :: ys ∧ Rep E v x ∧ RepL E vs ys := by
 cases xs with
 | nil => have := h.1; simp at this
 | cons x ys => exact ⟨x, ys, rfl, h.2 0 v x rfl rfl, by have := h.1; simpa using this, fun i v' x' hv hx => h.2 (i + 1) v' x' (by simpa using hv) (by simpa using hx)⟩
theorem RepL.of_nil {E : Env} {xs : List Value} (h : RepL E [] xs) : xs = [] := by
 have := h.1; simp at this; exact List.length_eq_zero_iff.1 this.symm
theorem RepL.append {E : Env} {vs us : List V} {xs ys : List Value} (h : RepL E vs xs) (k : RepL E us ys) : RepL E (vs ++ us) (xs ++ ys) := by
 refine ⟨by simp [h.1, k.1], fun i v x hv hx => ?_⟩
 by_cases hi : i < vs.length
 ·rw [List.getElem?_append_left hi] at hv; rw [List.getElem?_append_left (h.1 ▸ hi)] at hx; exact h.2 i v x hv hx
 ·rw [List.getElem?_append_right (by omega)] at hv; rw [List.getElem?_append_right (by have := h.1; omega), ← h.1] at hx; exact k.2 _ v x hv hx
theorem RepL.get {E : Env} {vs : List V} {xs : List Value} (h : RepL E vs xs) {i : Nat} {v : V} (hv : vs[i]? = some v) : ∃ x, xs[i]? = some x ∧ Rep E v x := by
 have hi : i < xs.length := by rw [← h.1]; exact (List.getElem?_eq_some_iff.1 hv).1
 exact ⟨xs[i], List.getElem?_eq_getElem hi, h.2 i v _ hv (List.getElem?_eq_getElem hi)⟩
theorem RepL.drop {E : Env} {vs : List V} {xs : List Value} (h : RepL E vs xs) (n : Nat) : RepL E (vs.drop n) (xs.drop n) :=
 ⟨by simp [h.1], fun i v x hv hx => h.2 (n + i) v x (by simpa using hv) (by simpa using hx)⟩
theorem RepL.take {E : Env} {vs : List V} {xs : List Value} (h : RepL E vs xs) (n : Nat) : RepL E (vs.take n) (xs.take n) := by
 refine ⟨by simp [h.1], fun i v x hv hx => ?_⟩
 have hi : i < n := by
  by_cases hi : i < n
  ·exact hi
  ·rw [List.getElem?_take] at hv; simp [hi] at hv
 rw [List.getElem?_take_of_lt hi] at hv hx
 exact h.2 i v x hv hx
theorem RepL.set {E : Env} {vs : List V} {xs : List Value} (h : RepL E vs xs) (n : Nat) {v : V} {x : Value} (hv : Rep E v x) : RepL E (vs.set n v) (xs.set n x) := by
 refine ⟨by simp [h.1], fun i v' x' hv' hx' => ?_⟩
 by_cases hi : n = i
 ·subst hi
  rw [List.getElem?_set] at hv' hx'
  simp only [if_true] at hv' hx'
  split at hv'
  ·split at hx'
   ·simp at hv' hx'; subst hv'; subst hx'; exact hv
   ·simp at hx'
  ·simp at hv'
 ·rw [List.getElem?_set_ne hi] at hv' hx'; exact h.2 i v' x' hv' hx'

theorem Rep.cells {E : Env} {v : V} {x : Value} (h : Rep E v x) (hu : v ≠ .undef) (hs : ∀ y, v = .sc y → ∀ cs, y ≠ .agg cs) : RepL E v.cells x.cells.toList := by
 cases h with
 | undef => exact absurd rfl hu
 | sc =>
  have : x.cells = #[x] := by
   have := hs x rfl
   cases x <;> simp [Value.cells] at this ⊢
  simp only [V.cells,this]; exact .cons (.sc _ _) (.nil _)
 | agg _ cs xs hl h => exact ⟨by simpa [V.cells, Value.cells] using hl, fun i c x hc hx => h i c x hc (by simpa [Value.cells] using hx)⟩
 | slice _ rows a cap esz ad xf ha hcap hz hF h1 h => exact .cons (.slice _ _ _ _ esz ad xf ha hcap hz hF h1 h) (.nil _)
 | ms _ b v s l g e c a cap hb hl h0 hc => exact .cons (.ms _ _ _ _ _ g e c _ _ hb hl h0 hc) (.nil _)
 | msnil _ b v s => exact .cons (.msnil _ _ _ _) (.nil _)
 | ptr _ b o g e c hb => exact .cons (.ptr _ _ _ g e c hb) (.nil _)
 | rptr _ b v i o g e c hb => exact .cons (.rptr _ _ _ _ _ g e c hb) (.nil _)
 | eptr _ cs ad xf hF h => exact .cons (.eptr _ _ _ xf hF h) (.nil _)
 | clo _ f first cap xs ys hx hy h1 h2 => exact .cons (.clo _ _ _ _ _ _ hx hy h1 h2) (.nil _)
 | yld _ b l e c hb => exact .cons (.yld _ _ l e c hb) (.nil _)
 | mp _ b l e c hb => exact .cons (.mp _ _ l e c hb) (.nil _)
 | gn => exact .cons (.gn _) (.nil _)
 | full _ rows a h => exact .cons (.full _ _ _ h) (.nil _)
 | tup _ vs xs hl h => exact .cons (.tup _ _ _ hl h) (.nil _)
end Go.Eng
end

section
namespace Go.Eng
variable [Glob]

structure Ti where
 size : Nat
 agg : Bool
 zero : List Value
 flds : List (Nat × Nat) := []
 elem : Option TypeId := none
 bytes : Nat := 0
 deriving Inhabited

abbrev Table := TypeId → Option Ti

structure TT (P : Program) (tt : Table) : Prop where
 size : ∀ t i, tt t = some i → ∃ info, P.info? t = some info ∧ info.size = i.size ∧ info.bytes = i.bytes ∧ ∃ z, info.zero = some z ∧ z.cells.toList = i.zero
 desc : ∀ t i, tt t = some i → ∃ d, P.underlying t = some d ∧ (i.agg = true ↔ ((∃ fs, d = .struct fs) ∨ ∃ n e, d = .array n e)) ∧
  (∀ e, i.elem = some e → d = .slice e) ∧
  (∀ (f off sz : Nat), i.flds[f]? = some (off, sz) → ∃ fs fd inf, d = .struct fs ∧ fs.size = i.flds.length ∧ fs[f]? = some fd ∧ fd.offset = off ∧ P.info? fd.type = some inf ∧ inf.size = sz ∧ sz ≠ 0)

def scRunP {α : Type} (P : Program) : Sem α → Option α
 | .pure a => some a
 | .program k => scRunP P (k P)
 | .mark _ k => scRunP P k
 | _ => none

theorem scRunP_sound {α : Type} {P : Program} (s : Sem α) {v : α} (h : scRunP P s = some v) (w : World) : s.run P w = .ok v w := by
 induction s with
 | pure a => simp [scRunP] at h; subst h; rfl
 | program k ih => exact ih P h
 | mark m k ih => exact ih h
 | _ => simp [scRunP] at h

def absV : Value → V
 | .agg cs => .agg (cs.toList.map V.sc)
 | .tuple vs => .tup (vs.toList.map V.sc)
 | v => .sc v

theorem rep_map_sc (E : Env) (cs : Array Value) (i : Nat) (c : V) (x : Value) (hc : (cs.toList.map V.sc)[i]? = some c) (hx : cs[i]? = some x) : Rep E c x := by
 simp only [List.getElem?_map,Array.getElem?_toList,hx,Option.map_some,Option.some.injEq] at hc
 subst hc; exact .sc _ _
theorem absV_rep (E : Env) (v : Value) : Rep E (absV v) v := by
 cases v with
 | agg cs => exact .agg _ _ _ (by simp) (rep_map_sc E cs)
 | tuple cs => exact .tup _ _ _ (by simp) (rep_map_sc E cs)
 | _ => exact .sc _ _

inductive Blk where
 | hole
 | dead
 | box (cs : List V)
 | rows (v e : Nat) (rs : List V)
 | frz (v e : Nat) (rs : List V)
 | loop (s : LoopState) (pend : Option Code) (fr : List V) (params : Array Tmp) (assign body : Code)
 | map (kvs : List (Value × Nat × V)) (clock : Nat)
 | miter (m since : Nat) (seen : List Nat) (last : Nat)
 | siter (s : ByteArray) (pos : Nat)
 | niter
 deriving Inhabited

structure St where
 fr : List V
 mem : List Blk

def St.eval (st : St) : Operand → V
 | .tmp t => st.fr.getD t .undef
 | .const v => absV v
 | .global g => if Glob.g = some g then .eptr [.gn] else match Glob.tabs g with | some cs => .eptr (cs.map V.sc) | none => .undef
 | .func f => .sc (.func (.func f) #[] #[])

def St.put (st : St) (dst : Option Tmp) (v : V) : St :=
 match dst with
 | some d => { st with fr := st.fr.set d v }
 | none => st

def RowsOk (E : Env) (e : Nat) (rs : List V) (at_ : Nat → Option Value) : Prop :=
 ∀ (i : Nat) (row : V), rs[i]? = some row → row.cells.length = e ∧ ∀ (j : Nat) (c : V), row.cells[j]? = some c → ∃ x, at_ (i * e + j) = some x ∧ x.oneCell' = true ∧ Rep E c x

def RepM (E : Env) (kvs : List (Value × Nat × V)) (es : List MapEntry) : Prop :=
 kvs.length = es.length ∧ ∀ (i : Nat) (k : Value × Nat × V) (e : MapEntry), kvs[i]? = some k → es[i]? = some e → e.key = k.1 ∧ e.born = k.2.1 ∧ Rep E k.2.2 e.val
theorem RepM.mono {E E' : Env} {kvs : List (Value × Nat × V)} {es : List MapEntry} (h : RepM E kvs es) (hle : E.le E') : RepM E' kvs es :=
 ⟨h.1, fun i k e hk he => let ⟨h1, h2, h3⟩ := h.2 i k e hk he; ⟨h1, h2, h3.mono hle⟩⟩

def BlkOk (E : Env) (w : World) (k : Nat) : Blk → Prop
 | .hole => ∀ v, E.blk k v = none
 | .dead => True
 | .box cs => ∃ g T xs, E.blk k 0 = some (g, 0, 0) ∧ w.heap[g]? = some (.cells xs T (0, 0)) ∧ RepL E cs xs.toList ∧ ∀ o, E.F ⟨g, o, none⟩ = none
 | .rows v e rs => (rs = [] ∧ E.blk k v = none) ∨ ∃ g T xs c, E.blk k v = some (g, e, c) ∧ w.heap[g]? = some (.cells xs T (0, 0)) ∧ xs.size = c * e ∧ rs.length ≤ c ∧ RowsOk E.pure e rs (fun o => xs[o]?) ∧ ∀ o, E.F ⟨g, o, none⟩ = none
 | .frz v e rs => (rs = [] ∧ E.blk k v = none) ∨ ∃ g c, E.blk k v = some (g, e, c) ∧ rs.length ≤ c ∧ RowsOk E.pure e rs (fun o => E.F ⟨g, o, none⟩)
 | .loop s pend fr params assign body => ∃ l fn tmps db, E.blk k 0 = some (l, 0, 0) ∧ w.heap[l]? = some (.loop { state := s, pending := pend, fn := fn, tmps := tmps, params := params, assign := assign, body := body, defers := db }) ∧ RepL E fr tmps.toList ∧ ∀ o, E.F ⟨l, o, none⟩ = none

 | .map kvs clock => ∃ g es, E.blk k 0 = some (g, 0, 0) ∧ w.heap[g]? = some (.map es clock) ∧ RepM E kvs es.toList ∧ ∀ o, E.F ⟨g, o, none⟩ = none
 | .miter m since seen last => ∃ g gm e c, E.blk k 0 = some (g, 0, 0) ∧ E.blk m 0 = some (gm, e, c) ∧ w.heap[g]? = some (.mapIter (some gm) since seen.toArray last) ∧ ∀ o, E.F ⟨g, o, none⟩ = none
 | .siter s pos => ∃ g, E.blk k 0 = some (g, 0, 0) ∧ w.heap[g]? = some (.stringIter s pos) ∧ ∀ o, E.F ⟨g, o, none⟩ = none
 | .niter => ∃ g, E.blk k 0 = some (g, 0, 0) ∧ w.heap[g]? = some (.mapIter none 0 #[] 0) ∧ ∀ o, E.F ⟨g, o, none⟩ = none

def Blk.ver : Blk → Nat
 | .rows v _ _ => v
 | .frz v _ _ => v
 | _ => 0
def Blk.held : Blk → Bool
 | .hole | .dead => false
 | _ => true

structure Sim (E : Env) (w : World) (a : Act) (st : St) : Prop where
 F : ∀ ad x, E.F ad = some x → w.cell? ad = some x
 lt : ∀ k v g e c, E.blk k v = some (g, e, c) → g < w.heap.size
 mem : ∀ k B, st.mem[k]? = some B → BlkOk E w k B
 top : ∀ k, st.mem.length ≤ k → ∀ v, E.blk k v = none
 ver : ∀ k B, st.mem[k]? = some B → ∀ v, B.ver < v → E.blk k v = none
 apart : ∀ k k' v v' g e c e' c', E.blk k v = some (g, e, c) → E.blk k' v' = some (g, e', c') → k = k'
 fr : RepL E st.fr a.tmps.toList

theorem Sim.eval {E : Env} {w : World} {a : Act} {st : St} (h : Sim E w a st) (x : Operand) : Rep E (st.eval x) (a.eval x) := by
 cases x with
 | tmp t =>
  simp only [St.eval,Act.eval]
  cases hv : st.fr[t]? with
  | none => rw [List.getD_eq_getElem?_getD, hv]; exact .undef _ _
  | some v =>
   obtain ⟨x, hx, hr⟩ := h.fr.get hv
   rw [List.getD_eq_getElem?_getD, hv, Array.getD_eq_getD_getElem?]
   simp only [Array.getElem?_toList] at hx
   rw [hx]; exact hr
 | const v => exact absV_rep E v
 | global g =>
  simp only [St.eval,Act.eval]
  split
  ·rename_i hg
   refine .eptr _ _ _ (fun _ => .int .i64 Glob.n) (fun j c hc => ?_) fun j c hc => ?_
   ·match j with
    | 0 => exact E.gl.n g hg
    | j + 1 => simp at hc
   ·match j with
    | 0 => simp at hc; subst hc; exact .gn _
    | j + 1 => simp at hc
  ·split
   ·rename_i cs hcs
    refine .eptr _ _ _ (fun j => (cs[j]?).getD undef) (fun j c hc => ?_) fun j c hc => ?_
    ·simp only [List.getElem?_map,Option.map_eq_some_iff] at hc
     obtain ⟨x, hx, rfl⟩ := hc
     have h1 : (Addr.mk g 0 none).add j = ⟨g, j, none⟩ := by unfold Addr.add; by_cases hj : j = 0 <;> simp [hj]
     rw [h1, hx]
     exact E.gl.t g cs j x hcs hx
    ·simp only [List.getElem?_map,Option.map_eq_some_iff] at hc
     obtain ⟨x, hx, rfl⟩ := hc
     rw [hx]; exact .sc _ _
   ·exact .undef _ _
 | func f => exact .sc _ _

structure Evo (E : Env) (w : World) (E' : Env) (w' : World) : Prop where
 le : E.le E'
 blk : ∀ k v g e c, E'.blk k v = some (g, e, c) → (∃ k0 v0 e0 c0, E.blk k0 v0 = some (g, e0, c0)) ∨ w.heap.size ≤ g
 F : ∀ ad x, E'.F ad = some x → E.F ad = some x ∨ w.heap.size ≤ ad.block ∨ ∃ k0 v0 e0 c0, E.blk k0 v0 = some (ad.block, e0, c0)
 os : w'.os = w.os
 tape : w'.tape = w.tape
 output : w'.output = w.output
 size : w.heap.size ≤ w'.heap.size
 heap : ∀ b, b < w.heap.size → (∀ k v e c, E.blk k v ≠ some (b, e, c)) → w'.heap[b]? = w.heap[b]?

theorem Evo.refl (E : Env) (w : World) : Evo E w E w :=
 ⟨E.le_refl, fun k v g e c h => .inl ⟨k, v, e, c, h⟩, fun _ _ h => .inl h, rfl, rfl, rfl, Nat.le_refl _, fun _ _ _ => rfl⟩
theorem Evo.trans {E E1 E2 : Env} {w w1 w2 : World} (h : Evo E w E1 w1) (k : Evo E1 w1 E2 w2) : Evo E w E2 w2 := by
 refine ⟨Env.le_trans h.le k.le, ?_, ?_, k.os.trans h.os, k.tape.trans h.tape, k.output.trans h.output, Nat.le_trans h.size k.size, ?_⟩
 ·intro q v g e c hq
  rcases k.blk q v g e c hq with ⟨k0, v0, e0, c0, h0⟩ | h0
  ·exact h.blk _ _ _ _ _ h0
  ·exact .inr (Nat.le_trans h.size h0)
 ·intro ad x hx
  rcases k.F ad x hx with h0 | h0 | ⟨k0, v0, e0, c0, h0⟩
  ·exact h.F _ _ h0
  ·exact .inr (.inl (Nat.le_trans h.size h0))
  ·rcases h.blk _ _ _ _ _ h0 with h1 | h1
   ·exact .inr (.inr h1)
   ·exact .inr (.inl h1)
 ·intro b hb hne
  rw [k.heap b (Nat.lt_of_lt_of_le hb h.size) ?_, h.heap b hb hne]
  intro q v e c hq
  rcases h.blk _ _ _ _ _ hq with ⟨k0, v0, e0, c0, h0⟩ | h0
  ·exact hne _ _ _ _ h0
  ·omega
theorem Evo.drew (E : Env) (w : World) : Evo E w E w.drew :=
 ⟨E.le_refl, fun k v g e c h => .inl ⟨k, v, e, c, h⟩, fun _ _ h => .inl h, rfl, rfl, rfl, Nat.le_refl _, fun _ _ _ => rfl⟩
theorem Sim.drew {E : Env} {w : World} {a : Act} {st : St} (h : Sim E w a st) : Sim E w.drew a st :=
 ⟨h.F, h.lt, fun k B hB => by have := h.mem k B hB; cases B <;> exact this, h.top, h.ver, h.apart, h.fr⟩

theorem Sim.put {E : Env} {w : World} {a : Act} {st : St} (h : Sim E w a st) (dst : Option Tmp) {v : V} {x : Value} (hr : Rep E v x) : Sim E w (a.put dst x) (st.put dst v) := by
 cases dst with
 | none => exact h
 | some d => exact ⟨h.F, h.lt, h.mem, h.top, h.ver, h.apart, by simpa [St.put, Act.put] using h.fr.set d hr⟩
end Go.Eng
end

section
namespace Go.Eng
variable [Glob]

def pickCells (tt : Table) (T : TypeId) (cs : List V) : Option V :=
 match tt T with
 | some i => if i.agg then (if i.size ≤ cs.length then some (.agg (cs.take i.size)) else none) else cs.head?
 | none => none

def rowOf (mem : List Blk) (b v i : Nat) : Option V :=
 match mem[b]? with
 | some (.rows v' _ rs) => if v' = v then rs[i]? else none
 | some (.frz v' _ rs) => if v' = v then rs[i]? else none
 | _ => none

def loadV (tt : Table) (mem : List Blk) (T : TypeId) : V → Option V
 | .ptr b o => match mem[b]? with | some (.box cs) => pickCells tt T (cs.drop o) | _ => none
 | .rptr b v i o => match rowOf mem b v i with | some row => pickCells tt T (row.cells.drop o) | none => none
 | .eptr cs => pickCells tt T cs
 | _ => none

def tOff (tt : Table) (S : TypeId) (f : Nat) : Option Nat := match tt S with | some i => (match i.flds[f]? with | some p => some p.1 | none => none) | none => none
def tElem (tt : Table) (T : TypeId) : Option TypeId := match tt T with | some i => i.elem | none => none
def tSize (tt : Table) (T : TypeId) : Option Nat := match tt T with | some i => some i.size | none => none

def fieldAt (off : Nat) : V → Option V
 | .ptr b o => some (.ptr b (o + off))
 | .rptr b v i o => some (.rptr b v i (o + off))
 | .eptr cs => some (.eptr (cs.drop off))
 | _ => none
def fieldV (tt : Table) (S : TypeId) (f : Nat) (x : V) : Option V := match tOff tt S f with | some off => fieldAt off x | none => none

def sizeOfBlk (mem : List Blk) (b v : Nat) : Option Nat :=
 match mem[b]? with
 | some (.rows v' e _) => if v' = v then some e else none
 | some (.frz v' e _) => if v' = v then some e else none
 | _ => none

def indexAt (mem : List Blk) (size : Nat) (n : Int) : V → Option V
 | .slice rows => if 0 ≤ n then (match rows[n.toNat]? with | some row => if row.cells.length = size then some (.eptr row.cells) else none | none => none) else none
 | .ms b v s l => if 0 ≤ n ∧ n < l ∧ sizeOfBlk mem b v = some size then some (.rptr b v (s + n.toNat) 0) else none
 | _ => none
def indexV (tt : Table) (mem : List Blk) (T : TypeId) (x i : V) : Option V :=
 match i with
 | .sc (.int _ n) => match tElem tt T with
  | some e => match tSize tt e with
   | some size => indexAt mem size n x
   | none => none
  | none => none
 | _ => none

theorem add_add (a : Addr) (m n : Nat) : (a.add m).add n = a.add (m + n) := by
 unfold Addr.add
 by_cases hm : m = 0 <;> by_cases hn : n = 0 <;> simp [hm, hn, Nat.add_assoc]
theorem add_lit (b o n : Nat) : (Addr.mk b o none).add n = ⟨b, o + n, none⟩ := by
 unfold Addr.add; by_cases hn : n = 0 <;> simp [hn]

theorem run_underlyingP {P : Program} {t : TypeId} {d : TypeDesc} (h : P.underlying t = some d) (w : World) : (underlying t).run P w = .ok d w := by
 simp [underlying, h]
theorem run_typeInfoP {P : Program} {t : TypeId} {i : TypeInfo} (h : P.info? t = some i) (w : World) : (typeInfo t).run P w = .ok i w := by
 simp [typeInfo, h]
theorem run_sizeOfP {P : Program} {t : TypeId} {i : TypeInfo} (h : P.info? t = some i) (w : World) : (sizeOf t).run P w = .ok i.size w := by
 simp [sizeOf, run_typeInfoP h]
theorem TT.isAgg {P : Program} {tt : Table} (h : TT P tt) {t : TypeId} {i : Ti} (ht : tt t = some i) (w : World) : (isAgg t).run P w = .ok i.agg w := by
 obtain ⟨d, hd, ha, -⟩ := h.desc t i ht
 simp only [Go.isAgg,Sem.run_bind,run_underlyingP hd,Result.andThen_ok]
 cases hi : i.agg with
 | true =>
  rcases ha.1 hi with ⟨fs, rfl⟩ | ⟨n, e, rfl⟩ <;> rfl
 | false =>
  have : ¬ ((∃ fs, d = .struct fs) ∨ ∃ n e, d = .array n e) := fun hh => by rw [ha.2 hh] at hi; cases hi
  cases d <;> first | rfl | (exfalso; apply this; first | exact .inl ⟨_, rfl⟩ | exact .inr ⟨_, _, rfl⟩)
theorem TT.sizeOf {P : Program} {tt : Table} (h : TT P tt) {t : TypeId} {i : Ti} (ht : tt t = some i) (w : World) : (Go.sizeOf t).run P w = .ok i.size w := by
 obtain ⟨info, h1, h2, -⟩ := h.size t i ht
 rw [run_sizeOfP h1, h2]

def CellsAt (E : Env) (w : World) (ad : Addr) (cs : List V) : Prop := ∀ (j : Nat) (c : V), cs[j]? = some c → ∃ x, w.cell? (ad.add j) = some x ∧ Rep E c x
theorem CellsAt.drop {E : Env} {w : World} {ad : Addr} {cs : List V} (h : CellsAt E w ad cs) (n : Nat) : CellsAt E w (ad.add n) (cs.drop n) := fun j c hc => by
 rw [add_add]; exact h _ _ (by simpa using hc)

theorem pickCells_sound {P : Program} {tt : Table} (ht : TT P tt) {E : Env} {w : World} {ad : Addr} {cs : List V} {T : TypeId} {v : V} (h : CellsAt E w ad cs) (hp : pickCells tt T cs = some v) :
  ∃ x, (loadVar T ad).run P w = .ok x w ∧ Rep E v x := by
 unfold pickCells at hp
 cases hi : tt T with
 | none => rw [hi] at hp; simp at hp
 | some i =>
  rw [hi] at hp; simp only at hp
  cases ha : i.agg with
  | false =>
   simp only [ha,Bool.false_eq_true,if_false] at hp
   obtain ⟨x, hx, hr⟩ := h 0 v (by simpa [List.head?_eq_getElem?] using hp)
   have h0 : ad.add 0 = ad := by simp [Addr.add]
   rw [h0] at hx
   refine ⟨x, ?_, hr⟩
   simp [loadVar, ht.isAgg hi, ha, hx]
  | true =>
   simp only [ha,if_true] at hp
   split at hp
   ·rename_i hle
    simp only [Option.some.injEq] at hp; subst hp
    have hx : ∀ j, j < i.size → ∃ x, w.cell? (ad.add j) = some x ∧ ∀ c, cs[j]? = some c → Rep E c x := fun j hj => by
     have hjl : j < cs.length := by omega
     obtain ⟨x, hx, hr⟩ := h j _ (List.getElem?_eq_getElem hjl)
     exact ⟨x, hx, fun c hc => by rw [List.getElem?_eq_getElem hjl] at hc; cases hc; exact hr⟩
    let f : Nat → Value := fun j => (w.cell? (ad.add j)).getD default
    have hf : ∀ j, j < i.size → w.cell? (ad.add j) = some (f j) := fun j hj => by
     obtain ⟨x, hx, -⟩ := hx j hj
     simp [f, hx]
    refine ⟨.agg ((List.range i.size).map f).toArray, ?_, ?_⟩
    ·simp only [loadVar,Sem.run_bind,ht.isAgg hi,Result.andThen_ok,ha,if_true,ht.sizeOf hi]
     rw [run_loadCells w ad i.size f hf]
     simp
    ·refine .agg _ _ _ (by simp; omega) fun j c x hc hxx => ?_
     have hj : j < i.size := by
      by_cases hj : j < i.size
      ·exact hj
      ·rw [List.getElem?_take] at hc; simp [hj] at hc
     rw [List.getElem?_take_of_lt hj] at hc
     obtain ⟨y, hy, hr⟩ := hx j hj
     simp [hj] at hxx
     rw [← hxx]
     have : f j = y := by simp [f, hy]
     rw [this]; exact hr c hc
   ·simp at hp

theorem eptr_cells {E : Env} {w : World} (hF : ∀ ad x, E.F ad = some x → w.cell? ad = some x) {cs : List V} {x : Value} (h : Rep E (.eptr cs) x) : ∃ ad, x = .pointer (some ad) ∧ CellsAt E w ad cs := by
 cases h with
 | eptr _ _ ad xf hf hr => exact ⟨ad, rfl, fun j c hc => ⟨xf j, hF _ _ (hf j c hc), (hr j c hc).mono E.pure_le⟩⟩

theorem cell_at {w : World} {g : Nat} {xs : Array Value} {T : TypeId} {fz : Nat × Nat} (h : w.heap[g]? = some (.cells xs T fz)) (o : Nat) : w.cell? ⟨g, o, none⟩ = xs[o]? := by
 simp [World.cell?, h]

theorem ptr_cells {E : Env} {w : World} {a : Act} {st : St} (hs : Sim E w a st) {b o : Nat} {cs : List V} (hm : st.mem[b]? = some (.box cs)) {x : Value} (h : Rep E (.ptr b o) x) :
  ∃ ad, x = .pointer (some ad) ∧ CellsAt E w ad (cs.drop o) := by
 cases h with
 | ptr _ _ _ g e c hb =>
  obtain ⟨g', T, xs, hb', hh, hr, -⟩ := hs.mem b _ hm
  rw [hb] at hb'; cases hb'
  refine ⟨_, rfl, fun j c hc => ?_⟩
  rw [add_lit, cell_at hh]
  obtain ⟨y, hy, hyr⟩ := hr.get (i := o + j) (by simpa using hc)
  exact ⟨y, by simpa using hy, hyr⟩

theorem rptr_cells {E : Env} {w : World} {a : Act} {st : St} (hs : Sim E w a st) {b v i o : Nat} {row : V} (hm : rowOf st.mem b v i = some row) {x : Value} (h : Rep E (.rptr b v i o) x) :
  ∃ ad, x = .pointer (some ad) ∧ CellsAt E w ad (row.cells.drop o) := by
 cases h with
 | rptr _ _ _ _ _ g e c hb =>
  refine ⟨_, rfl, fun j cc hc => ?_⟩
  rw [add_lit]
  have hc' : row.cells[o + j]? = some cc := by simpa using hc
  unfold rowOf at hm
  split at hm
  ·rename_i v' e' rs hk
   split at hm
   ·rename_i hv
    subst hv
    rcases hs.mem b _ hk with ⟨rfl, -⟩ | ⟨g', T, xs, c', hb', hh, -, -, hr, -⟩
    ·simp at hm
    rw [hb] at hb'; cases hb'
    obtain ⟨-, h2⟩ := hr i row hm
    obtain ⟨y, hy, -, hyr⟩ := h2 _ _ hc'
    exact ⟨y, by rw [cell_at hh, Nat.add_assoc]; exact hy, hyr.mono E.pure_le⟩
   ·cases hm
  ·rename_i v' e' rs hk
   split at hm
   ·rename_i hv
    subst hv
    rcases hs.mem b _ hk with ⟨rfl, -⟩ | ⟨g', c', hb', -, hr⟩
    ·simp at hm
    rw [hb] at hb'; cases hb'
    obtain ⟨-, h2⟩ := hr i row hm
    obtain ⟨y, hy, -, hyr⟩ := h2 _ _ hc'
    exact ⟨y, hs.F _ _ (by rw [Nat.add_assoc]; exact hy), hyr.mono E.pure_le⟩
   ·cases hm
  ·simp at hm

theorem loadV_sound {P : Program} {tt : Table} (ht : TT P tt) {E : Env} {w : World} {a : Act} {st : St} (hs : Sim E w a st) {T : TypeId} {p v : V} {x : Value} (hr : Rep E p x) (h : loadV tt st.mem T p = some v) :
  ∃ y, (Instr.loadAt T x).run P w = .ok y w ∧ Rep E v y := by
 have key : ∃ ad cs, x = .pointer (some ad) ∧ CellsAt E w ad cs ∧ pickCells tt T cs = some v := by
  unfold loadV at h
  split at h
  ·split at h
   ·rename_i hm
    obtain ⟨ad, h1, h2⟩ := ptr_cells hs hm hr
    exact ⟨ad, _, h1, h2, h⟩
   ·simp at h
  ·split at h
   ·rename_i hm
    obtain ⟨ad, h1, h2⟩ := rptr_cells hs hm hr
    exact ⟨ad, _, h1, h2, h⟩
   ·simp at h
  ·obtain ⟨ad, h1, h2⟩ := eptr_cells hs.F hr
   exact ⟨ad, _, h1, h2, h⟩
  ·simp at h
 obtain ⟨ad, cs, rfl, hc, hp⟩ := key
 obtain ⟨y, hy, hyr⟩ := pickCells_sound ht hc hp
 exact ⟨y, by simp [Instr.loadAt, Instr.sureAddr, hy], hyr⟩

theorem fieldV_sound {P : Program} {tt : Table} (ht : TT P tt) {E : Env} {S : TypeId} {f : Nat} {p v : V} {x : Value} (hr : Rep E p x) (h : fieldV tt S f p = some v) (w : World) :
  ∃ y, (Instr.fieldAt S x f).run P w = .ok y w ∧ Rep E v y := by
 unfold fieldV tOff at h
 cases hi : tt S with
 | none => rw [hi] at h; simp at h
 | some i =>
  rw [hi] at h; simp only at h
  cases ho : i.flds[f]? with
  | none => rw [ho] at h; simp at h
  | some off =>
   rw [ho] at h; simp only at h
   obtain ⟨d, hd, -, -, hoff⟩ := ht.desc S i hi
   obtain ⟨fs, fd, inf, rfl, -, hf, ho1, hin, hs1, hs2⟩ := hoff f off.1 off.2 ho
   have hsz : inf.size ≠ 0 := by omega
   obtain ⟨off, sz⟩ := off
   dsimp only at ho1
   subst ho1
   have run : ∀ ad, (Instr.fieldAt S (.pointer (some ad)) f).run P w = .ok (.pointer (some (ad.add fd.offset))) w := fun ad => by
    simp [Instr.fieldAt, run_underlyingP hd, hf, Instr.sureAddr, fieldPlace, run_sizeOfP hin, hsz]
   unfold Eng.fieldAt at h
   split at h
   ·simp only [Option.some.injEq] at h; subst h
    cases hr with
    | ptr _ _ _ g e c hb => exact ⟨_, run _, by rw [add_lit]; exact .ptr _ _ _ g e c hb⟩
   ·simp only [Option.some.injEq] at h; subst h
    cases hr with
    | rptr _ _ _ _ _ g e c hb => exact ⟨_, run _, by rw [add_lit, Nat.add_assoc]; exact .rptr _ _ _ _ _ g e c hb⟩
   ·simp only [Option.some.injEq] at h; subst h
    cases hr with
    | eptr _ _ ad xf hf hr => exact ⟨_, run _, .eptr _ _ _ (fun j => xf (fd.offset + j)) (fun j c hc => by rw [add_add]; exact hf _ _ (by simpa using hc)) fun j c hc => hr _ _ (by simpa using hc)⟩
   ·simp at h

theorem blk_size {E : Env} {w : World} {a : Act} {st : St} (hs : Sim E w a st) {b v size g e c : Nat} (h : sizeOfBlk st.mem b v = some size) (hb : E.blk b v = some (g, e, c)) : e = size := by
 unfold sizeOfBlk at h
 split at h
 ·rename_i hk
  split at h
  ·rename_i hv
   subst hv
   rcases hs.mem b _ hk with ⟨-, hn⟩ | ⟨g', T', xs, c', hb', -⟩
   ·rw [hb] at hn; cases hn
   rw [hb] at hb'; cases hb'; simpa using h
  ·cases h
 ·rename_i hk
  split at h
  ·rename_i hv
   subst hv
   rcases hs.mem b _ hk with ⟨-, hn⟩ | ⟨g', c', hb', -⟩
   ·rw [hb] at hn; cases hn
   rw [hb] at hb'; cases hb'; simpa using h
  ·cases h
 ·simp at h

theorem indexV_sound {P : Program} {tt : Table} (ht : TT P tt) {E : Env} {w : World} {a : Act} {st : St} (hs : Sim E w a st) {T : TypeId} {p i v : V} {x y : Value} (hp : Rep E p x) (hi : Rep E i y) (h : indexV tt st.mem T p i = some v) :
  ∃ z, (Instr.indexAt T x y).run P w = .ok z w ∧ Rep E v z := by
 unfold indexV at h
 split at h
 ·rename_i k n
  cases hi with
  | sc =>
  unfold tElem tSize at h
  cases hT : tt T with
  | none => rw [hT] at h; simp at h
  | some iT =>
   rw [hT] at h; simp only at h
   cases he : iT.elem with
   | none => rw [he] at h; simp at h
   | some e =>
    rw [he] at h; simp only at h
    cases hE : tt e with
    | none => rw [hE] at h; simp at h
    | some ie =>
     rw [hE] at h; simp only at h
     obtain ⟨d, hd, -, hsl, -⟩ := ht.desc T iT hT
     obtain rfl := hsl e he
     have run : ∀ (ad : Addr) (len cap : Nat), 0 ≤ n → n < len → (Instr.indexAt T (.slice (some ad) len cap) (.int k n)).run P w = .ok (.pointer (some (ad.add (n.toNat * ie.size)))) w := fun ad len cap h0 h1 => by
      simp [Instr.indexAt, asIntOf, run_underlyingP hd, ht.sizeOf hE, h0, h1]
     unfold Eng.indexAt at h
     split at h
     ·rename_i rows
      split at h
      ·rename_i h0
       split at h
       ·rename_i row hrow
        split at h
        ·rename_i hlen
         simp only [Option.some.injEq] at h; subst h
         cases hp with
         | slice _ _ aa cap esz ad xf ha hcap hz hF h1 hR =>
          have hlt : n.toNat < rows.length := (List.getElem?_eq_some_iff.1 hrow).1
          have hne : rows ≠ [] := by rintro rfl; simp at hlt
          obtain rfl := ha hne
          have hesz : esz = ie.size := by rw [← hz _ _ hrow, hlen]
          subst hesz
          exact ⟨_, run ad _ cap h0 (by omega), .eptr _ _ _ (fun j => xf n.toNat j) (fun j c hc => by rw [add_add]; exact hF _ _ _ _ hrow hc) fun j c hc => hR _ _ _ _ hrow hc⟩
        ·simp at h
       ·simp at h
      ·simp at h
     ·rename_i b v s l
      split at h
      ·rename_i h0
       obtain ⟨h0, h1, h2⟩ := h0
       simp only [Option.some.injEq] at h; subst h
       cases hp with
       | msnil => simp at h1; omega
       | ms _ _ _ _ _ g e' c aa cap hb hl h00 hc =>
        obtain rfl := hl (by omega)
        have hee : e' = ie.size := blk_size hs h2 hb
        subst hee
        refine ⟨_, run _ _ cap h0 h1, ?_⟩
        have := Rep.rptr E b v (s + n.toNat) 0 g ie.size c hb
        rw [add_lit, ← Nat.add_mul]
        simpa using this
      ·simp at h
     ·simp at h
 ·simp at h
end Go.Eng
end

section
namespace Go.Eng
variable [Glob]

def allSc : List V → Option (List Value)
 | [] => some []
 | .sc v :: r => match allSc r with | some l => some (v :: l) | none => none
 | _ :: _ => none

def toVal : V → Option Value
 | .sc v => some v
 | .agg cs => match allSc cs with | some l => some (.agg l.toArray) | none => none
 | _ => none

theorem allSc_rep {E : Env} : ∀ {vs : List V} {xs : List Value} {l : List Value}, RepL E vs xs → allSc vs = some l → xs = l
 | [], xs, l, h, hl => by simp [allSc] at hl; subst hl; exact h.of_nil
 | v :: vs, xs, l, h, hl => by
  obtain ⟨x, ys, rfl, h1, h2⟩ := h.of_cons
  cases v with
  | sc v =>
   simp only [allSc] at hl
   split at hl
   ·rename_i l' hl'
    simp only [Option.some.injEq] at hl; subst hl
    cases h1
    rw [allSc_rep h2 hl']
   ·simp at hl
  | _ => simp [allSc] at hl

theorem toVal_rep {E : Env} {v : V} {x y : Value} (h : Rep E v x) (hv : toVal v = some y) : x = y := by
 cases v with
 | sc v => cases h; simpa [toVal] using hv
 | agg cs =>
  simp only [toVal] at hv
  split at hv
  ·rename_i l hl
   simp only [Option.some.injEq] at hv; subst hv
   cases h with
   | agg _ _ xs hlen hr =>
    have := allSc_rep (E := E) (xs := xs.toList) ⟨by simpa using hlen, fun i c x hc hx => hr i c x hc (by simpa using hx)⟩ hl
    rw [← this]
  ·simp at hv
 | _ => simp [toVal] at hv

def lift1 (P : Program) (f : Value → Sem Value) (x : V) : Option V :=
 match toVal x with
 | some a => match scRunP P (f a) with | some v => some (absV v) | none => none
 | none => none
def lift2 (P : Program) (f : Value → Value → Sem Value) (x y : V) : Option V :=
 match toVal x with
 | some a => match toVal y with
  | some b => match scRunP P (f a b) with | some v => some (absV v) | none => none
  | none => none
 | none => none

theorem lift1_sound {P : Program} {f : Value → Sem Value} {E : Env} {w : World} {x v : V} {a : Value} (hx : Rep E x a) (h : lift1 P f x = some v) : ∃ y, (f a).run P w = .ok y w ∧ Rep E v y := by
 unfold lift1 at h
 split at h
 ·rename_i a' ha
  cases toVal_rep hx ha
  split at h
  ·rename_i y hy
   simp only [Option.some.injEq] at h; subst h
   exact ⟨y, scRunP_sound _ hy w, absV_rep E y⟩
  ·simp at h
 ·simp at h
theorem lift2_sound {P : Program} {f : Value → Value → Sem Value} {E : Env} {w : World} {x y v : V} {a b : Value} (hx : Rep E x a) (hy : Rep E y b) (h : lift2 P f x y = some v) :
  ∃ z, (f a b).run P w = .ok z w ∧ Rep E v z := by
 unfold lift2 at h
 split at h
 ·rename_i a' ha
  cases toVal_rep hx ha
  split at h
  ·rename_i b' hb
   cases toVal_rep hy hb
   split at h
   ·rename_i z hz
    simp only [Option.some.injEq] at h; subst h
    exact ⟨z, scRunP_sound _ hz w, absV_rep E z⟩
   ·simp at h
  ·simp at h
 ·simp at h

def nilV : V → Option V
 | .ptr b o => some (.ptr b o)
 | .rptr b v i o => some (.rptr b v i o)
 | .eptr cs => some (.eptr cs)
 | .clo (.func f) a b => some (.clo (.func f) a b)
 | .sc (.func (.func f) a b) => some (.sc (.func (.func f) a b))
 | _ => none

def firstOk (rows : List V) (l size : Nat) : Bool := match rows[l]? with | some row => row.cells.length == size | none => true

def cutAt (mem : List Blk) (size : Nat) (l : Int) (h : Option Int) : V → Option V
 | .slice rows =>
  if 0 ≤ l ∧ l ≤ h.getD rows.length ∧ h.getD rows.length ≤ rows.length ∧ firstOk rows l.toNat size = true then some (.slice ((rows.drop l.toNat).take (h.getD rows.length - l).toNat)) else none
 | .ms b v s n =>
  if 0 ≤ l ∧ l ≤ h.getD n ∧ h.getD n ≤ n ∧ sizeOfBlk mem b v = some size then some (.ms b v (s + l.toNat) (h.getD n - l).toNat) else none
 | _ => none

def intV : V → Option Int
 | .sc (.int _ n) => some n
 | _ => none

def cutV (P : Program) (tt : Table) (mem : List Blk) (T : TypeId) (x : V) (lo hi : Option V) : Option V :=
 match x with
 | .sc a => match lo with
  | none => match hi with
   | none => lift1 P (fun a => Instr.sliceAt T a none none none) (.sc a)
   | some h => lift2 P (fun a h => Instr.sliceAt T a none (some h) none) (.sc a) h
  | some l => match hi with
   | none => lift2 P (fun a l => Instr.sliceAt T a (some l) none none) (.sc a) l
   | some h => match toVal h with
    | some h => lift2 P (fun a l => Instr.sliceAt T a (some l) (some h) none) (.sc a) l
    | none => none
 | x => match tElem tt T with
  | none => none
  | some e => match tSize tt e with
   | none => none
   | some size => match lo with
    | none => match hi with
     | none => cutAt mem size 0 none x
     | some h => match intV h with | some h => cutAt mem size 0 (some h) x | none => none
    | some l => match intV l with
     | none => none
     | some l => match hi with
      | none => cutAt mem size l none x
      | some h => match intV h with | some h => cutAt mem size l (some h) x | none => none

theorem intV_rep {E : Env} {v : V} {x : Value} {n : Int} (h : Rep E v x) (hv : intV v = some n) : ∃ k, x = .int k n := by
 unfold intV at hv
 split at hv
 ·cases h; simp at hv; subst hv; exact ⟨_, rfl⟩
 ·simp at hv

theorem cutAt_sound {E : Env} {w : World} {a : Act} {st : St} (hs : Sim E w a st) {size : Nat} {l : Int} {h : Option Int} {x v : V} {y : Value} (hx : Rep E x y) (hc : cutAt st.mem size l h x = some v) :
  ∃ aa len cap, y = .slice aa len cap ∧ 0 ≤ l ∧ l ≤ h.getD len ∧ h.getD len ≤ len ∧ len ≤ cap ∧
   Rep E v (.slice (if cap = l.toNat then aa else aa.map (·.add (l.toNat * size))) (h.getD len - l).toNat (cap - l.toNat)) := by
 unfold cutAt at hc
 split at hc
 ·rename_i rows
  split at hc
  ·rename_i hh
   obtain ⟨h0, h1, h2, h3⟩ := hh
   simp only [Option.some.injEq] at hc; subst hc
   cases hx with
   | slice _ _ aa cap esz ad xf ha hcap hz hF hone hR =>
    refine ⟨aa, rows.length, cap, rfl, h0, h1, h2, hcap, ?_⟩
    have hlen : ((rows.drop l.toNat).take (h.getD rows.length - l).toNat).length = (h.getD rows.length - l).toNat := by simp; omega
    have hg : ∀ (i : Nat) (row : V), ((rows.drop l.toNat).take (h.getD rows.length - l).toNat)[i]? = some row → rows[l.toNat + i]? = some row := fun i row hi => by
     rw [List.getElem?_take] at hi
     split at hi
     ·simpa using hi
     ·simp at hi
    suffices hgoal : Rep E (.slice ((rows.drop l.toNat).take (h.getD rows.length - l).toNat)) (.slice (if cap = l.toNat then aa else aa.map (·.add (l.toNat * size))) ((rows.drop l.toNat).take (h.getD rows.length - l).toNat).length (cap - l.toNat)) by
     rw [hlen] at hgoal; exact hgoal
    refine .slice _ _ _ (cap - l.toNat) esz (ad.add (l.toNat * esz)) (fun i j => xf (l.toNat + i) j) (fun hne => ?_) (by rw [hlen]; omega) (fun i row hi => hz _ _ (hg i row hi))
     (fun i row j c hi hj => by rw [add_add, ← Nat.add_assoc, ← Nat.add_mul]; exact hF _ _ _ _ (hg i row hi) hj) (fun i row j c hi hj => hone _ _ _ _ (hg i row hi) hj) fun i row j c hi hj => hR _ _ _ _ (hg i row hi) hj
    have hlt : l.toNat < rows.length := by
     rcases Nat.lt_or_ge l.toNat rows.length with hlt | hge
     ·exact hlt
     ·exact absurd (by rw [List.drop_eq_nil_of_le hge]; simp) hne
    have hne' : rows ≠ [] := by rintro rfl; simp at hlt
    rw [if_neg (by omega), ha hne']
    unfold firstOk at h3
    rw [List.getElem?_eq_getElem hlt] at h3
    simp only [beq_iff_eq] at h3
    rw [← h3, hz _ _ (List.getElem?_eq_getElem hlt)]
    rfl
  ·simp at hc
 ·rename_i b v s n
  split at hc
  ·rename_i hh
   obtain ⟨h0, h1, h2, h3⟩ := hh
   simp only [Option.some.injEq] at hc; subst hc
   cases hx with
   | msnil =>
    refine ⟨none, 0, 0, rfl, h0, h1, h2, Nat.le_refl _, ?_⟩
    have e1 : l.toNat = 0 := by have : ((0 : Nat) : Int) = 0 := rfl; omega
    have e2 : (h.getD (0 : Nat) - l).toNat = 0 := by have : ((0 : Nat) : Int) = 0 := rfl; omega
    rw [e1, e2]
    exact .msnil _ _ _ _
   | ms _ _ _ _ _ g e c aa cap hb hl h00 hcc =>
    obtain rfl := blk_size hs h3 hb
    refine ⟨aa, n, cap, rfl, h0, h1, h2, hcc.1, ?_⟩
    refine .ms _ _ _ _ _ g e c _ _ hb (fun hp => ?_) (fun hz => ?_) ⟨by omega, by omega, fun hp => by
     rw [if_neg (by omega), hcc.2.2 (by omega)]
     simp only [Option.map_some,add_lit,← Nat.add_mul]⟩
    ·rw [if_neg (by omega), hl (by omega)]
     simp only [Option.map_some,add_lit,← Nat.add_mul]
    ·obtain ⟨h5, h6⟩ := h00 (by omega)
     have : l.toNat = 0 := by omega
     rw [this, h5]
     refine ⟨?_, by omega⟩
     split
     ·rfl
     ·simp [Addr.add]
  ·simp at hc
 ·simp at hc

theorem run_sliceAt {P : Program} {tt : Table} (ht : TT P tt) {T e : TypeId} {size : Nat} (he : tElem tt T = some e) (hz : tSize tt e = some size) (w : World) (aa : Option Addr) (len cap : Nat) (lo hi : Option Value)
  (l : Int) (h : Option Int) (hlo : (lo = none ∧ l = 0) ∨ ∃ k, lo = some (.int k l)) (hhi : (hi = none ∧ h = none) ∨ ∃ k n, hi = some (.int k n) ∧ h = some n)
  (h0 : 0 ≤ l) (h1 : l ≤ h.getD len) (h2 : h.getD len ≤ len) (h3 : len ≤ cap) :
  (Instr.sliceAt T (.slice aa len cap) lo hi none).run P w = .ok (.slice (if cap = l.toNat then aa else aa.map (·.add (l.toNat * size))) (h.getD len - l).toNat (cap - l.toNat)) w := by
 unfold tElem at he
 unfold tSize at hz
 cases hT : tt T with
 | none => rw [hT] at he; simp at he
 | some iT =>
  rw [hT] at he; simp only at he
  cases hE : tt e with
  | none => rw [hE] at hz; simp at hz
  | some ie =>
   rw [hE] at hz; simp only [Option.some.injEq] at hz; subst hz
   obtain ⟨d, hd, -, hsl, -⟩ := ht.desc T iT hT
   obtain rfl := hsl e he
   have hsub : ∀ m : Int, (m - l).toNat = m.toNat - l.toNat := fun m => by omega
   rcases hlo with ⟨rfl, rfl⟩ | ⟨k, rfl⟩ <;> rcases hhi with ⟨rfl, rfl⟩ | ⟨k', n, rfl, rfl⟩ <;>
    simp only [Option.getD_some,Option.getD_none] at h1 h2 ⊢ <;>
    simp only [Instr.sliceAt,Instr.slice,Sem.run_bind,run_underlyingP hd,Result.andThen_ok,Instr.sliceBounds,Instr.sliceBound,asIntOf,Sem.run_pure,ht.sizeOf hE,Option.isSome_none]
   ·simp
   ·rw [if_pos ⟨by omega, by omega⟩]; simp
   ·rw [if_pos ⟨by omega, by omega⟩]; simp; omega
   ·rw [if_pos ⟨by omega, by omega⟩]
    simp only [Sem.run_pure,Result.andThen_ok]
    rw [if_pos ⟨by omega, by omega⟩]
    simp; omega
end Go.Eng
end

section
namespace Go.Eng
variable [Glob]

def findNowV (kind : TypeDesc) (k : Value) : List (Value × Nat × V) → Nat → Option (Option (Nat × V))
 | [], _ => some none
 | e :: r, i => match Instr.sameNow kind k e.1 with
  | some true => some (some (i, e.2.2))
  | some false => findNowV kind k r (i + 1)
  | none => none
def findAskV (P : Program) (T : TypeId) (k : Value) : List (Value × Nat × V) → Nat → Option (Option (Nat × V))
 | [], _ => some none
 | e :: r, i => match scRunP P (Op.equal T k e.1) with
  | some true => some (some (i, e.2.2))
  | some false => findAskV P T k r (i + 1)
  | none => none
def findV (P : Program) (T : TypeId) (k : Value) (kvs : List (Value × Nat × V)) : Option (Option (Nat × V)) :=
 match P.underlying T with
 | some d => match findNowV d k kvs 0 with
  | some r => some r
  | none => findAskV P T k kvs 0
 | none => none

def Found (E : Env) (kvs : List (Value × Nat × V)) (es : List MapEntry) : Option (Nat × V) → Option (Nat × Value) → Prop
 | none, none => True
 | some (i, v), some (j, x) => i = j ∧ Rep E v x ∧ ∃ kb e, kvs[i]? = some kb ∧ es[i]? = some e ∧ kb.2.2 = v ∧ e.val = x
 | _, _ => False

theorem RepM.get {E : Env} {kvs : List (Value × Nat × V)} {es : List MapEntry} (h : RepM E kvs es) {i : Nat} {kb : Value × Nat × V} (hk : kvs[i]? = some kb) : ∃ e, es[i]? = some e ∧ e.key = kb.1 ∧ e.born = kb.2.1 ∧ Rep E kb.2.2 e.val := by
 have hi : i < es.length := by rw [← h.1]; exact (List.getElem?_eq_some_iff.1 hk).1
 exact ⟨es[i], List.getElem?_eq_getElem hi, h.2 i kb _ hk (List.getElem?_eq_getElem hi)⟩
theorem RepM.drop {E : Env} {kvs : List (Value × Nat × V)} {es : List MapEntry} (h : RepM E kvs es) (n : Nat) : RepM E (kvs.drop n) (es.drop n) :=
 ⟨by simp [h.1], fun i k e hk he => h.2 (n + i) k e (by simpa using hk) (by simpa using he)⟩
theorem RepM.of_nil {E : Env} {es : List MapEntry} (h : RepM E [] es) : es = [] := by have := h.1; simp at this; exact List.length_eq_zero_iff.1 this.symm
theorem RepM.of_cons {E : Env} {k : Value × Nat × V} {r : List (Value × Nat × V)} {es : List MapEntry} (h : RepM E (k :: r) es) : ∃ e es', es = e :: es' ∧ e.key = k.1 ∧ e.born = k.2.1 ∧ Rep E k.2.2 e.val ∧ RepM E r es' := by
 cases es with
 | nil => have := h.1; simp at this
 | cons e es' =>
  obtain ⟨h1, h2, h3⟩ := h.2 0 k e rfl rfl
  exact ⟨e, es', rfl, h1, h2, h3, by have := h.1; simpa using this, fun i k' e' hk he => h.2 (i + 1) k' e' (by simpa using hk) (by simpa using he)⟩

theorem findNowV_sound {E : Env} {kind : TypeDesc} {k : Value} {kvs : List (Value × Nat × V)} {es : List MapEntry} (h : RepM E kvs es) : ∀ (n : Nat) {r : Option (Nat × V)}, findNowV kind k (kvs.drop n) n = some r →
  ∃ r', Instr.findNow kind k (es.drop n) n = some r' ∧ Found E kvs es r r' := by
 intro n
 generalize hl : kvs.length - n = m
 induction m generalizing n with
 | zero =>
  intro r hr
  have h1 : kvs.drop n = [] := List.drop_eq_nil_of_le (by omega)
  have h2 : es.drop n = [] := List.drop_eq_nil_of_le (by have := h.1; omega)
  rw [h1] at hr; rw [h2]
  simp only [findNowV,Option.some.injEq] at hr; subst hr
  exact ⟨none, rfl, trivial⟩
 | succ m ih =>
  intro r hr
  have hn : n < kvs.length := by omega
  have hn' : n < es.length := by have := h.1; omega
  rw [List.drop_eq_getElem_cons hn] at hr
  rw [List.drop_eq_getElem_cons hn']
  have hk := List.getElem?_eq_getElem hn
  have he := List.getElem?_eq_getElem hn'
  obtain ⟨h1, h2, h3⟩ := h.2 n _ _ hk he
  simp only [findNowV] at hr
  simp only [Instr.findNow,h1]
  split at hr
  ·rename_i hs; rw [hs]; simp only [Option.some.injEq] at hr; subst hr
   exact ⟨_, rfl, rfl, h3, _, _, hk, he, rfl, rfl⟩
  ·rename_i hs; rw [hs]; exact ih (n + 1) (by omega) hr
  ·cases hr
theorem findNowV_none {E : Env} {kind : TypeDesc} {k : Value} {kvs : List (Value × Nat × V)} {es : List MapEntry} (h : RepM E kvs es) : ∀ (n : Nat), findNowV kind k (kvs.drop n) n = none → Instr.findNow kind k (es.drop n) n = none := by
 intro n
 generalize hl : kvs.length - n = m
 induction m generalizing n with
 | zero =>
  intro hr
  have h1 : kvs.drop n = [] := List.drop_eq_nil_of_le (by omega)
  rw [h1] at hr
  simp [findNowV] at hr
 | succ m ih =>
  intro hr
  have hn : n < kvs.length := by omega
  have hn' : n < es.length := by have := h.1; omega
  rw [List.drop_eq_getElem_cons hn] at hr
  rw [List.drop_eq_getElem_cons hn']
  obtain ⟨h1, h2, h3⟩ := h.2 n _ _ (List.getElem?_eq_getElem hn) (List.getElem?_eq_getElem hn')
  simp only [findNowV] at hr
  simp only [Instr.findNow,h1]
  split at hr
  ·cases hr
  ·rename_i hs; rw [hs]; exact ih (n + 1) (by omega) hr
  ·rename_i hs; rw [hs]
theorem findAskV_sound {P : Program} {E : Env} {T : TypeId} {k : Value} {kvs : List (Value × Nat × V)} {es : List MapEntry} (h : RepM E kvs es) (w : World) : ∀ (n : Nat) {r : Option (Nat × V)}, findAskV P T k (kvs.drop n) n = some r →
  ∃ r', (Instr.findAsking T k (es.drop n) n).run P w = .ok r' w ∧ Found E kvs es r r' := by
 intro n
 generalize hl : kvs.length - n = m
 induction m generalizing n with
 | zero =>
  intro r hr
  have h1 : kvs.drop n = [] := List.drop_eq_nil_of_le (by omega)
  have h2 : es.drop n = [] := List.drop_eq_nil_of_le (by have := h.1; omega)
  rw [h1] at hr; rw [h2]
  simp only [findAskV,Option.some.injEq] at hr; subst hr
  exact ⟨none, rfl, trivial⟩
 | succ m ih =>
  intro r hr
  have hn : n < kvs.length := by omega
  have hn' : n < es.length := by have := h.1; omega
  rw [List.drop_eq_getElem_cons hn] at hr
  rw [List.drop_eq_getElem_cons hn']
  have hk := List.getElem?_eq_getElem hn
  have he := List.getElem?_eq_getElem hn'
  obtain ⟨h1, h2, h3⟩ := h.2 n _ _ hk he
  simp only [findAskV] at hr
  simp only [Instr.findAsking,h1,Sem.run_bind]
  split at hr
  ·rename_i hs; rw [scRunP_sound _ hs w]; simp only [Option.some.injEq] at hr; subst hr
   exact ⟨_, rfl, rfl, h3, _, _, hk, he, rfl, rfl⟩
  ·rename_i hs; rw [scRunP_sound _ hs w]
   simpa using ih (n + 1) (by omega) hr
  ·cases hr
theorem findV_sound {P : Program} {E : Env} {T : TypeId} {k : Value} {kvs : List (Value × Nat × V)} {es : Array MapEntry} (h : RepM E kvs es.toList) (w : World) {r : Option (Nat × V)} (hr : findV P T k kvs = some r) :
  ∃ r', (Instr.findKey T k es.toList).run P w = .ok r' w ∧ Found E kvs es.toList r r' := by
 unfold findV at hr
 split at hr
 ·rename_i d hd
  simp only [Instr.findKey,Sem.run_bind,run_underlyingP hd,Result.andThen_ok]
  split at hr
  ·rename_i r1 h1
   simp only [Option.some.injEq] at hr; subst hr
   obtain ⟨r', h2, h3⟩ := findNowV_sound h 0 (r := r1) (by simpa using h1)
   simp only [List.drop_zero] at h2
   rw [h2]
   exact ⟨r', rfl, h3⟩
  ·rename_i h1
   have h2 := findNowV_none h 0 (by simpa using h1)
   simp only [List.drop_zero] at h2
   rw [h2]
   simpa using findAskV_sound h w 0 (r := r) (by simpa using hr)
 ·cases hr

def keyOk (P : Program) (T : TypeId) (k : Value) : Bool :=
 match P.underlying T with
 | some (.int _) => true
 | some .string => true
 | some .bool => true
 | _ => match scRunP P (Instr.checkKey false 10000 T k), scRunP P (Instr.checkKey true 10000 T k) with
  | some _, some _ => true
  | _, _ => false
theorem keyOk_sound {P : Program} {T : TypeId} {k : Value} (h : keyOk P T k = true) (b : Bool) (w : World) : (Instr.checkKey b 10000 T k).run P w = .ok () w := by
 unfold keyOk at h
 have easy : ∀ d, P.underlying T = some d → (∀ m, d ≠ .interface m) → (∀ n e, d ≠ .array n e) → (∀ fs, d ≠ .struct fs) → (Instr.checkKey b 10000 T k).run P w = .ok () w := by
  intro d hd h1 h2 h3
  show (Instr.checkKey b (9999 + 1) T k).run P w = _
  rw [Instr.checkKey]
  simp only [Sem.run_bind,run_underlyingP hd,Result.andThen_ok]
  cases d <;> first | (cases k <;> rfl) | exact absurd rfl (h1 _) | exact absurd rfl (h2 _ _) | exact absurd rfl (h3 _)
 split at h
 ·rename_i hd; exact easy _ hd (by simp) (by simp) (by simp)
 ·rename_i hd; exact easy _ hd (by simp) (by simp) (by simp)
 ·rename_i hd; exact easy _ hd (by simp) (by simp) (by simp)
 ·split at h
  ·rename_i h1 h2
   cases b
   ·exact scRunP_sound _ h1 w
   ·exact scRunP_sound _ h2 w
  ·cases h

def zeroV (P : Program) (T : TypeId) : Option V :=
 match P.info? T with
 | some i => match i.zero with | some z => some (absV z) | none => none
 | none => none
theorem zeroV_sound {P : Program} {T : TypeId} {v : V} (h : zeroV P T = some v) (E : Env) (w : World) : ∃ z, (zeroValue T).run P w = .ok z w ∧ Rep E v z := by
 unfold zeroV at h
 split at h
 ·rename_i i hi
  split at h
  ·rename_i z hz
   cases h
   exact ⟨z, by simp [zeroValue, run_typeInfoP hi, hz], absV_rep E z⟩
  ·cases h
 ·cases h
def mapDesc (P : Program) (T : TypeId) : Option (TypeId × TypeId) := match P.underlying T with | some (.map k e) => some (k, e) | _ => none
theorem mapDesc_eq {P : Program} {T kt et : TypeId} (h : mapDesc P T = some (kt, et)) : P.underlying T = some (.map kt et) := by
 unfold mapDesc at h
 split at h
 ·rename_i hd; cases h; exact hd
 ·cases h

def okV (ok b : Bool) (v : V) : V := if ok = true then .tup [v, .sc (.bool b)] else v
theorem okV_rep {E : Env} {v : V} {x : Value} (h : Rep E v x) (ok b : Bool) : Rep E (okV ok b v) (if ok = true then .tuple #[x, .bool b] else x) := by
 unfold okV
 split
 ·refine .tup _ _ _ rfl fun i c y hc hy => ?_
  match i with
  | 0 => simp at hc hy; subst hc; subst hy; exact h
  | 1 => simp at hc hy; subst hc; subst hy; exact .sc _ _
  | i + 2 => simp at hc
 ·exact h
def lookupIn (P : Program) (mem : List Blk) (kt et : TypeId) (m : V) (key : Value) (ok : Bool) : Option V :=
 match m with
 | .mp b => match mem[b]? with
  | some (.map kvs _) => match findV P kt key kvs with
   | some (some (_, v)) => some (okV ok true v)
   | some none => match zeroV P et with | some z => some (okV ok false z) | none => none
   | none => none
  | _ => none
 | .sc (.map none) => match findV P kt key [] with
  | some none => match zeroV P et with | some z => some (okV ok false z) | none => none
  | _ => none
 | _ => none
def lookupV (P : Program) (mem : List Blk) (T : TypeId) (m i : V) (ok : Bool) : Option V :=
 match mapDesc P T with
 | some (kt, et) => match toVal i with
  | some key => if keyOk P kt key = true then lookupIn P mem kt et m key ok else none
  | none => none
 | none => none

theorem mp_inv {E : Env} {b : Nat} {x : Value} (h : Rep E (.mp b) x) : ∃ g e c, x = .map (some g) ∧ E.blk b 0 = some (g, e, c) := by
 cases h with | mp _ _ l e c hb => exact ⟨l, e, c, rfl, hb⟩
theorem map_blk {E : Env} {w : World} {a : Act} {st : St} (hs : Sim E w a st) {b : Nat} {kvs : List (Value × Nat × V)} {clock : Nat} (hm : st.mem[b]? = some (.map kvs clock)) {g e c : Nat} (hb : E.blk b 0 = some (g, e, c)) :
  ∃ es, w.heap[g]? = some (.map es clock) ∧ RepM E kvs es.toList ∧ (∀ o, E.F ⟨g, o, none⟩ = none) ∧ (e, c) = (0, 0) := by
 obtain ⟨g', es, h1, h2, h3, h4⟩ := hs.mem b _ hm
 rw [hb] at h1; cases h1
 exact ⟨es, h2, h3, h4, rfl⟩
theorem run_getMap {P : Program} {w : World} {g : Nat} {es : Array MapEntry} {clock : Nat} (h : w.heap[g]? = some (.map es clock)) : (getObj g).run P w = .ok (.map es clock) w := by simp [getObj, Sem.run, h]
theorem run_setObj {P : Program} {w : World} {g : Nat} {o o' : Obj} (h : w.heap[g]? = some o) (hc : ∀ a b c, o ≠ .cells a b c) : (setObj g o').run P w = .ok () { w with heap := w.heap.setIfInBounds g o' } := by
 unfold setObj
 rw [Sem.run, h]
 cases o <;> first | rfl | exact absurd rfl (hc _ _ _)

theorem rep_sc' {E : Env} {v y : Value} (h : Rep E (.sc v) y) : y = v := by cases h; rfl
theorem lookupV_sound {P : Program} {E : Env} {w : World} {a : Act} {st : St} (hs : Sim E w a st) {T : TypeId} {m i v : V} {ok : Bool} {x y : Value} (hm : Rep E m x) (hi : Rep E i y) (h : lookupV P st.mem T m i ok = some v) :
  ∃ z, (Instr.lookup T x y ok).run P w = .ok z w ∧ Rep E v z := by
 unfold lookupV at h
 split at h
 ·rename_i kt et hd
  have hd := mapDesc_eq hd
  split at h
  ·rename_i key hkey
   cases toVal_rep hi hkey
   split at h
   ·rename_i hok
    have hck := fun b => keyOk_sound hok b w
    unfold lookupIn at h
    split at h
    ·rename_i b
     obtain ⟨g, e, c, rfl, hb⟩ := mp_inv hm
     split at h
     ·rename_i kvs clock hB
      obtain ⟨es, hh, hr, -⟩ := map_blk hs hB hb
      split at h
      ·rename_i j u hf
       obtain ⟨r', h1, h2⟩ := findV_sound hr w hf
       match r', h2 with
       | some (j', z), h2 =>
        cases h
        exact ⟨_, by simp [Instr.lookup, run_underlyingP hd, run_getMap hh, hck, h1], okV_rep h2.2.1 ok true⟩
      ·rename_i hf
       obtain ⟨r', h1, h2⟩ := findV_sound hr w hf
       match r', h2 with
       | none, h2 =>
        split at h
        ·rename_i z hz
         cases h
         obtain ⟨z', h3, h4⟩ := zeroV_sound hz E w
         exact ⟨_, by simp [Instr.lookup, run_underlyingP hd, run_getMap hh, hck, h1, h3], okV_rep h4 ok false⟩
        ·cases h
      ·cases h
     ·cases h
    ·obtain rfl := rep_sc' hm
     split at h
     ·rename_i hf
      obtain ⟨r', h1, h2⟩ := findV_sound (E := E) (es := #[]) ⟨rfl, fun i k e h => by simp at h⟩ w hf
      match r', h2 with
      | none, h2 =>
       split at h
       ·rename_i z hz
        cases h
        obtain ⟨z', h3, h4⟩ := zeroV_sound hz E w
        exact ⟨_, by simp at h1; simp [Instr.lookup, run_underlyingP hd, hck, h1, h3], okV_rep h4 ok false⟩
       ·cases h
     ·cases h
    ·cases h
   ·cases h
  ·cases h
 ·cases h
def lenM (mem : List Blk) (ts : Array TypeId) (P : Program) : List V → Option V
 | [.mp b] => match mem[b]? with
  | some (.map kvs _) => match ts[0]? with
   | some T => match mapDesc P T with | some _ => some (.sc (.int .i64 kvs.length)) | none => none
   | none => none
  | _ => none
 | _ => none
theorem lenM_sound {P : Program} {E : Env} {w : World} {a : Act} {st : St} (hs : Sim E w a st) {ts : Array TypeId} {ty : TypeId} {xs : List V} {v : V} {ys : Array Value} (hx : RepL E xs ys.toList) (h : lenM st.mem ts P xs = some v) :
  ∃ z, (Builtin.len_ ts ty ys).run P w = .ok z w ∧ Rep E v z := by
 unfold lenM at h
 split at h
 ·rename_i b
  split at h
  ·rename_i kvs clock hB
   split at h
   ·rename_i T h0
    split at h
    ·rename_i p hp
     cases h
     obtain ⟨kt, et⟩ := p
     have hd := mapDesc_eq hp
     obtain ⟨x, r, hy, h1, h2⟩ := hx.of_cons
     have := h2.of_nil; subst this
     obtain rfl : ys = #[x] := by rw [← Array.toArray_toList (xs := ys), hy]
     obtain ⟨g, e, c, rfl, hb⟩ := mp_inv h1
     obtain ⟨es, hh, hr, -⟩ := map_blk hs hB hb
     refine ⟨.int .i64 es.size, by simp [Builtin.len_, h0, run_underlyingP hd, run_getMap hh, goInt], ?_⟩
     have : kvs.length = es.size := by simpa using hr.1
     rw [this]; exact .sc _ _
    ·cases h
   ·cases h
  ·cases h
 ·cases h
def curV (mem : List Blk) (it : V) : Option V :=
 match it with
 | .ptr b 0 => match mem[b]? with
  | some (.miter m _ seen last) => match mem[m]? with
   | some (.map kvs clock) => if clock = last then (match seen.getLast? with
    | some stamp => match kvs.find? (fun e => e.2.1 == stamp) with
     | some e => some (.tup [absV e.1, e.2.2])
     | none => none
    | none => none) else none
   | _ => none
  | _ => none
 | _ => none
theorem RepM.find {E : Env} (p : Nat → Bool) : ∀ {kvs : List (Value × Nat × V)} {es : List MapEntry} {k : Value × Nat × V}, RepM E kvs es → kvs.find? (fun e => p e.2.1) = some k → ∃ e, es.find? (fun e => p e.born) = some e ∧ e.key = k.1 ∧ Rep E k.2.2 e.val
 | [], es, k, h, hf => by simp at hf
 | c :: r, es, k, h, hf => by
  obtain ⟨e, es', rfl, h1, h2, h3, h4⟩ := h.of_cons
  rw [List.find?_cons] at hf ⊢
  rw [h2]
  split at hf
  ·rename_i hp; cases hf; exact ⟨e, rfl, h1, h3⟩
  ·exact RepM.find p h4 hf
theorem curV_sound {P : Program} {E : Env} {w : World} {a : Act} {st : St} (hs : Sim E w a st) {it v : V} {x : Value} (hi : Rep E it x) (h : curV st.mem it = some v) : ∃ z, (Instr.entry x).run P w = .ok z w ∧ Rep E v z := by
 unfold curV at h
 split at h
 ·rename_i b
  split at h
  ·rename_i m since seen last hB
   split at h
   ·rename_i kvs clock hM
    split at h
    ·rename_i hcl
     split at h
     ·rename_i stamp hst
      split at h
      ·rename_i e he
       cases h
       obtain ⟨g, gm, em, cm, hb, hbm, hh, hf⟩ := hs.mem b _ hB
       obtain ⟨es, hhm, hr, hfm, h0⟩ := map_blk hs hM hbm
       cases hi with
       | ptr _ _ _ g' e' c' hb' =>
       rw [hb] at hb'; cases hb'
       have hget : (getObj g).run P w = .ok (.mapIter (some gm) since seen.toArray last) w := by simp [getObj, Sem.run, hh]
       obtain ⟨en, h1, h2, h3⟩ := RepM.find (fun n => n == stamp) hr he
       have hback : seen.toArray.back? = some stamp := by simpa using hst
       have hfind : es.find? (fun e => e.born == stamp) = some en := by
        rw [← List.find?_toArray, Array.toArray_toList] at h1; exact h1
       refine ⟨.tuple #[en.key, en.val], ?_, ?_⟩
       ·subst hcl
        simp only [Instr.entry,Sem.run_bind,hget,Result.andThen_ok,hback,run_getMap hhm,bne_self_eq_false,Bool.false_eq_true,if_false,hfind]
        rfl
       ·refine .tup _ _ _ rfl fun i c y hc hy => ?_
        match i with
        | 0 => simp at hc hy; subst hc; subst hy; rw [h2]; exact absV_rep E _
        | 1 => simp at hc hy; subst hc; subst hy; exact h3
        | i + 2 => simp at hc
      ·cases h
     ·cases h
    ·cases h
   ·cases h
  ·cases h
 ·cases h
end Go.Eng
end

section
namespace Go.Eng
variable [Glob]

theorem rep_sc {E : Env} {v y : Value} (h : Rep E (.sc v) y) : y = v := by cases h; rfl

theorem cutV_sound {P : Program} {tt : Table} (ht : TT P tt) {E : Env} {w : World} {a : Act} {st : St} (hs : Sim E w a st) {T : TypeId} {x v : V} {lo hi : Option Operand} {y : Value} (hx : Rep E x y)
  (h : cutV P tt st.mem T x (lo.map st.eval) (hi.map st.eval) = some v) : ∃ z, (Instr.sliceAt T y (lo.map a.eval) (hi.map a.eval) none).run P w = .ok z w ∧ Rep E v z := by
 unfold cutV at h
 split at h
 ·cases lo with
  | none =>
   cases hi with
   | none => exact lift1_sound hx h
   | some hi => exact lift2_sound (f := fun a h => Instr.sliceAt T a none (some h) none) hx (hs.eval hi) h
  | some lo =>
   cases hi with
   | none => exact lift2_sound (f := fun a l => Instr.sliceAt T a (some l) none none) hx (hs.eval lo) h
   | some hi =>
    simp only [Option.map_some] at h ⊢
    split at h
    ·rename_i hv hhv
     rw [toVal_rep (hs.eval hi) hhv]
     exact lift2_sound (f := fun a l => Instr.sliceAt T a (some l) (some hv) none) hx (hs.eval lo) h
    ·simp at h
 ·split at h
  ·simp at h
  ·rename_i e he
   split at h
   ·simp at h
   ·rename_i size hz
    cases lo with
    | none =>
     cases hi with
     | none =>
      obtain ⟨aa, len, cap, rfl, h0, h1, h2, h3, hr⟩ := cutAt_sound hs hx h
      exact ⟨_, run_sliceAt ht he hz w aa len cap none none 0 none (.inl ⟨rfl, rfl⟩) (.inl ⟨rfl, rfl⟩) h0 h1 h2 h3, hr⟩
     | some hi =>
      simp only [Option.map_some,Option.map_none] at h ⊢
      split at h
      ·rename_i n hn
       obtain ⟨k, hk⟩ := intV_rep (hs.eval hi) hn
       obtain ⟨aa, len, cap, rfl, h0, h1, h2, h3, hr⟩ := cutAt_sound hs hx h
       exact ⟨_, run_sliceAt ht he hz w aa len cap none _ 0 (some n) (.inl ⟨rfl, rfl⟩) (.inr ⟨k, n, by rw [hk], rfl⟩) h0 h1 h2 h3, hr⟩
      ·simp at h
    | some lo =>
     simp only [Option.map_some] at h ⊢
     split at h
     ·simp at h
     ·rename_i l hl
      obtain ⟨k, hk⟩ := intV_rep (hs.eval lo) hl
      cases hi with
      | none =>
       simp only [Option.map_none] at h ⊢
       obtain ⟨aa, len, cap, rfl, h0, h1, h2, h3, hr⟩ := cutAt_sound hs hx h
       exact ⟨_, run_sliceAt ht he hz w aa len cap _ none l none (.inr ⟨k, by rw [hk]⟩) (.inl ⟨rfl, rfl⟩) h0 h1 h2 h3, hr⟩
      | some hi =>
       simp only [Option.map_some] at h ⊢
       split at h
       ·rename_i n hn
        obtain ⟨k', hk'⟩ := intV_rep (hs.eval hi) hn
        obtain ⟨aa, len, cap, rfl, h0, h1, h2, h3, hr⟩ := cutAt_sound hs hx h
        exact ⟨_, run_sliceAt ht he hz w aa len cap _ _ l (some n) (.inr ⟨k, by rw [hk]⟩) (.inr ⟨k', n, by rw [hk'], rfl⟩) h0 h1 h2 h3, hr⟩
       ·simp at h

def allVal : List V → Option (List Value)
 | [] => some []
 | v :: r => match toVal v with
  | some x => match allVal r with | some l => some (x :: l) | none => none
  | none => none
theorem allVal_rep {E : Env} : ∀ {vs : List V} {xs l : List Value}, RepL E vs xs → allVal vs = some l → xs = l
 | [], xs, l, h, hl => by simp [allVal] at hl; subst hl; exact h.of_nil
 | v :: vs, xs, l, h, hl => by
  obtain ⟨x, ys, rfl, h1, h2⟩ := h.of_cons
  simp only [allVal] at hl
  split at hl
  ·rename_i x' hx'
   split at hl
   ·rename_i l' hl'
    simp only [Option.some.injEq] at hl; subst hl
    rw [toVal_rep h1 hx', allVal_rep h2 hl']
   ·simp at hl
  ·simp at hl

def liftL (P : Program) (f : Array Value → Sem Value) (xs : List V) : Option V :=
 match allVal xs with
 | some l => match scRunP P (f l.toArray) with | some v => some (absV v) | none => none
 | none => none

theorem Sim.evals {E : Env} {w : World} {a : Act} {st : St} (hs : Sim E w a st) (xs : Array Operand) : RepL E (xs.toList.map st.eval) (xs.map a.eval).toList := by
 refine ⟨by simp, fun i v x hv hx => ?_⟩
 simp only [List.getElem?_map,Array.toList_map,Option.map_eq_some_iff] at hv hx
 obtain ⟨o, ho, rfl⟩ := hv
 obtain ⟨o', ho', rfl⟩ := hx
 rw [ho] at ho'; cases ho'
 exact hs.eval o

def lenV (P : Program) (tt : Table) (ts : Array TypeId) (ty : TypeId) : List V → Option V
 | [.slice rows] => match ts[0]? with
  | some t => match tElem tt t with | some _ => some (.sc (.int .i64 rows.length)) | none => none
  | none => none
 | [.ms _ _ _ l] => match ts[0]? with
  | some t => match tElem tt t with | some _ => some (.sc (.int .i64 l)) | none => none
  | none => none
 | xs => liftL P (Builtin.len_ ts ty) xs

def partV (tt : Table) (S : TypeId) (f : Nat) (T : TypeId) (x : V) : Option V :=
 match x with
 | .agg cs => match tOff tt S f with
  | some off => pickCells tt T (cs.drop off)
  | none => none
 | _ => none

def cmpG (k : Int) : Bool := match Glob.κ k with | some b => b | none => decide (k ≤ Glob.n)
theorem cmpG_eq (k : Int) : cmpG k = decide (k ≤ Glob.n) := by
 unfold cmpG
 split
 ·rename_i b h; exact (Glob.ok k b h).symm
 ·rfl
def gnCmp (op : BinOp) (x y : V) : Option V :=
 match y with
 | .gn => match op, x with
  | .leq, .sc (.int .i64 k) => some (.sc (.bool (cmpG k)))
  | .gtr, .sc (.int .i64 k) => some (.sc (.bool (!cmpG k)))
  | _, _ => none
 | _ => none
theorem gnCmp_sound {P : Program} {E : Env} {w : World} {op : BinOp} {T : TypeId} {x y v : V} {a b : Value} (xo yo : Operand) (hx : Rep E x a) (hy : Rep E y b) (h : gnCmp op x y = some v) :
  ∃ z, (do eqGuard op T xo yo a b; binOp op T a b : Sem Value).run P w = .ok z w ∧ Rep E v z := by
 unfold gnCmp at h
 split at h
 ·cases hy
  split at h
  ·rename_i k
   cases h
   cases hx
   refine ⟨.bool (decide (k ≤ Glob.n)), by simp [binOp, Op.intCmp, eqGuard], by rw [cmpG_eq]; exact .sc _ _⟩
  ·rename_i k
   cases h
   cases hx
   refine ⟨.bool (decide (k > Glob.n)), by simp [binOp, Op.intCmp, eqGuard], ?_⟩
   have : (!cmpG k) = decide (k > Glob.n) := by
    rw [cmpG_eq]
    by_cases h : k ≤ Glob.n
    ·rw [decide_eq_true h, decide_eq_false (by omega)]; rfl
    ·rw [decide_eq_false h, decide_eq_true (by omega)]; rfl
   rw [this]; exact .sc _ _
  ·cases h
 ·cases h
def ptrNil (P : Program) (op : BinOp) (T : TypeId) (y : V) : Option V :=
 match y with
 | .sc (.pointer none) => match P.underlying T with
  | some (.pointer _) => match op with
   | .eql => some (.sc (.bool false))
   | .neq => some (.sc (.bool true))
   | _ => none
  | _ => none
 | _ => none
def ptrCmp (P : Program) (op : BinOp) (T : TypeId) (x y : V) : Option V :=
 match x with
 | .eptr _ => ptrNil P op T y
 | .ptr _ _ => ptrNil P op T y
 | .rptr _ _ _ _ => ptrNil P op T y
 | _ => none
theorem ptrCmp_sound {P : Program} {E : Env} {w : World} {op : BinOp} {T : TypeId} {x y v : V} {a b : Value} (xo yo : Operand) (hx : Rep E x a) (hy : Rep E y b) (h : ptrCmp P op T x y = some v) :
  ∃ z, (do eqGuard op T xo yo a b; binOp op T a b : Sem Value).run P w = .ok z w ∧ Rep E v z := by
 have key : ∀ ad : Addr, a = .pointer (some ad) → ptrNil P op T y = some v → ∃ z, (do eqGuard op T xo yo a b; binOp op T a b : Sem Value).run P w = .ok z w ∧ Rep E v z := by
  rintro ad rfl h
  unfold ptrNil at h
  split at h
  ·split at h
   ·rename_i e hT
    cases hy
    have he : (Op.equal T (.pointer (some ad)) (.pointer none)).run P w = .ok false w := by
     show (Op.equalIn (9999 + 1) T _ _).run P w = _
     unfold Op.equalIn
     simp [run_underlyingP hT]
    split at h
    ·cases h
     exact ⟨.bool false, by simp [binOp, eqGuard, he], .sc _ _⟩
    ·cases h
     exact ⟨.bool true, by simp [binOp, eqGuard, he], .sc _ _⟩
    ·cases h
   ·cases h
  ·cases h
 unfold ptrCmp at h
 split at h
 ·cases hx with
  | eptr _ _ ad xf hF hR => exact key ad rfl h
 ·cases hx with
  | ptr _ _ _ g e c hb => exact key _ rfl h
 ·cases hx with
  | rptr _ _ _ _ _ g e c hb => exact key _ rfl h
 ·cases h
def byteNums : List V → Option (List Int)
 | [] => some []
 | .sc (.int .u8 n) :: r => match byteNums r with | some l => some (n :: l) | none => none
 | _ => none
def bytesV (P : Program) (s d : TypeId) (rows : List V) : Option V :=
 match P.underlying s with
 | some (.slice e) => match P.underlying e with
  | some (.int .u8) => match P.underlying d with
   | some .string => match byteNums rows with | some ns => some (.sc (.string (strOfNums ns))) | none => none
   | _ => none
  | _ => none
 | _ => none
def convV (P : Program) (mem : List Blk) (s d : TypeId) : V → Option V
 | .slice rows => bytesV P s d rows
 | .ms b v o l => match mem[b]? with
  | some (.rows v' e rs) => if v' = v ∧ e = 1 ∧ o + l ≤ rs.length then bytesV P s d ((rs.drop o).take l) else none
  | some (.frz v' e rs) => if v' = v ∧ e = 1 ∧ o + l ≤ rs.length then bytesV P s d ((rs.drop o).take l) else none
  | _ => none
 | x => lift1 P (convert s d) x
theorem convV_sc (P : Program) (mem : List Blk) (s d : TypeId) (x : Value) : convV P mem s d (.sc x) = lift1 P (convert s d) (.sc x) := rfl
theorem byteNums_length : ∀ {rows : List V} {ns : List Int}, byteNums rows = some ns → ns.length = rows.length
 | [], ns, h => by simp [byteNums] at h; subst h; rfl
 | r :: rs, ns, h => by
  unfold byteNums at h
  split at h
  ·rename_i heq; exact absurd heq (by simp)
  ·rename_i n l heq
   cases heq
   split at h
   ·rename_i l' hl
    cases h
    simp [byteNums_length hl]
   ·cases h
  ·cases h
theorem byteNums_get : ∀ {rows : List V} {ns : List Int}, byteNums rows = some ns → ∀ (i : Nat) (r : V), rows[i]? = some r → r = .sc (.int .u8 (ns.getD i 0))
 | [], ns, h, i, r, hr => by simp at hr
 | r0 :: rs, ns, h, i, r, hr => by
  unfold byteNums at h
  split at h
  ·rename_i heq; exact absurd heq (by simp)
  ·rename_i n l heq
   cases heq
   split at h
   ·rename_i l' hl
    cases h
    cases i with
    | zero => simp at hr; subst hr; rfl
    | succ i => exact byteNums_get hl i r (by simpa using hr)
   ·cases h
  ·cases h
theorem bytesV_sound {P : Program} {w : World} {E : Env} {s d : TypeId} {rows : List V} {v : V} {aa : Option Addr} {cap : Nat} (h : bytesV P s d rows = some v) (hn : rows ≠ [] → ∃ g o, aa = some ⟨g, o, none⟩ ∧ ∀ (i : Nat) (r : V), rows[i]? = some r → ∃ x, w.cell? ⟨g, o + i, none⟩ = some x ∧ Rep E r x) :
  ∃ y, (convert s d (.slice aa rows.length cap)).run P w = .ok y w ∧ Rep E v y := by
 unfold bytesV at h
 split at h
 ·rename_i e hs
  split at h
  ·rename_i he
   split at h
   ·rename_i hd
    split at h
    ·rename_i ns hb
     cases h
     refine ⟨_, ?_, .sc _ _⟩
     have hl := byteNums_length hb
     cases rows with
     | nil =>
      have : ns = [] := List.length_eq_zero_iff.1 hl
      subst this
      rw [run_convert_bytes_string w s d e aa _ cap hs he hd]
      cases aa with
      | none => simp [Conv.bytesToString]; rfl
      | some a0 =>
       have := run_bytesToString (P := P) w a0 0 cap [] (by simp [loadCells, loadCellsFrom])
       have e0 : strOfNums [] = ByteArray.empty := rfl
       rw [e0]
       simpa using this
     | cons r0 rr =>
      obtain ⟨g, o, rfl, hc⟩ := hn (by simp)
      refine run_convert_bytes_arg w s e hs he g o _ cap ns hl (fun i hi => ?_) d hd
      obtain ⟨x, hx, hr⟩ := hc i _ (List.getElem?_eq_getElem hi)
      rw [hx, byteNums_get hb i _ (List.getElem?_eq_getElem hi)] at *
      rw [rep_sc hr]
    ·cases h
   ·cases h
  ·cases h
 ·cases h
theorem bytesV_nums {P : Program} {s d : TypeId} {rows : List V} {v : V} (h : bytesV P s d rows = some v) : ∃ ns, byteNums rows = some ns := by
 unfold bytesV at h
 split at h
 ·split at h
  ·split at h
   ·split at h
    ·rename_i ns hb; exact ⟨ns, hb⟩
    ·cases h
   ·cases h
  ·cases h
 ·cases h
theorem cell_spot {w : World} {ad : Addr} {x : Value} (h : w.cell? ad = some x) : ad.spot = none := by
 unfold World.cell? at h
 split at h
 ·split at h
  ·simp at h
  ·rename_i h1; cases hs : ad.spot with | none => rfl | some s => simp [hs] at h1
 ·simp at h
theorem convV_sound {P : Program} {E : Env} {w : World} {a : Act} {st : St} (hs : Sim E w a st) {s d : TypeId} {x v : V} {y : Value} (hx : Rep E x y) (h : convV P st.mem s d x = some v) : ∃ z, (convert s d y).run P w = .ok z w ∧ Rep E v z := by
 have ms : ∀ (b v' o l e : Nat) (rs : List V), Rep E (.ms b v' o l) y → e = 1 → o + l ≤ rs.length → (∀ g e' c, E.blk b v' = some (g, e', c) → e' = e ∧ RowsOk E.pure e rs (fun k => w.cell? ⟨g, k, none⟩)) →
   bytesV P s d ((rs.drop o).take l) = some v → ∃ z, (convert s d y).run P w = .ok z w ∧ Rep E v z := by
  intro b v' o l e rs hr he hl hrows hb
  obtain ⟨ns, hns⟩ := bytesV_nums hb
  have hlen : ((rs.drop o).take l).length = l := by simp; omega
  cases hr with
  | msnil =>
   have h0 : (rs.drop o).take 0 = [] := List.take_zero
   rw [h0] at hb
   exact bytesV_sound (aa := none) (cap := 0) (w := w) (E := E) hb (fun hne => absurd rfl hne)
  | ms _ _ _ _ _ g e' c aa cap hbk hla h00 hcc =>
   have hb' := hb
   rw [← hlen]
   refine bytesV_sound hb fun hne => ?_
   have hl0 : 0 < l := by
    rcases Nat.eq_zero_or_pos l with h0 | h0
    ·subst h0; exact absurd List.take_zero hne
    ·exact h0
   obtain ⟨he', hro⟩ := hrows g e' c hbk
   subst he
   subst he'
   refine ⟨g, o * 1, hla hl0, fun i r hi => ?_⟩
   have hi' : rs[o + i]? = some r := by
    rw [List.getElem?_take] at hi
    split at hi
    ·simpa using hi
    ·simp at hi
   obtain ⟨-, h2⟩ := hro _ r hi'
   have hr1 := byteNums_get hns i r hi
   obtain ⟨x, hx, -, hxr⟩ := h2 0 r (by rw [hr1]; rfl)
   refine ⟨x, ?_, hxr.mono (Env.pure_le E)⟩
   have : (o + i) * 1 + 0 = o * 1 + i := by omega
   rw [← this]; exact hx
 unfold convV at h
 split at h
 ·rename_i rows
  obtain ⟨ns, hns⟩ := bytesV_nums h
  cases hx with
  | slice _ _ aa cap esz ad xf ha hcap hz hF hone hR =>
   refine bytesV_sound h fun hne => ?_
   have key : ∀ (i : Nat) (r : V), rows[i]? = some r → ∃ x, w.cell? (ad.add i) = some x ∧ Rep E r x := fun i r hi => by
    have hr1 := byteNums_get hns i r hi
    have hc : r.cells = [r] := by rw [hr1]; rfl
    have he : esz = 1 := by rw [← hz i r hi, hc]; rfl
    have h1 := hF i r 0 r hi (by rw [hc]; rfl)
    have h2 := hR i r 0 r hi (by rw [hc]; rfl)
    rw [he, Nat.mul_one, Nat.add_zero] at h1
    exact ⟨_, hs.F _ _ h1, h2.mono (Env.pure_le E)⟩
   obtain ⟨r0, h0⟩ : ∃ r0, rows[0]? = some r0 := by
    cases rows with
    | nil => exact absurd rfl hne
    | cons r0 rr => exact ⟨r0, rfl⟩
   obtain ⟨x0, hx0, -⟩ := key 0 r0 h0
   have hadd0 : ad.add 0 = ad := by simp [Addr.add]
   have hsp := cell_spot hx0
   rw [hadd0] at hsp
   obtain ⟨g, o, sp⟩ := ad
   obtain rfl : sp = none := hsp
   refine ⟨g, o, ha hne, fun i r hi => ?_⟩
   obtain ⟨x, hx, hr⟩ := key i r hi
   exact ⟨x, by rw [← hx]; congr 1; unfold Addr.add; by_cases h0 : i = 0 <;> simp [h0], hr⟩
 ·rename_i b v' o l
  split at h
  ·rename_i v1 e rs hm
   split at h
   ·rename_i hc
    obtain ⟨rfl, rfl, hl⟩ := hc
    refine ms b v1 o l 1 rs hx rfl hl (fun g e' c hbk => ?_) h
    rcases hs.mem b _ hm with ⟨hnil, hn⟩ | ⟨g', T, xs, c', hb', hh, -, -, hrows, -⟩
    ·rw [hn] at hbk; cases hbk
    ·rw [hb'] at hbk; cases hbk
     refine ⟨rfl, fun i row hi => ?_⟩
     obtain ⟨h1, h2⟩ := hrows i row hi
     refine ⟨h1, fun j cc hj => ?_⟩
     obtain ⟨x, hx, h3⟩ := h2 j cc hj
     exact ⟨x, (cell_at hh _).trans hx, h3⟩
   ·cases h
  ·rename_i v1 e rs hm
   split at h
   ·rename_i hc
    obtain ⟨rfl, rfl, hl⟩ := hc
    refine ms b v1 o l 1 rs hx rfl hl (fun g e' c hbk => ?_) h
    rcases hs.mem b _ hm with ⟨hnil, hn⟩ | ⟨g', c', hb', -, hrows⟩
    ·rw [hn] at hbk; cases hbk
    ·rw [hb'] at hbk; cases hbk
     refine ⟨rfl, fun i row hi => ?_⟩
     obtain ⟨h1, h2⟩ := hrows i row hi
     refine ⟨h1, fun j cc hj => ?_⟩
     obtain ⟨x, hx, h3⟩ := h2 j cc hj
     exact ⟨x, hs.F _ _ hx, h3⟩
   ·cases h
  ·cases h
 ·exact lift1_sound hx h
def opB (op : BinOp) (T : TypeId) (x y : Operand) : Value → Value → Sem Value := fun u v => do eqGuard op T x y u v; binOp op T u v
def arrAt (P : Program) (tt : Table) (T : TypeId) (x i : V) : Option V :=
 match x with
 | .ptr b o => match i with
  | .sc (.int _ n) => match P.underlying T with
   | some (.array len e) => match tSize tt e with
    | some size => if 0 ≤ n ∧ n < len then some (.ptr b (o + n.toNat * size)) else none
    | none => none
   | _ => none
  | _ => none
 | _ => none
theorem arrAt_sound {P : Program} {tt : Table} (ht : TT P tt) {E : Env} {T : TypeId} {p i v : V} {x y : Value} (hp : Rep E p x) (hi : Rep E i y) (h : arrAt P tt T p i = some v) (w : World) :
  ∃ z, (Instr.indexAt T x y).run P w = .ok z w ∧ Rep E v z := by
 unfold arrAt tSize at h
 split at h
 ·rename_i b o
  split at h
  ·rename_i k n
   split at h
   ·rename_i len e hd
    cases hE : tt e with
    | none => rw [hE] at h; simp at h
    | some ie =>
     rw [hE] at h; simp only at h
     split at h
     ·rename_i h0
      cases h
      cases hi with
      | sc =>
      cases hp with
      | ptr _ _ _ g e' c hb =>
      refine ⟨.pointer (some ⟨g, o + n.toNat * ie.size, none⟩), ?_, .ptr _ _ _ g e' c hb⟩
      simp [Instr.indexAt, asIntOf, run_underlyingP hd, Instr.sureAddr, ht.sizeOf hE, h0, add_lit]
     ·cases h
   ·cases h
  ·cases h
 ·cases h
def clipV (rows : List V) : Bool → V
 | true => .full rows
 | false => .slice rows
def cut3V (tt : Table) (T : TypeId) (x h m : V) : Option V :=
 match x with
 | .slice rows => match intV h with
  | some a => match intV m with
   | some b => match tElem tt T with
    | some e => match tSize tt e with
     | some _ => if 0 ≤ a ∧ a ≤ b ∧ b ≤ rows.length then some (clipV (rows.take a.toNat) (decide (a = b))) else none
     | none => none
    | none => none
   | none => none
  | none => none
 | _ => none
theorem cut3V_sound {P : Program} {tt : Table} (ht : TT P tt) {E : Env} {T : TypeId} {x h m v : V} {y z u : Value} (hx : Rep E x y) (hh : Rep E h z) (hm : Rep E m u) (hc : cut3V tt T x h m = some v) (w : World) :
  ∃ q, (Instr.sliceAt T y none (some z) (some u)).run P w = .ok q w ∧ Rep E v q := by
 unfold cut3V at hc
 split at hc
 ·rename_i rows
  split at hc
  ·rename_i a ha
   split at hc
   ·rename_i b hb
    obtain ⟨k1, rfl⟩ := intV_rep hh ha
    obtain ⟨k2, rfl⟩ := intV_rep hm hb
    unfold tElem tSize at hc
    cases hT : tt T with
    | none => rw [hT] at hc; simp at hc
    | some iT =>
     rw [hT] at hc; simp only at hc
     cases he : iT.elem with
     | none => rw [he] at hc; simp at hc
     | some e =>
      rw [he] at hc; simp only at hc
      cases hE : tt e with
      | none => rw [hE] at hc; simp at hc
      | some ie =>
       rw [hE] at hc; simp only at hc
       obtain ⟨d, hd, -, hsl, -⟩ := ht.desc T iT hT
       obtain rfl := hsl e he
       split at hc
       ·rename_i hab
        obtain ⟨h0, h1, h2⟩ := hab
        cases hc
        cases hx with
        | slice _ _ aa cap esz ad xf haa hcap hz hF hone hR =>
        have hlen : (rows.take a.toNat).length = a.toNat := by rw [List.length_take]; omega
        have hrun : (Instr.sliceAt T (.slice aa rows.length cap) none (some (.int k1 a)) (some (.int k2 b))).run P w = .ok (.slice aa a.toNat b.toNat) w := by
         simp only [Instr.sliceAt,Instr.slice,Sem.run_bind,run_underlyingP hd,Result.andThen_ok,Instr.sliceBounds,Instr.sliceBound,asIntOf,Sem.run_pure,ht.sizeOf hE,Option.isSome_some]
         rw [if_pos ⟨by omega, by omega⟩]
         simp only [Sem.run_pure,Result.andThen_ok]
         rw [if_pos ⟨by omega, by omega⟩]
         simp [Addr.add]
        refine ⟨_, hrun, ?_⟩
        have hg : ∀ (i : Nat) (row : V), (rows.take a.toNat)[i]? = some row → rows[i]? = some row := fun i row hi => by
         rw [List.getElem?_take] at hi
         split at hi
         ·exact hi
         ·cases hi
        have := Rep.slice E (rows.take a.toNat) aa b.toNat esz ad xf (fun hne => haa fun h => hne (by rw [h, List.take_nil])) (by omega) (fun i row hi => hz _ _ (hg i row hi)) (fun i row j c hi hj => hF _ _ _ _ (hg i row hi) hj) (fun i row j c hi hj => hone _ _ _ _ (hg i row hi) hj) fun i row j c hi hj => hR _ _ _ _ (hg i row hi) hj
        rw [hlen] at this
        by_cases hab2 : a = b
        ·rw [decide_eq_true hab2]
         have hbn : b.toNat = (rows.take a.toNat).length := by rw [hlen, hab2]
         have h4 : (Value.slice aa a.toNat b.toNat) = .slice aa (rows.take a.toNat).length (rows.take a.toNat).length := by rw [← hbn, ← hab2]
         rw [h4]
         exact .full _ _ _ (by rw [← h4]; exact this)
        ·rw [decide_eq_false hab2]
         exact this
       ·cases hc
   ·cases hc
  ·cases hc
 ·cases hc
def fieldOf (P : Program) (tt : Table) (S : TypeId) (f : Nat) (x : V) : Option V :=
 match x with
 | .agg cs => match P.underlying S with
  | some (.struct fs) => match fs[f]? with
   | some fd => pickCells tt fd.type (cs.drop fd.offset)
   | none => none
  | _ => none
 | _ => none
theorem fieldOf_sound {P : Program} {tt : Table} (ht : TT P tt) {E : Env} {S : TypeId} {f : Nat} {x v : V} {y : Value} (hx : Rep E x y) (h : fieldOf P tt S f x = some v) (w : World) : ∃ z, (Instr.field S y f).run P w = .ok z w ∧ Rep E v z := by
 unfold fieldOf at h
 split at h
 ·rename_i cs
  split at h
  ·rename_i fs hu
   split at h
   ·rename_i fd hf
    cases hx with
    | agg _ _ xs hl hr =>
     simp only [Instr.field,Sem.run_bind,run_underlyingP hu,Result.andThen_ok,hf]
     unfold pickCells at h
     cases hi : tt fd.type with
     | none => rw [hi] at h; simp at h
     | some i =>
      rw [hi] at h; simp only at h
      cases ha : i.agg with
      | false =>
       simp only [ha,Bool.false_eq_true,if_false] at h
       have h0 : cs[fd.offset]? = some v := by simpa [List.head?_eq_getElem?] using h
       have hlt : fd.offset < xs.size := by rw [← hl]; exact (List.getElem?_eq_some_iff.1 h0).1
       refine ⟨xs[fd.offset], ?_, hr _ _ _ h0 (Array.getElem?_eq_getElem hlt)⟩
       simp [part, asAgg, ht.isAgg hi, ha, Array.getElem?_eq_getElem hlt]
      | true =>
       simp only [ha,if_true] at h
       split at h
       ·rename_i hle
        simp only [Option.some.injEq] at h; subst h
        rw [List.length_drop] at hle
        refine ⟨.agg (xs.extract fd.offset (fd.offset + i.size)), ?_, .agg _ _ _ (by simp; omega) fun j c z hc hz => ?_⟩
        ·simp [part, asAgg, ht.isAgg hi, ha, ht.sizeOf hi]
        ·have hj : j < i.size := by
          by_cases hj : j < i.size
          ·exact hj
          ·rw [List.getElem?_take] at hc; simp [hj] at hc
         rw [List.getElem?_take_of_lt hj, List.getElem?_drop] at hc
         refine hr (fd.offset + j) c z hc ?_
         rw [Array.getElem?_extract] at hz
         split at hz
         ·exact hz
         ·cases hz
       ·cases h
   ·cases h
  ·cases h
 ·cases h
def opV (P : Program) (tt : Table) (st : St) (o : Oper) : Option V :=
 match o.op with
 | .move x => some (st.eval x)
 | .assign x => some (st.eval x)
 | .pick c a b => match st.eval c with | .sc (.bool t) => some (if t = true then st.eval a else st.eval b) | _ => none
 | .load T x => loadV tt st.mem T (st.eval x)
 | .nilCheck x => nilV (st.eval x)
 | .binOp op T x y _ => match gnCmp op (st.eval x) (st.eval y) with
  | some v => some v
  | none => match ptrCmp P op T (st.eval x) (st.eval y) with
   | some v => some v
   | none => lift2 P (opB op T x y) (st.eval x) (st.eval y)
 | .unOp op _ x => lift1 P (Op.unary op) (st.eval x)
 | .convert s d x => convV P st.mem s d (st.eval x)
 | .makeFunc fn first cap => some (.clo fn (first.toList.map st.eval) (cap.toList.map st.eval))
 | .slice T x lo hi none => cutV P tt st.mem T (st.eval x) (lo.map st.eval) (hi.map st.eval)
 | .fieldAddr S x f => fieldV tt S f (st.eval x)
 | .field S x f => fieldOf P tt S f (st.eval x)
 | .slice T x none (some h) (some m) => cut3V tt T (st.eval x) (st.eval h) (st.eval m)
 | .indexAddr T x i => match indexV tt st.mem T (st.eval x) (st.eval i) with
  | some v => some v
  | none => arrAt P tt T (st.eval x) (st.eval i)
 | .index T x i => lift2 P (Instr.index T) (st.eval x) (st.eval i)
 | .extract t i => match st.eval t with | .tup vs => vs[i]? | _ => none
 | .lookup T x i ok => lookupV P st.mem T (st.eval x) (st.eval i) ok
 | .entry it => curV st.mem (st.eval it)
 | .call { callee := .builtin .len, args := xs, argTypes := ts } => match lenM st.mem ts P (xs.toList.map st.eval) with
  | some v => some v
  | none => lenV P tt ts o.type (xs.toList.map st.eval)
 | .call { callee := .builtin .max, args := xs, argTypes := ts } => liftL P (Builtin.max_ ts o.type) (xs.toList.map st.eval)
 | .call { callee := .builtin .min, args := xs, argTypes := ts } => liftL P (Builtin.min_ ts o.type) (xs.toList.map st.eval)
 | _ => none

theorem liftL_sound {P : Program} {f : Array Value → Sem Value} {E : Env} {w : World} {xs : List V} {v : V} {ys : Array Value} (hx : RepL E xs ys.toList) (h : liftL P f xs = some v) : ∃ z, (f ys).run P w = .ok z w ∧ Rep E v z := by
 unfold liftL at h
 split at h
 ·rename_i l hl
  have := allVal_rep hx hl
  split at h
  ·rename_i z hz
   simp only [Option.some.injEq] at h; subst h
   subst this
   exact ⟨z, scRunP_sound _ (by simpa using hz) w, absV_rep E z⟩
  ·simp at h
 ·simp at h

theorem run_len {P : Program} {tt : Table} (ht : TT P tt) {ts : Array TypeId} {ty t e : TypeId} (h0 : ts[0]? = some t) (he : tElem tt t = some e) (w : World) (aa : Option Addr) (len cap : Nat) :
  (Builtin.len_ ts ty #[.slice aa len cap]).run P w = .ok (.int .i64 len) w := by
 unfold tElem at he
 cases hT : tt t with
 | none => rw [hT] at he; simp at he
 | some iT =>
  rw [hT] at he; simp only at he
  obtain ⟨d, hd, -, hsl, -⟩ := ht.desc t iT hT
  obtain rfl := hsl e he
  simp [Builtin.len_, h0, run_underlyingP hd, goInt]

theorem lenV_sound {P : Program} {tt : Table} (ht : TT P tt) {E : Env} {w : World} {ts : Array TypeId} {ty : TypeId} {xs : List V} {v : V} {ys : Array Value} (hx : RepL E xs ys.toList) (h : lenV P tt ts ty xs = some v) :
  ∃ z, (Builtin.len_ ts ty ys).run P w = .ok z w ∧ Rep E v z := by
 unfold lenV at h
 split at h
 ·split at h
  ·rename_i t h0
   split at h
   ·rename_i e he
    simp only [Option.some.injEq] at h; subst h
    obtain ⟨x, r, hy, h1, h2⟩ := hx.of_cons
    have := h2.of_nil; subst this
    obtain rfl : ys = #[x] := by rw [← Array.toArray_toList (xs := ys), hy]
    cases h1 with
    | slice _ _ aa cap esz ad xf ha hcap hz hF hone hR => exact ⟨_, run_len ht h0 he w aa _ cap, .sc _ _⟩
   ·simp at h
  ·simp at h
 ·split at h
  ·rename_i t h0
   split at h
   ·rename_i e he
    simp only [Option.some.injEq] at h; subst h
    obtain ⟨x, r, hy, h1, h2⟩ := hx.of_cons
    have := h2.of_nil; subst this
    obtain rfl : ys = #[x] := by rw [← Array.toArray_toList (xs := ys), hy]
    cases h1 with
    | msnil => exact ⟨_, run_len ht h0 he w none _ 0, .sc _ _⟩
    | ms _ _ _ _ _ g e' c aa cap hb hl h00 hcc => exact ⟨_, run_len ht h0 he w aa _ cap, .sc _ _⟩
   ·simp at h
  ·simp at h
 ·exact liftL_sound hx h

theorem wrap_value {P : Program} {s : Sem Value} {w : World} {x : Value} (h : s.run P w = .ok x w) : (do pure (Next.value (← s)) : Sem Next).run P w = .ok (.value x) w := by
 simp [h]

theorem opV_sound {P : Program} {tt : Table} (ht : TT P tt) {E : Env} {w : World} {a : Act} {st : St} (hs : Sim E w a st) {o : Oper} {v : V} (h : opV P tt st o = some v) :
  ∃ x, (execOp a.eval o).run P w = .ok (.value x) w ∧ Rep E v x := by
 obtain ⟨dst, op, type, pos, after, guard⟩ := o
 unfold opV at h
 dsimp only at h
 split at h
 ·simp only [Option.some.injEq] at h; subst h; exact ⟨_, rfl, hs.eval _⟩
 ·simp only [Option.some.injEq] at h; subst h; exact ⟨_, rfl, hs.eval _⟩
 ·rename_i c x y
  split at h
  ·rename_i t hc
   simp only [Option.some.injEq] at h; subst h
   have := hs.eval c
   rw [hc] at this
   refine ⟨if t = true then a.eval x else a.eval y, ?_, ?_⟩
   ·simp [execOp, rep_sc this, asBool]
   ·cases t <;> exact hs.eval _
  ·simp at h
 ·obtain ⟨y, h1, h2⟩ := loadV_sound ht hs (hs.eval _) h
  exact ⟨y, wrap_value h1, h2⟩
 ·rename_i x
  have hx := hs.eval x
  generalize hy : a.eval x = y at hx
  have hrun : ∀ z, (∀ m f c, z ≠ .func (.method m) f c) → z ≠ .pointer none → z ≠ .nilIface → z ≠ .nilFunc → a.eval x = z → (execOp a.eval { dst, op := .nilCheck x, type, pos, after, guard }).run P w = .ok (.value z) w := by
   intro z h1 h2 h3 h4 he
   simp only [execOp,he]
   rfl
  unfold nilV at h
  split at h <;> simp only [Option.some.injEq,reduceCtorEq] at h <;> subst h <;> rename_i hv <;> rw [hv] at hx
  ·cases hx with
   | ptr _ _ _ g e c hb => exact ⟨_, hrun _ (by simp) (by simp) (by simp) (by simp) hy, .ptr _ _ _ g e c hb⟩
  ·cases hx with
   | rptr _ _ _ _ _ g e c hb => exact ⟨_, hrun _ (by simp) (by simp) (by simp) (by simp) hy, .rptr _ _ _ _ _ g e c hb⟩
  ·cases hx with
   | eptr _ _ ad xf hF hr => exact ⟨_, hrun _ (by simp) (by simp) (by simp) (by simp) hy, .eptr _ _ _ xf hF hr⟩
  ·cases hx with
   | clo _ f first cap xs ys h1 h2 h3 h4 => exact ⟨_, hrun _ (by simp) (by simp) (by simp) (by simp) hy, .clo _ _ _ _ _ _ h1 h2 h3 h4⟩
  ·have := rep_sc hx
   subst this
   exact ⟨_, hrun _ (by simp) (by simp) (by simp) (by simp) hy, .sc _ _⟩
 ·rename_i op T x y _
  split at h
  ·rename_i hg
   cases h
   obtain ⟨z, h1, h2⟩ := gnCmp_sound (P := P) (w := w) (T := T) x y (hs.eval x) (hs.eval y) hg
   exact ⟨z, wrap_value h1, h2⟩
  ·split at h
   ·rename_i hg
    cases h
    obtain ⟨z, h1, h2⟩ := ptrCmp_sound (P := P) (w := w) (T := T) x y (hs.eval x) (hs.eval y) hg
    exact ⟨z, wrap_value h1, h2⟩
   ·obtain ⟨z, h1, h2⟩ := lift2_sound (w := w) (hs.eval x) (hs.eval y) h
    exact ⟨z, wrap_value h1, h2⟩
 ·obtain ⟨z, h1, h2⟩ := lift1_sound (w := w) (hs.eval _) h
  exact ⟨z, wrap_value h1, h2⟩
 ·obtain ⟨z, h1, h2⟩ := convV_sound (w := w) hs (hs.eval _) h
  exact ⟨z, wrap_value h1, h2⟩
 ·rename_i fn first cap
  simp only [Option.some.injEq] at h; subst h
  have h1 := hs.evals first
  have h2 := hs.evals cap
  exact ⟨_, wrap_value rfl, .clo _ _ _ _ _ _ (by simp) (by simp) (fun i c x hc hx => h1.2 i c x hc (by simpa using hx)) fun i c x hc hx => h2.2 i c x hc (by simpa using hx)⟩
 ·obtain ⟨z, h1, h2⟩ := cutV_sound ht hs (hs.eval _) h
  exact ⟨z, wrap_value h1, h2⟩
 ·obtain ⟨z, h1, h2⟩ := fieldV_sound ht (hs.eval _) h w
  exact ⟨z, wrap_value h1, h2⟩
 ·obtain ⟨z, h1, h2⟩ := fieldOf_sound ht (hs.eval _) h w
  exact ⟨z, wrap_value h1, h2⟩
 ·obtain ⟨z, h1, h2⟩ := cut3V_sound ht (hs.eval _) (hs.eval _) (hs.eval _) h w
  exact ⟨z, wrap_value h1, h2⟩
 ·split at h
  ·rename_i hv
   cases h
   obtain ⟨z, h1, h2⟩ := indexV_sound ht hs (hs.eval _) (hs.eval _) hv
   exact ⟨z, wrap_value h1, h2⟩
  ·obtain ⟨z, h1, h2⟩ := arrAt_sound ht (hs.eval _) (hs.eval _) h w
   exact ⟨z, wrap_value h1, h2⟩
 ·obtain ⟨z, h1, h2⟩ := lift2_sound (w := w) (hs.eval _) (hs.eval _) h
  exact ⟨z, wrap_value h1, h2⟩
 ·rename_i t i
  split at h
  ·rename_i vs hv
   have := hs.eval t
   rw [hv] at this
   generalize hy : a.eval t = y at this
   cases this with
   | tup _ _ xs hl hr =>
    have hi : i < xs.size := by rw [← hl]; exact (List.getElem?_eq_some_iff.1 h).1
    exact ⟨xs[i], wrap_value (by simp [hy, Instr.extract, Array.getElem?_eq_getElem hi]), hr i v _ h (Array.getElem?_eq_getElem hi)⟩
  ·simp at h
 ·obtain ⟨z, h1, h2⟩ := lookupV_sound hs (hs.eval _) (hs.eval _) h
  exact ⟨z, wrap_value h1, h2⟩
 ·obtain ⟨z, h1, h2⟩ := curV_sound hs (hs.eval _) h
  exact ⟨z, wrap_value h1, h2⟩
 ·split at h
  ·rename_i hl
   cases h
   obtain ⟨z, h1, h2⟩ := lenM_sound hs (hs.evals _) hl
   exact ⟨z, wrap_value h1, h2⟩
  ·obtain ⟨z, h1, h2⟩ := lenV_sound ht (w := w) (hs.evals _) h
   exact ⟨z, wrap_value h1, h2⟩
 ·obtain ⟨z, h1, h2⟩ := liftL_sound (w := w) (hs.evals _) h
  exact ⟨z, wrap_value h1, h2⟩
 ·obtain ⟨z, h1, h2⟩ := liftL_sound (w := w) (hs.evals _) h
  exact ⟨z, wrap_value h1, h2⟩
 ·simp at h
end Go.Eng
end

section
namespace Go.Eng
variable [Glob]
open Go.RowKit (Below)

def setMem (mem : List Blk) (key : Nat) (B : Blk) : List Blk := if key < mem.length then mem.set key B else mem ++ [B]
def freeKey (mem : List Blk) (key : Nat) : Prop := mem[key]? = some .hole ∨ key = mem.length
def Env.with (E : Env) (key ver : Nat) (t : Nat × Nat × Nat) : Env := { F := E.F, blk := fun k v => if k = key ∧ v = ver then some t else E.blk k v, gl := E.gl }

theorem setMem_get {mem : List Blk} {key : Nat} (h : key ≤ mem.length) (B : Blk) (k : Nat) : (setMem mem key B)[k]? = if k = key then some B else mem[k]? := by
 unfold setMem
 split
 ·rename_i hlt
  rw [List.getElem?_set]
  by_cases hk : key = k
  ·subst hk; simp [hlt]
  ·rw [if_neg hk, if_neg (fun e => hk e.symm)]
 ·rename_i hge
  have hkey : key = mem.length := by omega
  by_cases hk : k = key
  ·subst hk; rw [if_pos rfl, hkey]; simp
  ·rw [if_neg hk, List.getElem?_append]
   split
   ·rfl
   ·rw [List.getElem?_eq_none (by simp; omega), List.getElem?_eq_none (by omega)]
theorem setMem_length {mem : List Blk} {key : Nat} (h : key ≤ mem.length) (B : Blk) : mem.length ≤ (setMem mem key B).length ∧ key < (setMem mem key B).length := by
 unfold setMem
 split <;> simp <;> omega
theorem freeKey.le {mem : List Blk} {key : Nat} (h : freeKey mem key) : key ≤ mem.length := by
 rcases h with h | h
 ·exact Nat.le_of_lt (List.getElem?_eq_some_iff.1 h).1
 ·omega
theorem Sim.free {E : Env} {w : World} {a : Act} {st : St} (hs : Sim E w a st) {key : Nat} (h : freeKey st.mem key) : ∀ v, E.blk key v = none := by
 rcases h with h | h
 ·exact hs.mem _ _ h
 ·exact hs.top _ (by omega)
theorem Env.le_with {E : Env} {key ver : Nat} (h : E.blk key ver = none) (t : Nat × Nat × Nat) : E.le (E.with key ver t) :=
 ⟨fun _ _ h => h, fun b v u hb => by
  show (if b = key ∧ v = ver then some t else E.blk b v) = some u
  rw [if_neg (fun e => by rw [e.1, e.2, h] at hb; cases hb)]; exact hb⟩

theorem BlkOk.mono {E E' : Env} {w w' : World} {k : Nat} {B : Blk} (h : BlkOk E w k B) (hle : E.le E') (hhole : ∀ v, E.blk k v = none → E'.blk k v = none)
  (hheap : ∀ g e c, E.blk k B.ver = some (g, e, c) → w'.heap[g]? = w.heap[g]?) (hF : ∀ g e c o, E.blk k B.ver = some (g, e, c) → E.F ⟨g, o, none⟩ = none → E'.F ⟨g, o, none⟩ = none) : BlkOk E' w' k B := by
 have hrows : ∀ {e rs} {f f' : Nat → Option Value}, (∀ o x, f o = some x → f' o = some x) → RowsOk E.pure e rs f → RowsOk E'.pure e rs f' := fun hf hr i row hi => by
  obtain ⟨h1, h2⟩ := hr i row hi
  exact ⟨h1, fun j c hj => let ⟨x, hx, h1, hr⟩ := h2 j c hj; ⟨x, hf _ _ hx, h1, hr.mono (Env.le_pure hle)⟩⟩
 cases B with
 | hole => exact fun v => hhole v (h v)
 | dead => trivial
 | box cs =>
  obtain ⟨g, T, xs, hb, hh, hr, hf⟩ := h
  exact ⟨g, T, xs, hle.blk _ _ _ hb, (hheap _ _ _ hb).trans hh, hr.mono hle, fun o => hF _ _ _ o hb (hf o)⟩
 | rows v e rs =>
  rcases h with ⟨h1, h2⟩ | ⟨g, T, xs, c, hb, hh, hsz, hl, hr, hf⟩
  ·exact .inl ⟨h1, hhole _ h2⟩
  ·exact .inr ⟨g, T, xs, c, hle.blk _ _ _ hb, (hheap _ _ _ hb).trans hh, hsz, hl, hrows (fun _ _ h => h) hr, fun o => hF _ _ _ o hb (hf o)⟩
 | loop s pend fr params assign body =>
  obtain ⟨l, fn, tmps, db, hb, hh, hr, hf⟩ := h
  exact ⟨l, fn, tmps, db, hle.blk _ _ _ hb, (hheap _ _ _ hb).trans hh, hr.mono hle, fun o => hF _ _ _ o hb (hf o)⟩
 | map kvs clock =>
  obtain ⟨g, es, hb, hh, hr, hf⟩ := h
  exact ⟨g, es, hle.blk _ _ _ hb, (hheap _ _ _ hb).trans hh, hr.mono hle, fun o => hF _ _ _ o hb (hf o)⟩
 | miter m since seen last =>
  obtain ⟨g, gm, e, c, hb, hm, hh, hf⟩ := h
  exact ⟨g, gm, e, c, hle.blk _ _ _ hb, hle.blk _ _ _ hm, (hheap _ _ _ hb).trans hh, fun o => hF _ _ _ o hb (hf o)⟩
 | siter s pos =>
  obtain ⟨g, hb, hh, hf⟩ := h
  exact ⟨g, hle.blk _ _ _ hb, (hheap _ _ _ hb).trans hh, fun o => hF _ _ _ o hb (hf o)⟩
 | niter =>
  obtain ⟨g, hb, hh, hf⟩ := h
  exact ⟨g, hle.blk _ _ _ hb, (hheap _ _ _ hb).trans hh, fun o => hF _ _ _ o hb (hf o)⟩
 | frz v e rs =>
  rcases h with ⟨h1, h2⟩ | ⟨g, c, hb, hl, hr⟩
  ·exact .inl ⟨h1, hhole _ h2⟩
  ·exact .inr ⟨g, c, hle.blk _ _ _ hb, hl, hrows (fun _ _ h => hle.F _ _ h) hr⟩

theorem Sim.new {E : Env} {w : World} {a : Act} {st : St} (hs : Sim E w a st) {key : Nat} (hk : freeKey st.mem key) {obj : Obj} {B : Blk} {e c : Nat} (hv0 : B.ver = 0)
  (hB : BlkOk (E.with key 0 (w.heap.size, e, c)) (w.alloc obj) key B) :
  Sim (E.with key 0 (w.heap.size, e, c)) (w.alloc obj) a { st with mem := setMem st.mem key B } ∧ Evo E w (E.with key 0 (w.heap.size, e, c)) (w.alloc obj) := by
 have hnone := hs.free hk
 have hle := Env.le_with (hnone 0) (w.heap.size, e, c)
 have hblk : ∀ k v, ¬ (k = key ∧ v = 0) → (E.with key 0 (w.heap.size, e, c)).blk k v = E.blk k v := fun k v hne => if_neg hne
 have hkey : (E.with key 0 (w.heap.size, e, c)).blk key 0 = some (w.heap.size, e, c) := if_pos ⟨rfl, rfl⟩
 have hnk : ∀ k v, k ≠ key → (E.with key 0 (w.heap.size, e, c)).blk k v = E.blk k v := fun k v hne => hblk k v fun h => hne h.1
 refine ⟨⟨fun ad x hx => ?_, fun k v g e' c' hb => ?_, fun k B' hB' => ?_, fun k hk' v => ?_, fun k B' hB' v hv => ?_, ?_, hs.fr.mono hle⟩, hle, fun k v g e' c' hb => ?_, fun ad x hx => .inl hx, rfl, rfl, rfl, by simp, fun b hb _ => Go.RowKit.Below.heap_alloc w _ b hb⟩
 ·rw [World.cell?_alloc_lt w _ ad (World.block_lt_of_cell? w ad (hs.F ad x hx))]; exact hs.F ad x hx
 ·by_cases hkk : k = key ∧ v = 0
  ·obtain ⟨rfl, rfl⟩ := hkk; rw [hkey] at hb; cases hb; simp
  ·rw [hblk k v hkk] at hb; have := hs.lt _ _ _ _ _ hb; simp; omega
 ·rw [setMem_get hk.le] at hB'
  split at hB'
  ·rename_i hkk; subst hkk; cases hB'; exact hB
  ·rename_i hkk
   exact (hs.mem k B' hB').mono hle (fun v h => by rw [hnk k v hkk]; exact h) (fun g e' c' hb => Go.RowKit.Below.heap_alloc w _ g (hs.lt _ _ _ _ _ hb)) fun _ _ _ o _ h => h
 ·have := setMem_length hk.le B
  dsimp only at hk'
  rw [hnk k v (by omega)]; exact hs.top k (by omega) v
 ·dsimp only at hB'
  rw [setMem_get hk.le] at hB'
  split at hB'
  ·rename_i hkk; subst hkk; cases hB'; rw [hblk k v (by omega)]; exact hnone v
  ·rename_i hkk; rw [hnk k v hkk]; exact hs.ver k B' hB' v hv
 ·intro k k' v v' g e1 c1 e2 c2 h5 h6
  by_cases hkk : k = key ∧ v = 0 <;> by_cases hkk' : k' = key ∧ v' = 0
  ·rw [hkk.1, hkk'.1]
  ·obtain ⟨rfl, rfl⟩ := hkk; rw [hkey] at h5; cases h5; rw [hblk k' _ hkk'] at h6; have := hs.lt _ _ _ _ _ h6; omega
  ·obtain ⟨rfl, rfl⟩ := hkk'; rw [hkey] at h6; cases h6; rw [hblk k _ hkk] at h5; have := hs.lt _ _ _ _ _ h5; omega
  ·rw [hblk k _ hkk] at h5; rw [hblk k' _ hkk'] at h6
   exact hs.apart _ _ _ _ _ _ _ _ _ h5 h6
 ·by_cases hkk : k = key ∧ v = 0
  ·obtain ⟨rfl, rfl⟩ := hkk; rw [hkey] at hb; cases hb; exact .inr (Nat.le_refl _)
  ·rw [hblk k v hkk] at hb; exact .inl ⟨_, _, _, _, hb⟩

theorem Sim.newBox {E : Env} {w : World} {a : Act} {st : St} (hs : Sim E w a st) {key : Nat} (hk : freeKey st.mem key) {xs : Array Value} {cs : List V} (hr : RepL E cs xs.toList) (T : TypeId) :
  ∃ E', Sim E' (w.alloc (.cells xs T (0, 0))) a { st with mem := setMem st.mem key (.box cs) } ∧ Evo E w E' (w.alloc (.cells xs T (0, 0))) ∧ Rep E' (.ptr key 0) (.pointer (some ⟨w.heap.size, 0, none⟩)) := by
 have hle := Env.le_with (hs.free hk 0) (w.heap.size, 0, 0)
 have := hs.new (obj := .cells xs T (0, 0)) (B := .box cs) (e := 0) (c := 0) hk rfl ⟨w.heap.size, T, xs, if_pos ⟨rfl, rfl⟩, heap_alloc_new w _, hr.mono hle, fun o => ?_⟩
 ·exact ⟨_, this.1, this.2, .ptr _ _ _ _ 0 0 (if_pos ⟨rfl, rfl⟩)⟩
 ·show E.F _ = none
  cases hx : E.F ⟨w.heap.size, o, none⟩ with
  | none => rfl
  | some x => have := World.block_lt_of_cell? w _ (hs.F _ _ hx); simp at this

theorem Sim.newRows {E : Env} {w : World} {a : Act} {st : St} (hs : Sim E w a st) {key : Nat} (hk : freeKey st.mem key) {xs : Array Value} {rs : List V} {e c : Nat} (T : TypeId) (hsz : xs.size = c * e) (hl : rs.length ≤ c)
  (hr : RowsOk E.pure e rs (fun o => xs[o]?)) :
  ∃ E', Sim E' (w.alloc (.cells xs T (0, 0))) a { st with mem := setMem st.mem key (.rows 0 e rs) } ∧ Evo E w E' (w.alloc (.cells xs T (0, 0))) ∧ Rep E' (.ms key 0 0 rs.length) (.slice (some ⟨w.heap.size, 0, none⟩) rs.length c) := by
 have hle := Env.le_with (hs.free hk 0) (w.heap.size, e, c)
 have := hs.new (obj := .cells xs T (0, 0)) (B := .rows 0 e rs) (e := e) (c := c) hk rfl (.inr ⟨w.heap.size, T, xs, c, if_pos ⟨rfl, rfl⟩, heap_alloc_new w _, hsz, hl, fun i row hi => ?_, fun o => ?_⟩)
 ·exact ⟨_, this.1, this.2, .ms _ _ _ _ _ w.heap.size e c _ _ (if_pos ⟨rfl, rfl⟩) (fun _ => by simp) (fun _ => ⟨rfl, rfl⟩) ⟨hl, Nat.zero_add _, fun _ => by simp⟩⟩
 ·obtain ⟨h1, h2⟩ := hr i row hi
  exact ⟨h1, fun j c' hj => let ⟨x, hx, h1, hr⟩ := h2 j c' hj; ⟨x, hx, h1, hr.mono (Env.le_pure hle)⟩⟩
 ·show E.F _ = none
  cases hx : E.F ⟨w.heap.size, o, none⟩ with
  | none => rfl
  | some x => have := World.block_lt_of_cell? w _ (hs.F _ _ hx); simp at this

theorem Sim.nilRows {E : Env} {w : World} {a : Act} {st : St} (hs : Sim E w a st) {key : Nat} (hk : freeKey st.mem key) (e : Nat) : Sim E w a { st with mem := setMem st.mem key (.rows 0 e []) } := by
 have hn := hs.free hk
 refine ⟨hs.F, hs.lt, fun k B hB => ?_, fun k hk' => hs.top k ?_, fun k B hB v hv => ?_, hs.apart, hs.fr⟩
 ·rw [setMem_get hk.le] at hB
  split at hB
  ·rename_i hkk; subst hkk; cases hB; exact .inl ⟨rfl, hn 0⟩
  ·exact hs.mem k B hB
 ·have := setMem_length hk.le (.rows 0 e []); dsimp only at hk'; omega
 ·dsimp only at hB
  rw [setMem_get hk.le] at hB
  split at hB
  ·rename_i hkk; subst hkk; exact hn v
  ·exact hs.ver k B hB v hv
end Go.Eng
end

section
namespace Go.Eng
variable [Glob]
open Go.RowKit (Below)

def spliceA (xs : Array Value) (o : Nat) : List Value → Array Value
 | [] => xs
 | v :: r => spliceA (xs.setIfInBounds o v) (o + 1) r
def spliceL (cs : List V) (o : Nat) : List V → List V
 | [] => cs
 | v :: r => spliceL (cs.set o v) (o + 1) r

theorem spliceA_size (vs : List Value) : ∀ (xs : Array Value) (o : Nat), (spliceA xs o vs).size = xs.size := by
 induction vs with
 | nil => intro xs o; rfl
 | cons v r ih => intro xs o; simp [spliceA, ih]
theorem spliceL_length (vs : List V) : ∀ (cs : List V) (o : Nat), (spliceL cs o vs).length = cs.length := by
 induction vs with
 | nil => intro cs o; rfl
 | cons v r ih => intro cs o; simp [spliceL, ih]
theorem spliceL_rep {E : Env} (vs : List V) : ∀ (ys : List Value) (cs : List V) (xs : Array Value) (o : Nat), RepL E vs ys → RepL E cs xs.toList → RepL E (spliceL cs o vs) (spliceA xs o ys).toList := by
 induction vs with
 | nil => intro ys cs xs o h k; have := h.of_nil; subst this; exact k
 | cons v r ih =>
  intro ys cs xs o h k
  obtain ⟨y, ys, rfl, h1, h2⟩ := h.of_cons
  exact ih ys _ _ _ h2 (by simpa using k.set o h1)
theorem spliceA_get (vs : List Value) : ∀ (xs : Array Value) (o k : Nat), o + vs.length ≤ xs.size → (spliceA xs o vs)[k]? = if o ≤ k ∧ k < o + vs.length then vs[k - o]? else xs[k]? := by
 induction vs with
 | nil => intro xs o k _; simp [spliceA]; intro h1 h2; omega
 | cons v r ih =>
  intro xs o k h
  simp only [List.length_cons] at h
  rw [spliceA, ih _ _ _ (by simp; omega)]
  by_cases h1 : o + 1 ≤ k ∧ k < o + 1 + r.length
  ·rw [if_pos h1, if_pos ⟨by omega, by simp; omega⟩]
   have : k - o = (k - (o + 1)) + 1 := by omega
   rw [this, List.getElem?_cons_succ]
  ·rw [if_neg h1]
   by_cases h2 : k = o
   ·subst h2
    rw [if_pos ⟨Nat.le_refl _, by simp⟩]
    simp only [Nat.sub_self,List.getElem?_cons_zero]
    rw [Array.getElem?_setIfInBounds_self_of_lt (by omega)]
   ·rw [if_neg (by simp only [List.length_cons]; omega), Array.getElem?_setIfInBounds_ne (fun e => h2 e.symm)]
theorem spliceL_get (vs : List V) : ∀ (cs : List V) (o k : Nat), o + vs.length ≤ cs.length → (spliceL cs o vs)[k]? = if o ≤ k ∧ k < o + vs.length then vs[k - o]? else cs[k]? := by
 induction vs with
 | nil => intro xs o k _; simp [spliceL]; intro h1 h2; omega
 | cons v r ih =>
  intro xs o k h
  simp only [List.length_cons] at h
  rw [spliceL, ih _ _ _ (by simp; omega)]
  by_cases h1 : o + 1 ≤ k ∧ k < o + 1 + r.length
  ·rw [if_pos h1, if_pos ⟨by omega, by simp; omega⟩]
   have : k - o = (k - (o + 1)) + 1 := by omega
   rw [this, List.getElem?_cons_succ]
  ·rw [if_neg h1]
   by_cases h2 : k = o
   ·subst h2
    rw [if_pos ⟨Nat.le_refl _, by simp⟩]
    simp only [Nat.sub_self,List.getElem?_cons_zero]
    rw [List.getElem?_set]; simp; omega
   ·rw [if_neg (by simp only [List.length_cons]; omega), List.getElem?_set_ne (fun e => h2 e.symm)]

structure OnlyBlk (w w' : World) (g : Nat) : Prop where
 os : w'.os = w.os
 tape : w'.tape = w.tape
 output : w'.output = w.output
 size : w'.heap.size = w.heap.size
 heap : ∀ b, b ≠ g → w'.heap[b]? = w.heap[b]?

theorem run_storeCells_own {P : Program} {g : Nat} {T : TypeId} (o : Nat) : ∀ (vs : List Value) (i : Nat) (w : World) (xs : Array Value), w.heap[g]? = some (.cells xs T (0, 0)) → o + i + vs.length ≤ xs.size →
  (∀ v ∈ vs, v.oneCell' = true) → ∃ w', (storeCells ⟨g, o, none⟩ vs i).run P w = .ok () w' ∧ w'.heap[g]? = some (.cells (spliceA xs (o + i) vs) T (0, 0)) ∧ OnlyBlk w w' g := by
 intro vs
 induction vs with
 | nil => intro i w xs hh _ _; exact ⟨w, rfl, hh, rfl, rfl, rfl, rfl, fun _ _ => rfl⟩
 | cons v r ih =>
  intro i w xs hh hl h1
  simp only [List.length_cons] at hl
  have hc : w.cell? ⟨g, o + i, none⟩ = some (xs[o + i]'(by omega)) := by rw [cell_at hh, Array.getElem?_eq_getElem]
  have hf : w.frozen? ⟨g, o + i, none⟩ = false := by simp [World.frozen?, hh]
  have hh' : (w.setCell ⟨g, o + i, none⟩ v).heap[g]? = some (.cells (xs.setIfInBounds (o + i) v) T (0, 0)) := by
   simp [World.setCell, Array.getElem?_modify, hh]
  obtain ⟨w', h2, h3, h4⟩ := ih (i + 1) _ _ hh' (by simp; omega) (fun v hv => h1 v (List.mem_cons_of_mem _ hv))
  refine ⟨w', ?_, by rw [spliceA]; exact h3, h4.os, h4.tape, h4.output, by rw [h4.size]; simp, fun b hb => (h4.heap b hb).trans (Go.RowKit.Below.heap_setCell w _ v b hb)⟩
  rw [storeCells]
  simp only [Sem.run_bind,add_lit]
  rw [run_store P w _ v .plain (h1 v (List.mem_cons_self ..))]
  simp [stored, hc, hf, h2]

def oneV : V → Bool
 | .sc v => v.oneCell'
 | .undef => false
 | .agg _ => false
 | .tup _ => false
 | _ => true
def cellsV : V → Option (List V)
 | .agg cs => if cs.all oneV then some cs else none
 | v => if oneV v then some [v] else none

theorem oneV_rep {E : Env} {c : V} {x : Value} (h : Rep E c x) (ho : oneV c = true) : x.oneCell' = true := by
 cases h <;> first | rfl | exact ho | simp [oneV] at ho
theorem cellsV_rep {E : Env} {v : V} {x : Value} {cs : List V} (h : Rep E v x) (hc : cellsV v = some cs) : RepL E cs x.cells.toList ∧ ∀ y ∈ x.cells.toList, y.oneCell' = true := by
 have key : ∀ (cs : List V) (xs : List Value), RepL E cs xs → cs.all oneV = true → ∀ y ∈ xs, y.oneCell' = true := by
  intro cs
  induction cs with
  | nil => intro xs h _ y hy; rw [h.of_nil] at hy; simp at hy
  | cons c r ih =>
   intro xs h ha y hy
   obtain ⟨x, ys, rfl, h1, h2⟩ := h.of_cons
   simp only [List.all_cons,Bool.and_eq_true] at ha
   rcases List.mem_cons.1 hy with rfl | hy
   ·exact oneV_rep h1 ha.1
   ·exact ih ys h2 ha.2 y hy
 unfold cellsV at hc
 split at hc
 ·split at hc
  ·rename_i cs' hall
   simp only [Option.some.injEq] at hc; subst hc
   have := h.cells (by simp) (by simp)
   exact ⟨this, key _ _ this hall⟩
  ·simp at hc
 ·split at hc
  ·rename_i hne hone
   simp only [Option.some.injEq] at hc; subst hc
   have h1 : x.oneCell' = true := oneV_rep h hone
   have hx : x.cells = #[x] := by cases x <;> first | rfl | simp [Value.oneCell'] at h1
   rw [hx]
   exact ⟨.cons h (.nil _), fun y hy => by simp at hy; subst hy; exact h1⟩
  ·simp at hc

theorem Sim.F_block {E : Env} {w : World} {a : Act} {st : St} (hs : Sim E w a st) {g : Nat} (hf : ∀ o, E.F ⟨g, o, none⟩ = none) {ad : Addr} {x : Value} (hx : E.F ad = some x) : ad.block ≠ g := by
 intro he
 have hc := hs.F ad x hx
 have hsp : ad.spot = none := by
  unfold World.cell? at hc
  split at hc
  ·split at hc
   ·simp at hc
   ·rename_i h; cases hsp : ad.spot with | none => rfl | some s => simp [hsp] at h
  ·simp at hc
 have : ad = ⟨g, ad.off, none⟩ := by cases ad; simp_all
 rw [this, hf] at hx
 cases hx

theorem Sim.turn {E : Env} {w w' : World} {a : Act} {st : St} (hs : Sim E w a st) {b g e c : Nat} {B B' : Blk} (hm : st.mem[b]? = some B) (hh : B.held = true) (hver : B'.ver = B.ver) (hb : E.blk b B.ver = some (g, e, c)) (hf : ∀ o, E.F ⟨g, o, none⟩ = none)
  (ho : OnlyBlk w w' g) (hB : BlkOk E w' b B') : Sim E w' a { st with mem := st.mem.set b B' } ∧ Evo E w E w' := by
 have hlt : b < st.mem.length := (List.getElem?_eq_some_iff.1 hm).1
 refine ⟨⟨fun ad x hx => ?_, fun k v g' e' c' hk => by rw [ho.size]; exact hs.lt _ _ _ _ _ hk, fun k B1 hk => ?_, fun k hk => hs.top k (by simpa using hk), fun k B1 hk v hv => ?_, hs.apart, hs.fr⟩,
  E.le_refl, fun k v g e c h => .inl ⟨k, v, e, c, h⟩, fun _ _ h => .inl h, ho.os, ho.tape, ho.output, by rw [ho.size]; exact Nat.le_refl _, fun b' hb' hne => ho.heap b' fun e => by subst e; exact hne _ _ _ _ hb⟩
 ·have hne := hs.F_block hf hx
  have : w'.heap[ad.block]? = w.heap[ad.block]? := ho.heap _ hne
  rw [← hs.F ad x hx]; simp [World.cell?, this]
 ·rw [List.getElem?_set] at hk
  by_cases hkb : b = k
  ·subst hkb; simp only [if_true,hlt] at hk; cases hk; exact hB
  ·rw [if_neg hkb] at hk
   cases hB1 : B1.held with
   | false => cases B1 <;> first | exact hs.mem k _ hk | trivial | simp [Blk.held] at hB1
   | true =>
    refine (hs.mem k B1 hk).mono E.le_refl (fun _ h => h) (fun g' e' c' hbk => ho.heap _ fun e => ?_) fun _ _ _ _ _ h => h
    subst e
    exact hkb (hs.apart _ _ _ _ _ _ _ _ _ hb hbk)
 ·dsimp only at hk
  rw [List.getElem?_set] at hk
  by_cases hqb : b = k
  ·subst hqb; simp only [if_true,hlt] at hk; cases hk; exact hs.ver b B hm v (by omega)
  ·rw [if_neg hqb] at hk; exact hs.ver k B1 hk v hv

def pureCell : V → Bool
 | .gn => true
 | .sc _ => true
 | .slice _ => true
 | .eptr _ => true
 | .undef => true
 | _ => false
theorem pureCell_rep {E : Env} {v : V} {x : Value} (h : Rep E v x) (hp : pureCell v = true) : Rep E.pure v x := by
 cases h with
 | undef => exact .undef _ _
 | gn => exact .gn _
 | sc => exact .sc _ _
 | slice _ rows a cap esz ad xf ha hcap hz hF h1 hR => exact .slice _ _ _ _ esz ad xf ha hcap hz hF h1 hR
 | eptr _ cs ad xf hF hR => exact .eptr _ _ _ xf hF hR
 | _ => simp [pureCell] at hp

def setRow (row : V) (o : Nat) (new : List V) : V :=
 match row with
 | .agg cs => .agg (spliceL cs o new)
 | r => match o, new with
  | 0, [c] => c
  | _, _ => r

theorem setRow_cells {row : V} {o : Nat} {new : List V} (ho : o + new.length ≤ row.cells.length) (hone : new.all oneV = true) (hne : new ≠ []) : (setRow row o new).cells = spliceL row.cells o new := by
 cases row with
 | agg cs => rfl
 | _ =>
  simp only [V.cells,List.length_cons,List.length_nil] at ho ⊢
  match new, hne with
  | [c], _ =>
   obtain rfl : o = 0 := by simp at ho; omega
   simp only [List.all_cons,List.all_nil,Bool.and_true] at hone
   cases c <;> first | rfl | simp [oneV] at hone
  | _ :: _ :: _, _ => simp at ho; omega

def storeV (tt : Table) (mem : List Blk) (T : TypeId) (p v : V) : Option (List Blk) :=
 match cellsV v with
 | none => none
 | some new =>
  if tSize tt T = some new.length then
   match p with
   | .ptr b o => match mem[b]? with
    | some (.box cs) => if o + new.length ≤ cs.length then some (mem.set b (.box (spliceL cs o new))) else none
    | _ => none
   | .rptr b v i o => match mem[b]? with
    | some (.rows v' e rs) => match rs[i]? with
     | some row => if v' = v ∧ o + new.length ≤ row.cells.length ∧ new ≠ [] ∧ new.all pureCell = true ∧ new.all oneV = true then some (mem.set b (.rows v' e (rs.set i (setRow row o new)))) else none
     | none => none
    | _ => none
   | _ => none
  else none
instance (new : List V) : Decidable (new ≠ []) := match new with | [] => .isFalse (by simp) | _ :: _ => .isTrue (by simp)

theorem RepL.pure {E : Env} : ∀ {vs : List V} {xs : List Value}, RepL E vs xs → vs.all pureCell = true → RepL E.pure vs xs
 | [], xs, h, _ => by rw [h.of_nil]; exact .nil _
 | v :: vs, xs, h, hp => by
  obtain ⟨x, ys, rfl, h1, h2⟩ := h.of_cons
  simp only [List.all_cons,Bool.and_eq_true] at hp
  exact .cons (pureCell_rep h1 hp.1) (RepL.pure h2 hp.2)

theorem storeV_sound {P : Program} {tt : Table} (ht : TT P tt) {E : Env} {w : World} {a : Act} {st : St} (hs : Sim E w a st) {T : TypeId} {p v : V} {x y : Value} {mem' : List Blk} (hp : Rep E p x) (hv : Rep E v y)
  (h : storeV tt st.mem T p v = some mem') : ∃ w', (Instr.storeAt T x y).run P w = .ok () w' ∧ Sim E w' a { st with mem := mem' } ∧ Evo E w E w' := by
 unfold storeV at h
 split at h
 ·simp at h
 ·rename_i new hnew
  obtain ⟨hr, hone⟩ := cellsV_rep hv hnew
  split at h
  ·rename_i hsz
   have hlen : y.cells.size = new.length := by have := hr.1; simp at this; exact this.symm
   have hrun : ∀ {g o : Nat} {xs : Array Value} {T' : TypeId}, w.heap[g]? = some (.cells xs T' (0, 0)) → o + new.length ≤ xs.size →
     ∃ w', (Instr.storeAt T (.pointer (some ⟨g, o, none⟩)) y).run P w = .ok () w' ∧ w'.heap[g]? = some (.cells (spliceA xs o y.cells.toList) T' (0, 0)) ∧ OnlyBlk w w' g := fun {g o xs T'} hh hle => by
    obtain ⟨w', h1, h2, h3⟩ := run_storeCells_own (P := P) o y.cells.toList 0 w xs hh (by have := hr.1; simp at this ⊢; omega) hone
    refine ⟨w', ?_, by simpa using h2, h3⟩
    unfold tSize at hsz
    split at hsz
    ·rename_i i hi
     simp only [Option.some.injEq] at hsz
     simp only [Instr.storeAt,Instr.sureAddr,Sem.run_bind,Sem.run_pure,Result.andThen_ok,storeVar,ht.sizeOf hi,hlen,hsz,ne_eq,not_true_eq_false,if_false]
     exact h1
    ·simp at hsz
   split at h
   ·rename_i b o
    split at h
    ·rename_i cs hm
     split at h
     ·rename_i hle
      simp only [Option.some.injEq] at h; subst h
      cases hp with
      | ptr _ _ _ g e c hb =>
       obtain ⟨g', T', xs, hb', hh, hrr, hf⟩ := hs.mem b _ hm
       rw [hb] at hb'; cases hb'
       obtain ⟨w', h1, h2, h3⟩ := hrun (o := o) hh (by have := hrr.1; simp at this; omega)
       exact ⟨w', h1, hs.turn hm rfl rfl hb hf h3 ⟨g, T', _, hb, h2, spliceL_rep _ _ _ _ _ hr hrr, hf⟩⟩
     ·simp at h
    ·simp at h
   ·rename_i b vv i o
    split at h
    ·rename_i v' e rs hm
     split at h
     ·rename_i row hrow
      split at h
      ·rename_i hcond
       obtain ⟨rfl, hle, hne, hpure, hone'⟩ := hcond
       simp only [Option.some.injEq] at h; subst h
       cases hp with
       | rptr _ _ _ _ _ g e' c hb =>
        rcases hs.mem b _ hm with ⟨rfl, -⟩ | ⟨g', T', xs, c', hb', hh, hxs, hcl, hrr, hf⟩
        ·simp at hrow
        rw [hb] at hb'; cases hb'
        obtain ⟨hrl, hrc⟩ := hrr i row hrow
        have hi : i < rs.length := (List.getElem?_eq_some_iff.1 hrow).1
        have hmul : i * e + e ≤ xs.size := by
         rw [hxs, ← Nat.succ_mul]; exact Nat.mul_le_mul_right e (by omega)
        obtain ⟨w', h1, h2, h3⟩ := hrun (o := i * e + o) hh (by omega)
        refine ⟨w', h1, hs.turn hm rfl rfl hb hf h3 (.inr ⟨g, T', _, c, hb, h2, by rw [spliceA_size]; exact hxs, by simpa using hcl, ?_, hf⟩)⟩
        have hyl : y.cells.toList.length = new.length := hr.1.symm
        intro i' row' hrow'
        rw [List.getElem?_set] at hrow'
        by_cases hii : i = i'
        ·subst hii
         simp only [if_true,hi] at hrow'
         cases hrow'
         have hc := setRow_cells hle hone' hne
         refine ⟨by rw [hc, spliceL_length]; exact hrl, fun j cc hj => ?_⟩
         rw [hc, spliceL_get _ _ _ _ hle] at hj
         dsimp only
         rw [spliceA_get _ _ _ _ (by rw [hyl]; omega), hyl]
         by_cases hin : o ≤ j ∧ j < o + new.length
         ·rw [if_pos hin] at hj
          rw [if_pos ⟨by omega, by omega⟩]
          obtain ⟨z, hz, hzr⟩ := (hr.pure hpure).get hj
          exact ⟨z, by rw [← hz]; congr 1; omega, hone z (List.mem_of_getElem? hz), hzr⟩
         ·rw [if_neg hin] at hj
          rw [if_neg (by omega)]
          exact hrc j cc hj
        ·rw [if_neg hii] at hrow'
         obtain ⟨h5, h6⟩ := hrr i' row' hrow'
         refine ⟨h5, fun j cc hj => ?_⟩
         obtain ⟨z, hz, hz1, hzr⟩ := h6 j cc hj
         have hjl : j < e := by rw [← h5]; exact (List.getElem?_eq_some_iff.1 hj).1
         refine ⟨z, ?_, hz1, hzr⟩
         dsimp only
         rw [spliceA_get _ _ _ _ (by rw [hyl]; omega), hyl, if_neg ?_]
         ·exact hz
         ·intro hin
          rcases Nat.lt_or_gt_of_ne hii with hlt | hgt
          ·have : (i + 1) * e ≤ i' * e := Nat.mul_le_mul_right e hlt
           rw [Nat.succ_mul] at this
           omega
          ·have : (i' + 1) * e ≤ i * e := Nat.mul_le_mul_right e hgt
           rw [Nat.succ_mul] at this
           omega
      ·simp at h
     ·simp at h
    ·simp at h
   ·simp at h
  ·simp at h
end Go.Eng
end

section
namespace Go.Eng
variable [Glob]
open Go.RowKit (Below)

def RowsA (E : Env) (e : Nat) (rs : List V) (ys : Array Value) : Prop := ys.size = rs.length * e ∧ RowsOk E e rs (fun o => ys[o]?)

theorem idx_lt {i n j e : Nat} (hi : i < n) (hj : j < e) : i * e + j < n * e := by
 have : (i + 1) * e ≤ n * e := Nat.mul_le_mul_right e hi
 rw [Nat.succ_mul] at this; omega

theorem load_rows {P : Program} {E : Env} {w : World} {ad : Addr} {rows : List V} {size : Nat} (hz : ∀ (i : Nat) (row : V), rows[i]? = some row → row.cells.length = size)
  (h : ∀ (i : Nat) (row : V) (j : Nat) (c : V), rows[i]? = some row → row.cells[j]? = some c → ∃ x, w.cell? (ad.add (i * size + j)) = some x ∧ x.oneCell' = true ∧ Rep E c x) :
  ∃ ys : Array Value, (loadCells ad (rows.length * size)).run P w = .ok ys w ∧ RowsA E size rows ys := by
 let f : Nat → Value := fun k => (w.cell? (ad.add k)).getD default
 have hf : ∀ k, k < rows.length * size → w.cell? (ad.add k) = some (f k) := fun k hk => by
  have hs : 0 < size := Nat.pos_of_ne_zero fun e => by subst e; simp at hk
  have hi : k / size < rows.length := by rwa [Nat.div_lt_iff_lt_mul hs]
  have hj : k % size < size := Nat.mod_lt _ hs
  have hrow := List.getElem?_eq_getElem hi
  have hcl := hz _ _ hrow
  obtain ⟨x, hx, -⟩ := h _ _ (k % size) _ hrow (List.getElem?_eq_getElem (by rw [hcl]; exact hj))
  rw [Nat.mul_comm, Nat.div_add_mod] at hx
  simp [f, hx]
 refine ⟨((List.range (rows.length * size)).map f).toArray, run_loadCells w ad _ f hf, by simp, fun i row hi => ⟨hz i row hi, fun j c hj => ?_⟩⟩
 obtain ⟨x, hx, h1, hr⟩ := h i row j c hi hj
 have hil : i < rows.length := (List.getElem?_eq_some_iff.1 hi).1
 have hjl : j < size := by rw [← hz i row hi]; exact (List.getElem?_eq_some_iff.1 hj).1
 refine ⟨x, ?_, h1, hr⟩
 have := idx_lt hil hjl
 simp [this, f, hx]

def rowsOf (mem : List Blk) (size : Nat) : V → Option (List V)
 | .slice rows => if firstOk rows 0 size = true then some rows else none
 | .ms b v s l => match mem[b]? with
  | some (.rows v' e rs) => if v' = v ∧ e = size ∧ s + l ≤ rs.length then some ((rs.drop s).take l) else none
  | some (.frz v' e rs) => if v' = v ∧ e = size ∧ s + l ≤ rs.length then some ((rs.drop s).take l) else none
  | _ => none
 | .sc (.slice none 0 0) => some []
 | _ => none

theorem cut_get {rs : List V} {s l i : Nat} {row : V} (h : ((rs.drop s).take l)[i]? = some row) : rs[s + i]? = some row := by
 rw [List.getElem?_take] at h
 split at h
 ·simpa using h
 ·simp at h

theorem rowsOf_sound {P : Program} {E : Env} {w : World} {a : Act} {st : St} (hs : Sim E w a st) {size : Nat} {v : V} {x : Value} {rows : List V} (hr : Rep E v x) (h : rowsOf st.mem size v = some rows) :
  ∃ aa cap, x = .slice aa rows.length cap ∧ rows.length ≤ cap ∧ ∃ ys : Array Value, (Builtin.firstCells size rows.length x).run P w = .ok ys w ∧ RowsA E.pure size rows ys := by
 have nilcase : ∀ n, n = 0 → ∃ ys : Array Value, (Builtin.firstCells size n (.slice none n 0)).run P w = .ok ys w ∧ RowsA E.pure size [] ys := fun n hn => by
  subst hn
  exact ⟨#[], rfl, by simp, fun i row hi => by simp at hi⟩
 unfold rowsOf at h
 split at h
 ·rename_i rows'
  split at h
  ·rename_i hfirst
   simp only [Option.some.injEq] at h; subst h
   cases hr with
   | slice _ _ aa cap esz ad xf ha hcap hz hF hone hR =>
    refine ⟨aa, cap, rfl, hcap, ?_⟩
    cases hrows : rows' with
    | nil =>
     subst hrows
     cases aa with
     | none => exact nilcase 0 rfl
     | some a0 => exact ⟨#[], by simp [Builtin.firstCells, loadCells, loadCellsFrom], by simp, fun i row hi => by simp at hi⟩
    | cons r0 rr =>
     have hne : rows' ≠ [] := by simp [hrows]
     have he : esz = size := by
      unfold firstOk at hfirst
      have h0 : rows'[0]? = some r0 := by simp [hrows]
      rw [h0] at hfirst
      simp only [beq_iff_eq] at hfirst
      rw [← hfirst, hz 0 _ h0]
     subst he
     obtain rfl := ha hne
     rw [← hrows]
     exact load_rows (P := P) hz fun i row j c hi hj => ⟨_, hs.F _ _ (hF i row j c hi hj), hone i row j c hi hj, hR i row j c hi hj⟩
  ·simp at h
 ·rename_i b v s l
  have hms : ∀ (rs : List V), s + l ≤ rs.length → rows = (rs.drop s).take l → (∀ g e c, E.blk b v = some (g, e, c) → e = size ∧ RowsOk E.pure size rs (fun o => w.cell? ⟨g, o, none⟩)) →
    ∃ aa cap, x = .slice aa rows.length cap ∧ rows.length ≤ cap ∧ ∃ ys : Array Value, (Builtin.firstCells size rows.length x).run P w = .ok ys w ∧ RowsA E.pure size rows ys := by
   intro rs hl hrows hb
   have hlen : rows.length = l := by rw [hrows]; simp; omega
   cases hr with
   | msnil =>
    have : rows = [] := List.length_eq_zero_iff.1 hlen
    subst this
    exact ⟨none, 0, rfl, Nat.le_refl _, nilcase 0 rfl⟩
   | ms _ _ _ _ _ g e c aa cap hbk hla h00 hcc =>
    obtain ⟨rfl, hrk⟩ := hb g e c hbk
    rw [← hlen]
    refine ⟨aa, cap, rfl, by omega, ?_⟩
    by_cases hl0 : 0 < l
    ·obtain rfl := hla hl0
     refine load_rows (P := P) (fun i row hi => ?_) fun i row j c hi hj => ?_
     ·rw [hrows] at hi; exact (hrk _ _ (cut_get hi)).1
     ·rw [hrows] at hi
      obtain ⟨x, hx, h1, h2⟩ := (hrk _ _ (cut_get hi)).2 j c hj
      exact ⟨x, by rw [add_lit, ← hx]; congr 2; rw [Nat.add_mul]; omega, h1, h2⟩
    ·have : rows = [] := List.length_eq_zero_iff.1 (by omega)
     subst this
     cases aa with
     | none => exact ⟨#[], rfl, by simp, fun i row hi => by simp at hi⟩
     | some a0 => exact ⟨#[], by simp [Builtin.firstCells, loadCells, loadCellsFrom], by simp, fun i row hi => by simp at hi⟩
  split at h
  ·rename_i v' e rs hm
   split at h
   ·rename_i hc
    obtain ⟨rfl, hc⟩ := hc
    simp only [Option.some.injEq] at h
    refine hms rs hc.2 h.symm fun g e' c hb => ?_
    rcases hs.mem b _ hm with ⟨-, hn⟩ | ⟨g', T', xs, c', hb', hh, -, -, hrr, -⟩
    ·rw [hb] at hn; cases hn
    ·rw [hb] at hb'; cases hb'
     refine ⟨hc.1, ?_⟩
     rw [hc.1] at hrr
     intro i row hi
     obtain ⟨h1, h2⟩ := hrr i row hi
     exact ⟨h1, fun j c hj => by dsimp only; rw [cell_at hh]; exact h2 j c hj⟩
   ·simp at h
  ·rename_i v' e rs hm
   split at h
   ·rename_i hc
    obtain ⟨rfl, hc⟩ := hc
    simp only [Option.some.injEq] at h
    refine hms rs hc.2 h.symm fun g e' c hb => ?_
    rcases hs.mem b _ hm with ⟨-, hn⟩ | ⟨g', c', hb', -, hrr⟩
    ·rw [hb] at hn; cases hn
    rw [hb] at hb'; cases hb'
    refine ⟨hc.1, ?_⟩
    rw [hc.1] at hrr
    intro i row hi
    obtain ⟨h1, h2⟩ := hrr i row hi
    exact ⟨h1, fun j c hj => let ⟨x, hx, h⟩ := h2 j c hj; ⟨x, hs.F _ _ hx, h⟩⟩
   ·simp at h
  ·simp at h
 ·simp only [Option.some.injEq] at h; subst h
  obtain rfl := rep_sc hr
  exact ⟨none, 0, rfl, Nat.le_refl _, nilcase 0 rfl⟩
 ·simp at h

def nilS : V → V
 | .sc (.slice none 0 0) => .slice []
 | v => v
theorem nilS_rep {E : Env} {v : V} {x : Value} (h : Rep E v x) : Rep E (nilS v) x := by
 unfold nilS
 split
 ·obtain rfl := rep_sc h
  exact .slice _ [] none 0 0 default (fun _ _ => default) (by simp) (by simp) (by simp) (by simp) (by simp) (by simp)
 ·exact h
def rowV : V → V
 | .agg cs => .agg (cs.map nilS)
 | v => nilS v
theorem rowV_cells {v : V} {cs : List V} (h : cellsV v = some cs) : (rowV v).cells = cs.map nilS := by
 unfold cellsV at h
 split at h
 ·split at h
  ·simp only [Option.some.injEq] at h; subst h; rfl
  ·simp at h
 ·rename_i hne
  split at h
  ·simp only [Option.some.injEq] at h; subst h
   cases v <;> first | exact absurd rfl (hne _) | rfl | skip
   rename_i v
   simp only [rowV,nilS,List.map_cons,List.map_nil]
   split <;> rfl
  ·simp at h
theorem RepL.nilS {E : Env} : ∀ {vs : List V} {xs : List Value}, RepL E vs xs → RepL E (vs.map nilS) xs
 | [], xs, h => h
 | v :: vs, xs, h => by
  obtain ⟨x, ys, rfl, h1, h2⟩ := h.of_cons
  exact .cons (nilS_rep h1) (RepL.nilS h2)

def litRows (size : Nat) : List V → Option (List V)
 | [] => some []
 | v :: r => match cellsV v with
  | some cs => if cs.length = size ∧ cs.all pureCell = true then (match litRows size r with | some rs => some (rowV v :: rs) | none => none) else none
  | none => none

def seqParts : Nat → List (Nat × Operand) → Bool
 | _, [] => true
 | k, (i, _) :: r => i == k && seqParts (k + 1) r

theorem fold_splice (off : Nat) : ∀ (l : List Value) (n : Nat) (cs : Array Value), (l.zipIdx n).foldl (fun cs (x : Value × Nat) => cs.setIfInBounds (off + x.2) x.1) cs = spliceA cs (off + n) l := by
 intro l
 induction l with
 | nil => intro n cs; rfl
 | cons v r ih => intro n cs; rw [List.zipIdx_cons, List.foldl_cons, ih, spliceA, Nat.add_assoc]

theorem fill_seq {E : Env} {size : Nat} : ∀ (parts : List (Nat × Operand)) (k : Nat) (ev : Operand → V) (av : Operand → Value) (Z : Array Value) (rs : List V), (∀ p ∈ parts, Rep E (ev p.2) (av p.2)) → seqParts k parts = true →
  litRows size (parts.map fun p => ev p.2) = some rs → (k + parts.length) * size ≤ Z.size →
  ∃ Z', Instr.fill (fun i => some (i * size, size)) Z (parts.map fun p => (p.1, av p.2)) = some Z' ∧ Z'.size = Z.size ∧ rs.length = parts.length ∧ (∀ o, o < k * size → Z'[o]? = Z[o]?) ∧
   RowsOk E.pure size rs (fun o => Z'[k * size + o]?) := by
 intro parts
 induction parts with
 | nil =>
  intro k ev av Z rs _ _ hl _
  simp only [List.map_nil,litRows,Option.some.injEq] at hl; subst hl
  exact ⟨Z, rfl, rfl, rfl, fun _ _ => rfl, fun i row hi => by simp at hi⟩
 | cons p r ih =>
  intro k ev av Z rs hrep hseq hl hsz
  obtain ⟨i, o⟩ := p
  simp only [seqParts,Bool.and_eq_true,beq_iff_eq] at hseq
  obtain ⟨rfl, hseq⟩ := hseq
  simp only [List.map_cons,litRows] at hl
  split at hl
  ·rename_i cs hcs
   split at hl
   ·rename_i hc
    split at hl
    ·rename_i rs' hrs'
     simp only [Option.some.injEq] at hl; subst hl
     obtain ⟨hr, hone⟩ := cellsV_rep (hrep (i, o) (List.mem_cons_self ..)) hcs
     have hsize : (av o).cells.size = size := by have := hr.1; simp at this; omega
     simp only [List.length_cons] at hsz
     have hmul : i * size + size ≤ Z.size := by
      have : (i + 1) * size ≤ (i + (r.length + 1)) * size := Nat.mul_le_mul_right _ (by omega)
      rw [Nat.succ_mul] at this; omega
     obtain ⟨Z', h1, h2, h3, h4, h5⟩ := ih (i + 1) ev av (spliceA Z (i * size) (av o).cells.toList) rs' (fun p hp => hrep p (List.mem_cons_of_mem _ hp)) hseq hrs' (by rw [spliceA_size]; rw [show i + 1 + r.length = i + (r.length + 1) from by omega]; exact hsz)
     have hlen : (av o).cells.toList.length = size := by simpa using hsize
     have hsp : ∀ q, (spliceA Z (i * size) (av o).cells.toList)[q]? = if i * size ≤ q ∧ q < i * size + size then (av o).cells.toList[q - i * size]? else Z[q]? := fun q => by
      rw [spliceA_get _ _ _ _ (by rw [hlen]; exact hmul), hlen]
     refine ⟨Z', ?_, by rw [h2, spliceA_size], by simp [h3], fun q hq => ?_, fun q row hq => ?_⟩
     ·simp only [List.map_cons,Instr.fill,hsize]
      rw [if_neg (by simp; omega)]
      rw [← h1]
      congr 1
      rw [← Array.foldl_toList, Array.toList_zipIdx]
      exact fold_splice (i * size) (av o).cells.toList 0 Z
     ·rw [h4 q (by rw [Nat.succ_mul]; omega), hsp, if_neg (by omega)]
     ·cases q with
      | zero =>
       simp only [List.getElem?_cons_zero,Option.some.injEq] at hq; subst hq
       rw [rowV_cells hcs]
       refine ⟨by simpa using hc.1, fun j c hj => ?_⟩
       have hjl : j < size := by rw [← hc.1]; simpa using (List.getElem?_eq_some_iff.1 hj).1
       obtain ⟨x, hx, hxr⟩ := (hr.pure hc.2).nilS.get hj
       refine ⟨x, ?_, hone x (List.mem_of_getElem? hx), hxr⟩
       dsimp only
       rw [Nat.zero_mul, Nat.zero_add, h4 _ (by rw [Nat.succ_mul]; omega), hsp, if_pos ⟨by omega, by omega⟩, ← hx]
       congr 1; omega
      | succ q =>
       simp only [List.getElem?_cons_succ] at hq
       obtain ⟨h6, h7⟩ := h5 q row hq
       refine ⟨h6, fun j c hj => ?_⟩
       obtain ⟨x, hx, hx1, hxr⟩ := h7 j c hj
       refine ⟨x, ?_, hx1, hxr⟩
       dsimp only at hx ⊢
       rw [← hx]
       congr 1
       rw [Nat.succ_mul, Nat.succ_mul]; omega
    ·simp at hl
   ·simp at hl
  ·simp at hl

def litV (tt : Table) (T : TypeId) (len : Nat) (parts : List (Nat × Operand)) (ev : Operand → V) : Option (Nat × List V) :=
 match tElem tt T with
 | some e => match tSize tt e with
  | some size => if seqParts 0 parts = true ∧ parts.length = len ∧ len * size ≤ 65536 then (match litRows size (parts.map fun p => ev p.2) with | some rs => some (size, rs) | none => none) else none
  | none => none
 | none => none

theorem lit_run {P : Program} {tt : Table} (ht : TT P tt) {E : Env} {w : World} {a : Act} {ev : Operand → V} {T : TypeId} {len size : Nat} {parts : Array (Nat × Operand)} {rs : List V} (hev : ∀ p ∈ parts.toList, Rep E (ev p.2) (a.eval p.2))
  (h : litV tt T len parts.toList ev = some (size, rs)) :
  ∃ (Z : Array Value) (e : TypeId), (Instr.buildSlice T len (parts.map fun (i, x) => (i, a.eval x))).run P w = .ok (.slice (some ⟨w.heap.size, 0, none⟩) len len) (w.alloc (.cells Z e (0, 0))) ∧ Z.size = len * size ∧ rs.length = len ∧ RowsOk E.pure size rs (fun o => Z[o]?) := by
 unfold litV tElem tSize at h
 cases hT : tt T with
 | none => rw [hT] at h; simp at h
 | some iT =>
  rw [hT] at h; simp only at h
  cases he : iT.elem with
  | none => rw [he] at h; simp at h
  | some e =>
   rw [he] at h; simp only at h
   cases hE : tt e with
   | none => rw [hE] at h; simp at h
   | some ie =>
    rw [hE] at h; simp only at h
    split at h
    ·rename_i hc
     obtain ⟨hseq, hlen, hbig⟩ := hc
     split at h
     ·rename_i rs' hrs
      simp only [Option.some.injEq,Prod.mk.injEq] at h
      obtain ⟨rfl, rfl⟩ := h
      obtain ⟨d, hd, -, hsl, -⟩ := ht.desc T iT hT
      obtain rfl := hsl e he
      obtain ⟨info, hi1, hi2, -, z, hz, hzl⟩ := ht.size e ie hE
      have hzero : ∀ w' : World, (zeroValue e).run P w' = .ok z w' := fun w' => by simp [zeroValue, run_typeInfoP hi1, hz]
      obtain ⟨zc, hzc⟩ : ∃ zc : Array Value, zc = if len * ie.size = 0 then #[] else z.cells := ⟨_, rfl⟩
      obtain ⟨Z', h1, h2, h3, -, h5⟩ := fill_seq (size := ie.size) parts.toList 0 ev a.eval ((Array.range (len * ie.size)).map (zc[· % zc.size]!)) rs' hev hseq hrs (by simp [hlen])
      refine ⟨Z', e, ?_, by simpa using h2, by omega, by simpa using h5⟩
      have hparts : (parts.map fun (i, x) => (i, a.eval x)).toList = parts.toList.map fun p => (p.1, a.eval p.2) := by simp
      unfold Instr.buildSlice
      simp only [Sem.run_bind,run_underlyingP hd,Result.andThen_ok,ht.sizeOf hE]
      rw [if_neg (by omega)]
      by_cases h0 : len * ie.size = 0
      ·simp only [h0,if_true,Sem.run_pure,Result.andThen_ok,hparts]
       rw [if_pos h0] at hzc
       subst hzc
       rw [h0] at h1
       simp only [Sem.run_bind,Sem.run_pure,Result.andThen_ok,hparts]
       simp only [h1]
       simp [newRow]
      ·simp only [h0,if_false,Sem.run_bind,hzero,Sem.run_pure,Result.andThen_ok,hparts]
       rw [if_neg h0] at hzc
       subst hzc
       simp only [h1]
       simp [newRow]
     ·simp at h
    ·simp at h
end Go.Eng
end

section
namespace Go.Eng
variable [Glob]
open Go.RowKit (Below)

section
variable {P : Program} {w : World}
theorem run_append_fit {t u ty e e' : TypeId} {i : TypeInfo} (ht : P.underlying t = some (.slice e)) (hu : P.underlying u = some (.slice e')) (hi : P.info? e = some i) (g sLen sCap n c : Nat) (aa : Option Addr) (news : Array Value)
  (hf : (Builtin.firstCells i.size n (.slice aa n c)).run P w = .ok news w) (hroom : sLen + n ≤ sCap) {w' : World} (hst : (storeCells ⟨g, sLen * i.size, none⟩ news.toList).run P w = .ok () w') :
  (Builtin.append_ #[t, u] ty #[.slice (some ⟨g, 0, none⟩) sLen sCap, .slice aa n c]).run P w = .ok (.slice (some ⟨g, 0, none⟩) (sLen + n) sCap) w' := by
 simp [Builtin.append_, run_underlyingP ht, run_underlyingP hu, run_sizeOfP hi, Builtin.lenOf, hroom, hf, add_lit, hst]

theorem run_append_nilnil {t u ty e e' : TypeId} {i : TypeInfo} (ht : P.underlying t = some (.slice e)) (hu : P.underlying u = some (.slice e')) (hi : P.info? e = some i) (c : Nat) (aa : Option Addr) (news : Array Value)
  (hf : (Builtin.firstCells i.size 0 (.slice aa 0 c)).run P w = .ok news w) :
  (Builtin.append_ #[t, u] ty #[.slice none 0 0, .slice aa 0 c]).run P w = .ok (.slice none 0 0) w := by
 simp [Builtin.append_, run_underlyingP ht, run_underlyingP hu, run_sizeOfP hi, Builtin.lenOf, hf]

theorem run_append_new {t u ty e e' : TypeId} {i : TypeInfo} {z : Value} (ht : P.underlying t = some (.slice e)) (hu : P.underlying u = some (.slice e')) (hi : P.info? e = some i) (hz : i.zero = some z) (base : Option Addr) (sLen sCap n c : Nat)
  (aa : Option Addr) (olds news : Array Value) (hfo : (Builtin.firstCells i.size sLen (.slice base sLen sCap)).run P w.drew = .ok olds w.drew) (hf : (Builtin.firstCells i.size n (.slice aa n c)).run P w.drew = .ok news w.drew)
  (hg : sCap < sLen + n) (h63 : ((sLen + n : Nat) : Int) ≤ 9223372036854775807) (hfit : Builtin.nextslicecap (sLen + n) sCap * i.bytes ≤ 281474976710656) :
  (Builtin.append_ #[t, u] ty #[.slice base sLen sCap, .slice aa n c]).run P w =
   .ok (.slice (some ⟨w.heap.size, 0, none⟩) (sLen + n) (grownCap w (sLen + n) sCap e))
    (w.drew.alloc (.cells (olds ++ news ++ Builtin.zeroCells z.cells (grownCap w (sLen + n) sCap e - (sLen + n))) e)) := by
 have hn : ¬ (sLen + n ≤ sCap) := by omega
 have h63' : ¬ (9223372036854775807 < ((sLen : Int) + (n : Int))) := by omega
 have h48' : ¬ (281474976710656 < Builtin.nextslicecap (sLen + n) sCap * i.bytes) := by omega
 simp [Builtin.append_, run_underlyingP ht, run_underlyingP hu, run_typeInfoP hi, run_sizeOfP hi, zeroValue, hz, Builtin.lenOf, hn, h63', h48', Question.forced, hf, hfo, newRow, grownCap]
end

def liveRows (mem : List Blk) (size : Nat) : V → Option (Option (Nat × Nat) × List V)
 | .sc (.slice none 0 0) => some (none, [])
 | .full rows => if firstOk rows 0 size = true then some (none, rows) else none
 | .ms b v 0 l => match mem[b]? with
  | some (.rows v' e rs) => if v' = v ∧ e = size ∧ rs.length = l then some (some (b, v), rs) else none
  | _ => none
 | _ => none

def gapOk : V → List V → Bool
 | .full _, [] => false
 | _, _ => true
theorem gapOk_ms (b v s l : Nat) (xs : List V) : gapOk (.ms b v s l) xs = true := rfl
theorem gapOk_sc (v : Value) (xs : List V) : gapOk (.sc v) xs = true := rfl
theorem gapOk_cons (v x : V) (xs : List V) : gapOk v (x :: xs) = true := by cases v <;> rfl
def appendV (tt : Table) (mem : List Blk) (ts : List TypeId) (s x : V) : Option (Nat × Option (Nat × Nat) × List V) :=
 match ts with
 | [t, u] => match tt t with
  | some it => match it.elem with
   | some e => match tElem tt u with
    | some _ => match tt e with
     | some i =>
      if 0 < i.size ∧ i.bytes ≤ 4096 ∧ i.zero.length = i.size then
       match liveRows mem i.size s with
       | some (old, rs) => match rowsOf mem i.size x with
        | some xs => if rs.length + xs.length ≤ 34359738368 then (if gapOk s xs = true then some (i.size, old, rs ++ xs) else none) else none
        | none => none
       | none => none
      else none
     | none => none
    | none => none
   | none => none
  | none => none
 | _ => none

def appOut (mem : List Blk) (key size : Nat) (rows : List V) : Option (Nat × Nat) → List Blk × V
 | none => (setMem mem key (.rows 0 size rows), .ms key 0 0 rows.length)
 | some (b, v) => (mem.set b (.rows (v + 1) size rows), .ms b (v + 1) 0 rows.length)

theorem Sim.renew {E : Env} {w w' : World} {a : Act} {st : St} (hs : Sim E w a st) {b v e0 g e c : Nat} {rs rows : List V} (hm : st.mem[b]? = some (.rows v e0 rs)) (hF : ∀ ad x, E.F ad = some x → w'.cell? ad = some x) (hsz : w.heap.size ≤ w'.heap.size)
  (hg : g < w'.heap.size) (hother : ∀ k B', k ≠ b → st.mem[k]? = some B' → B'.held = true → ∀ g' e' c', E.blk k B'.ver = some (g', e', c') → w'.heap[g']? = w.heap[g']? ∧ g' ≠ g)
  (hB : BlkOk (E.with b (v + 1) (g, e, c)) w' b (.rows (v + 1) e rows)) (hfr : ∀ k v' e' c', E.blk k v' = some (g, e', c') → k = b) : Sim (E.with b (v + 1) (g, e, c)) w' a { st with mem := st.mem.set b (.rows (v + 1) e rows) } := by
 have hn : ∀ v', v < v' → E.blk b v' = none := fun v' hv' => hs.ver b _ hm v' hv'
 have hle : E.le (E.with b (v + 1) (g, e, c)) := Env.le_with (hn _ (Nat.lt_succ_self v)) _
 have hkey : (E.with b (v + 1) (g, e, c)).blk b (v + 1) = some (g, e, c) := if_pos ⟨rfl, rfl⟩
 have hblk : ∀ k v', ¬ (k = b ∧ v' = v + 1) → (E.with b (v + 1) (g, e, c)).blk k v' = E.blk k v' := fun k v' hne => if_neg hne
 have hnk : ∀ k v', k ≠ b → (E.with b (v + 1) (g, e, c)).blk k v' = E.blk k v' := fun k v' hne => hblk k v' fun h => hne h.1
 have hlt : b < st.mem.length := (List.getElem?_eq_some_iff.1 hm).1
 have hget : ∀ (k : Nat) (B : Blk), (st.mem.set b (.rows (v + 1) e rows))[k]? = some B → (k = b ∧ B = .rows (v + 1) e rows) ∨ (k ≠ b ∧ st.mem[k]? = some B) := fun k B hk => by
  rw [List.getElem?_set] at hk
  by_cases hkb : b = k
  ·subst hkb; simp only [if_true,hlt] at hk; cases hk; exact .inl ⟨rfl, rfl⟩
  ·rw [if_neg hkb] at hk; exact .inr ⟨fun e => hkb e.symm, hk⟩
 refine ⟨hF, fun k v' g' e' c' hb => ?_, fun k B hk => ?_, fun k hk v' => ?_, fun k B hk v' hv' => ?_, fun k k' v1 v2 g' e1 c1 e2 c2 h5 h6 => ?_, hs.fr.mono hle⟩
 ·by_cases hq : k = b ∧ v' = v + 1
  ·obtain ⟨rfl, rfl⟩ := hq; rw [hkey] at hb; cases hb; exact hg
  ·rw [hblk k v' hq] at hb; exact Nat.lt_of_lt_of_le (hs.lt _ _ _ _ _ hb) hsz
 ·rcases hget k B hk with ⟨rfl, rfl⟩ | ⟨hkb, hk'⟩
  ·exact hB
  ·cases hB1 : B.held with
   | false =>
    have := hs.mem k B hk'
    cases B with
    | hole => exact fun v' => by rw [hnk k v' hkb]; exact this v'
    | dead => trivial
    | _ => simp [Blk.held] at hB1
   | true => exact (hs.mem k B hk').mono hle (fun v' h => by rw [hnk k v' hkb]; exact h) (fun g' e' c' hbk => (hother k B hkb hk' hB1 g' e' c' hbk).1) fun _ _ _ _ _ h => h
 ·have hk' : st.mem.length ≤ k := by simpa using hk
  rw [hnk k v' (by omega)]; exact hs.top k hk' v'
 ·rcases hget k B hk with ⟨rfl, rfl⟩ | ⟨hkb, hk'⟩
  ·have : v + 1 < v' := hv'
   rw [hblk k v' (by omega)]; exact hn v' (by omega)
  ·rw [hnk k v' hkb]; exact hs.ver k B hk' v' hv'
 ·by_cases hq : k = b ∧ v1 = v + 1 <;> by_cases hq' : k' = b ∧ v2 = v + 1
  ·rw [hq.1, hq'.1]
  ·obtain ⟨rfl, rfl⟩ := hq; rw [hkey] at h5; cases h5; rw [hblk k' _ hq'] at h6; exact (hfr _ _ _ _ h6).symm
  ·obtain ⟨rfl, rfl⟩ := hq'; rw [hkey] at h6; cases h6; rw [hblk k _ hq] at h5; exact hfr _ _ _ _ h5
  ·rw [hblk k _ hq] at h5; rw [hblk k' _ hq'] at h6
   exact hs.apart _ _ _ _ _ _ _ _ _ h5 h6

theorem Sim.renewNil {E : Env} {w : World} {a : Act} {st : St} (hs : Sim E w a st) {b v e0 e : Nat} {rs : List V} (hm : st.mem[b]? = some (.rows v e0 rs)) : Sim E w a { st with mem := st.mem.set b (.rows (v + 1) e []) } := by
 have hn : ∀ v', v < v' → E.blk b v' = none := fun v' hv' => hs.ver b _ hm v' hv'
 have hlt : b < st.mem.length := (List.getElem?_eq_some_iff.1 hm).1
 have hget : ∀ (k : Nat) (B : Blk), (st.mem.set b (.rows (v + 1) e []))[k]? = some B → (k = b ∧ B = .rows (v + 1) e []) ∨ (k ≠ b ∧ st.mem[k]? = some B) := fun k B hk => by
  rw [List.getElem?_set] at hk
  by_cases hkb : b = k
  ·subst hkb; simp only [if_true,hlt] at hk; cases hk; exact .inl ⟨rfl, rfl⟩
  ·rw [if_neg hkb] at hk; exact .inr ⟨fun e => hkb e.symm, hk⟩
 refine ⟨hs.F, hs.lt, fun k B hk => ?_, fun k hk v' => hs.top k (by simpa using hk) v', fun k B hk v' hv' => ?_, hs.apart, hs.fr⟩
 ·rcases hget k B hk with ⟨rfl, rfl⟩ | ⟨hkb, hk'⟩
  ·exact .inl ⟨rfl, hn _ (Nat.lt_succ_self v)⟩
  ·exact hs.mem k B hk'
 ·rcases hget k B hk with ⟨rfl, rfl⟩ | ⟨hkb, hk'⟩
  ·exact hn v' (Nat.lt_of_succ_lt hv')
  ·exact hs.ver k B hk' v' hv'

theorem RowsOk_append {E : Env} {e : Nat} {rs xs : List V} {A B C : Array Value} (h1 : RowsA E e rs A) (h2 : RowsA E e xs B) : RowsOk E e (rs ++ xs) (fun o => (A ++ B ++ C)[o]?) := by
 intro i row hi
 rw [List.getElem?_append] at hi
 split at hi
 ·rename_i hlt
  obtain ⟨h3, h4⟩ := h1.2 i row hi
  refine ⟨h3, fun j c hj => ?_⟩
  obtain ⟨x, hx, hr⟩ := h4 j c hj
  dsimp only at hx
  have hlt' : i * e + j < A.size := (Array.getElem?_eq_some_iff.1 hx).1
  refine ⟨x, ?_, hr⟩
  dsimp only
  rw [Array.append_assoc, Array.getElem?_append_left hlt', hx]
 ·rename_i hge
  obtain ⟨h3, h4⟩ := h2.2 (i - rs.length) row hi
  refine ⟨h3, fun j c hj => ?_⟩
  obtain ⟨x, hx, hr⟩ := h4 j c hj
  dsimp only at hx
  have hlt' : (i - rs.length) * e + j < B.size := (Array.getElem?_eq_some_iff.1 hx).1
  refine ⟨x, ?_, hr⟩
  dsimp only
  have hmul : i * e = A.size + (i - rs.length) * e := by
   rw [h1.1, ← Nat.add_mul]; congr 1; omega
  rw [Array.append_assoc, Array.getElem?_append_right (by omega), Array.getElem?_append_left (by omega), ← hx]
  congr 1; omega

theorem ms_inv {E : Env} {b v s l : Nat} {x : Value} (h : Rep E (.ms b v s l) x) : (l = 0 ∧ x = .slice none 0 0) ∨
  ∃ g e c a cap, x = .slice a l cap ∧ E.blk b v = some (g, e, c) ∧ (0 < l → a = some ⟨g, s * e, none⟩) ∧ (s = 0 → a = some ⟨g, 0, none⟩ ∧ cap = c) ∧ (l ≤ cap ∧ s + cap = c ∧ (0 < cap → a = some ⟨g, s * e, none⟩)) := by
 cases h with
 | msnil => exact .inl ⟨rfl, rfl⟩
 | ms _ _ _ _ _ g e c a cap hb hl h0 hc => exact .inr ⟨g, e, c, a, cap, rfl, hb, hl, h0, hc⟩

theorem one_of_rows {E : Env} {e : Nat} {xs : List V} {A : Array Value} (hpos : 0 < e) (h : RowsA E e xs A) : ∀ v ∈ A.toList, v.oneCell' = true := by
 intro v hv
 obtain ⟨q, hq, rfl⟩ := List.mem_iff_getElem.1 hv
 have hq' : q < xs.length * e := by rw [← h.1]; simpa using hq
 have hiq : q / e < xs.length := by rwa [Nat.div_lt_iff_lt_mul hpos]
 have hrow := List.getElem?_eq_getElem hiq
 obtain ⟨hcl', hcell⟩ := h.2 _ _ hrow
 obtain ⟨vv, hvv, hv1, -⟩ := hcell (q % e) _ (List.getElem?_eq_getElem (by rw [hcl']; exact Nat.mod_lt _ hpos))
 dsimp only at hvv
 rw [Nat.mul_comm, Nat.div_add_mod] at hvv
 have : A.toList[q] = vv := by
  have hq2 : q < A.size := by simpa using hq
  rw [Array.getElem?_eq_getElem hq2] at hvv
  simpa using hvv
 rw [this]; exact hv1

theorem appendV_sound {P : Program} {tt : Table} (ht : TT P tt) {E : Env} {w : World} {a : Act} {st : St} (hs : Sim E w a st) {ts : Array TypeId} {ty : TypeId} {s x : V} {y z : Value} {size : Nat} {old : Option (Nat × Nat)} {rows : List V} {key : Nat}
  (hk : freeKey st.mem key) (hsr : Rep E s y) (hxr : Rep E x z) (h : appendV tt st.mem ts.toList s x = some (size, old, rows)) :
  ∃ v w' E', (Builtin.append_ ts ty #[y, z]).run P w = .ok v w' ∧ Sim E' w' a { st with mem := (appOut st.mem key size rows old).1 } ∧ Evo E w E' w' ∧ Rep E' (appOut st.mem key size rows old).2 v := by
 unfold appendV at h
 split at h
 ·rename_i t u hts
  obtain rfl : ts = #[t, u] := by rw [← Array.toArray_toList (xs := ts), hts]
  split at h
  ·rename_i it hT
   split at h
   ·rename_i e he
    split at h
    ·rename_i e' heu
     split at h
     ·rename_i i hE
      split at h
      ·rename_i hc
       obtain ⟨hpos, hbytes, hzl⟩ := hc
       split at h
       ·rename_i old' rs hlive
        split at h
        ·rename_i xs hxs
         split at h
         ·rename_i hlen
          split at h
          case isFalse => cases h
          rename_i hgap
          simp only [Option.some.injEq,Prod.mk.injEq] at h
          obtain ⟨rfl, rfl, rfl⟩ := h
          obtain ⟨d, hd, -, hsl, -⟩ := ht.desc t it hT
          obtain rfl := hsl e he
          have hdu : ∃ e1, P.underlying u = some (.slice e1) := by
           unfold tElem at heu
           split at heu
           ·rename_i iu hU
            obtain ⟨d, hd, -, hsl, -⟩ := ht.desc u iu hU
            exact ⟨e', by rw [hd, hsl e' heu]⟩
           ·simp at heu
          obtain ⟨e1, hdu⟩ := hdu
          obtain ⟨info, hi1, hi2, hi3, z0, hz0, hz1⟩ := ht.size e i hE
          have hzs : z0.cells.size = info.size := by rw [hi2, ← hzl, ← hz1]; simp
          rw [← hi2] at hxs hlive hpos ⊢
          rw [← hi3] at hbytes
          have hdr : Sim E w.drew a st := hs.drew
          obtain ⟨xa, xc, rfl, hxc, xA, hx1, hx2⟩ := rowsOf_sound (P := P) hs hxr hxs
          obtain ⟨xa', xc', heq, -, xB, hx3, hx4⟩ := rowsOf_sound (P := P) hdr hxr hxs
          simp only [Value.slice.injEq] at heq
          obtain ⟨rfl, -, rfl⟩ := heq
          have hfit : ∀ sCap, sCap < rs.length + xs.length → Builtin.nextslicecap (rs.length + xs.length) sCap * info.bytes ≤ 281474976710656 := fun sCap hlt =>
           growslice_fits hlt (Nat.le_trans (Nat.mul_le_mul hlen hbytes) (by decide))
          have hrl : (rs ++ xs).length = rs.length + xs.length := by simp
          have hge : ∀ sCap, rs.length + xs.length ≤ grownCap w (rs.length + xs.length) sCap e := fun sCap => grownCap_ge w (rs.length + xs.length) sCap e
          have hcells : ∀ (sCap : Nat) (A : Array Value), RowsA E.pure info.size rs A → (A ++ xB ++ Builtin.zeroCells z0.cells (grownCap w (rs.length + xs.length) sCap e - (rs.length + xs.length))).size = grownCap w (rs.length + xs.length) sCap e * info.size := fun sCap A hrA => by
           simp only [Array.size_append,size_zeroCells,hzs,hrA.1,hx4.1,← Nat.add_mul]
           congr 1; have := hge sCap; omega
          unfold liveRows at hlive
          split at hlive
          ·-- nil
           simp only [Option.some.injEq,Prod.mk.injEq] at hlive
           obtain ⟨rfl, rfl⟩ := hlive
           obtain rfl := rep_sc hsr
           by_cases h0 : xs.length = 0
           ·have hxnil : xs = [] := List.length_eq_zero_iff.1 h0
            subst hxnil
            exact ⟨_, w, E, run_append_nilnil (ty := ty) hd hdu hi1 xc xa xA hx1, hs.nilRows hk info.size, Evo.refl E w, .msnil _ _ _ _⟩
           ·have hrun := run_append_new (ty := ty) hd hdu hi1 hz0 none 0 0 xs.length xc xa #[] xB rfl hx3 (by omega) (by omega) (hfit 0 (by simp; omega))
            obtain ⟨E', h5, h6, h7⟩ := Sim.newRows hdr (key := key) hk (xs := #[] ++ xB ++ Builtin.zeroCells z0.cells (grownCap w (([] : List V).length + xs.length) 0 e - (([] : List V).length + xs.length))) (rs := [] ++ xs) (e := info.size)
             (c := grownCap w (([] : List V).length + xs.length) 0 e) e (hcells 0 #[] ⟨by simp, fun i row hi => by simp at hi⟩) (by rw [hrl]; exact hge 0) (RowsOk_append ⟨by simp, fun i row hi => by simp at hi⟩ hx4)
            refine ⟨_, _, E', hrun, h5, (Evo.drew E w).trans h6, ?_⟩
            simp only [appOut]
            rw [hrl] at h7 ⊢
            exact h7
          ·-- rows without room
           rename_i rows'
           split at hlive
           case isFalse => cases hlive
           rename_i hfirst
           simp only [Option.some.injEq,Prod.mk.injEq] at hlive
           obtain ⟨rfl, rfl⟩ := hlive
           have hx0 : 0 < xs.length := by
            cases xs with
            | nil => simp [gapOk] at hgap
            | cons _ _ => simp
           cases hsr with
           | full _ _ sa hsr =>
           have hro : rowsOf st.mem info.size (.slice rows') = some rows' := by simp only [rowsOf]; rw [if_pos hfirst]
           obtain ⟨sa', sc, heq, hsc, A, hA1, hA2⟩ := rowsOf_sound (P := P) hdr hsr hro
           simp only [Value.slice.injEq] at heq
           obtain ⟨rfl, -, rfl⟩ := heq
           have hrun := run_append_new (ty := ty) hd hdu hi1 hz0 sa rows'.length rows'.length xs.length xc xa A xB hA1 hx3 (by omega) (by omega) (hfit _ (by omega))
           obtain ⟨E', h5, h6, h7⟩ := Sim.newRows hdr (key := key) hk (xs := A ++ xB ++ Builtin.zeroCells z0.cells (grownCap w (rows'.length + xs.length) rows'.length e - (rows'.length + xs.length))) (rs := rows' ++ xs) (e := info.size)
            (c := grownCap w (rows'.length + xs.length) rows'.length e) e (hcells rows'.length A hA2) (by rw [hrl]; exact hge _) (RowsOk_append hA2 hx4)
           refine ⟨_, _, E', hrun, h5, (Evo.drew E w).trans h6, ?_⟩
           simp only [appOut]
           rw [hrl] at h7 ⊢
           exact h7
          ·rename_i b v l
           split at hlive
           ·rename_i v' eb rs' hm
            split at hlive
            ·rename_i hc2
             obtain ⟨rfl, rfl, hc3⟩ := hc2
             simp only [Option.some.injEq,Prod.mk.injEq] at hlive
             obtain ⟨rfl, rfl⟩ := hlive
             have hro : rowsOf st.mem info.size (.ms b v' 0 l) = some rs' := by
              simp [rowsOf, hm, hc3]
              rw [← hc3]; simp
             obtain ⟨sa, sc, rfl, hsc, A, hA1, hA2⟩ := rowsOf_sound (P := P) hdr hsr hro
             simp only [appOut]
             by_cases hroom : rs'.length + xs.length ≤ sc
             ·-- there is room
              rcases ms_inv hsr with ⟨hl0, hsn⟩ | ⟨g, eb', c, sa', sc', hsn, hb, hl, h00, hcc⟩
              ·simp only [Value.slice.injEq] at hsn
               obtain ⟨rfl, hrl0, rfl⟩ := hsn
               have hx0 : xs = [] := List.length_eq_zero_iff.1 (by omega)
               have hr0 : rs' = [] := List.length_eq_zero_iff.1 (by omega)
               subst hx0; subst hr0
               exact ⟨_, w, E, run_append_nilnil (ty := ty) hd hdu hi1 xc xa xA hx1, hs.renewNil hm, Evo.refl E w, .msnil _ _ _ _⟩
              ·simp only [Value.slice.injEq] at hsn
               obtain ⟨rfl, -, rfl⟩ := hsn
               obtain ⟨rfl, hce⟩ := h00 rfl
               have hce' := hce.symm
               subst hce'
               rcases hs.mem b _ hm with ⟨-, hn⟩ | ⟨g', T', cur, c', hb', hh, hcs, hcl, hrr, hf⟩
               ·rw [hb] at hn; cases hn
               rw [hb] at hb'; cases hb'
               have hfitc : rs'.length * info.size + xA.toList.length ≤ cur.size := by
                have := hx2.1
                simp only [Array.length_toList]
                rw [this, hcs, ← Nat.add_mul]; exact Nat.mul_le_mul_right _ hroom
               obtain ⟨w', hst, hh', hob⟩ := run_storeCells_own (P := P) (g := g) (T := T') (rs'.length * info.size) xA.toList 0 w cur hh (by simpa using hfitc) (one_of_rows hpos hx2)
               have hrun := run_append_fit (ty := ty) hd hdu hi1 g rs'.length c xs.length xc xa xA hx1 hroom hst
               have hle : E.le (E.with b (v' + 1) (g, info.size, c)) := Env.le_with (hs.ver b _ hm _ (Nat.lt_succ_self v')) _
               have hkey : (E.with b (v' + 1) (g, info.size, c)).blk b (v' + 1) = some (g, info.size, c) := if_pos ⟨rfl, rfl⟩
               refine ⟨_, w', E.with b (v' + 1) (g, info.size, c), hrun, hs.renew hm (fun ad y hy => ?_) (by rw [hob.size]; exact Nat.le_refl _) (by rw [hob.size]; exact hs.lt _ _ _ _ _ hb) (fun k B' hkb hk' hh2 g' e' c' hbk => ?_) ?_ (fun k v2 e2 c2 h => hs.apart _ _ _ _ _ _ _ _ _ h hb),
                ⟨hle, fun k q g' e' c' hkb => ?_, fun ad y hy => .inl hy, hob.os, hob.tape, hob.output, by rw [hob.size]; exact Nat.le_refl _, fun b' hb' hne => hob.heap b' fun e => by subst e; exact hne _ _ _ _ hb⟩, ?_⟩
               ·have hne := hs.F_block hf hy
                rw [← hs.F ad y hy]; simp [World.cell?, hob.heap _ hne]
               ·have hgg : g' ≠ g := fun e => by
                 subst e
                 exact hkb (hs.apart _ _ _ _ _ _ _ _ _ hbk hb)
                exact ⟨hob.heap _ hgg, hgg⟩
               ·refine .inr ⟨g, T', _, c, hkey, hh', by rw [spliceA_size]; exact hcs, by rw [hrl]; exact hroom, ?_, hf⟩
                intro q row hq
                simp only [Nat.add_zero]
                have hxl : xA.toList.length = xs.length * info.size := by simpa using hx2.1
                rw [List.getElem?_append] at hq
                split at hq
                ·rename_i hlt
                 obtain ⟨h3, h4⟩ := hrr q row hq
                 refine ⟨h3, fun j cc hj => ?_⟩
                 obtain ⟨v, hv, hv1, hvr⟩ := h4 j cc hj
                 have hjl : j < info.size := by rw [← h3]; exact (List.getElem?_eq_some_iff.1 hj).1
                 refine ⟨v, ?_, hv1, hvr⟩
                 rw [spliceA_get _ _ _ _ hfitc, if_neg (by have := idx_lt hlt hjl; omega)]
                 exact hv
                ·rename_i hgeq
                 obtain ⟨h3, h4⟩ := hx2.2 _ row hq
                 refine ⟨h3, fun j cc hj => ?_⟩
                 obtain ⟨v, hv, hv1, hvr⟩ := h4 j cc hj
                 have hjl : j < info.size := by rw [← h3]; exact (List.getElem?_eq_some_iff.1 hj).1
                 have hql : q - rs'.length < xs.length := (List.getElem?_eq_some_iff.1 hq).1
                 have hmul : q * info.size = rs'.length * info.size + (q - rs'.length) * info.size := by rw [← Nat.add_mul]; congr 1; omega
                 refine ⟨v, ?_, hv1, hvr⟩
                 rw [spliceA_get _ _ _ _ hfitc, if_pos (by have := idx_lt hql hjl; omega)]
                 dsimp only at hv
                 rw [← hv, Array.getElem?_toList]
                 congr 1; omega
               ·by_cases hq : k = b ∧ q = v' + 1
                ·obtain ⟨rfl, rfl⟩ := hq; rw [hkey] at hkb; cases hkb; exact .inl ⟨_, _, _, _, hb⟩
                ·have : (E.with b (v' + 1) (g, info.size, c)).blk k q = E.blk k q := if_neg hq
                 rw [this] at hkb; exact .inl ⟨_, _, _, _, hkb⟩
               ·rw [hrl]
                exact .ms _ _ _ _ _ g info.size c _ _ hkey (fun _ => by simp) (fun _ => ⟨rfl, rfl⟩) ⟨hroom, Nat.zero_add _, fun _ => by simp⟩
             ·-- a new block
              have hlt : sc < rs'.length + xs.length := by omega
              have hrun := run_append_new (ty := ty) hd hdu hi1 hz0 sa rs'.length sc xs.length xc xa A xB hA1 hx3 hlt (by omega) (hfit sc hlt)
              have hle : E.le (E.with b (v' + 1) (w.heap.size, info.size, grownCap w (rs'.length + xs.length) sc e)) := Env.le_with (hs.ver b _ hm _ (Nat.lt_succ_self v')) _
              have hkey : (E.with b (v' + 1) (w.heap.size, info.size, grownCap w (rs'.length + xs.length) sc e)).blk b (v' + 1) = some (w.heap.size, info.size, grownCap w (rs'.length + xs.length) sc e) := if_pos ⟨rfl, rfl⟩
              refine ⟨_, _, E.with b (v' + 1) (w.heap.size, info.size, grownCap w (rs'.length + xs.length) sc e), hrun, hs.renew hm (fun ad y hy => ?_) (by simp) (by simp) (fun k B' hkb hk' hh2 g' e' c' hbk => ?_) ?_ (fun k v2 e2 c2 h => absurd (hs.lt _ _ _ _ _ h) (Nat.lt_irrefl _)),
               ⟨hle, fun k q g' e' c' hkb => ?_, fun ad y hy => .inl hy, rfl, rfl, rfl, by simp, fun b' hb' hne => Go.RowKit.Below.heap_alloc w.drew _ b' hb'⟩, ?_⟩
              ·rw [World.cell?_alloc_lt w.drew _ ad (World.block_lt_of_cell? w ad (hs.F ad y hy))]; exact hs.F ad y hy
              ·have := hs.lt _ _ _ _ _ hbk
               exact ⟨Go.RowKit.Below.heap_alloc w.drew _ g' this, by omega⟩
              ·refine .inr ⟨w.heap.size, e, _, _, hkey, heap_alloc_new w.drew _, hcells sc A hA2, by rw [hrl]; exact hge sc, ?_, fun o => ?_⟩
               ·intro q row hq
                obtain ⟨h3, h4⟩ := RowsOk_append (C := Builtin.zeroCells z0.cells (grownCap w (rs'.length + xs.length) sc e - (rs'.length + xs.length))) hA2 hx4 q row hq
                exact ⟨h3, fun j cc hj => let ⟨v, hv, hv1, hvr⟩ := h4 j cc hj; ⟨v, hv, hv1, hvr.mono (Env.le_pure hle)⟩⟩
               ·show E.F _ = none
                cases hx : E.F ⟨w.heap.size, o, none⟩ with
                | none => rfl
                | some x => have := World.block_lt_of_cell? w _ (hs.F _ _ hx); simp at this
              ·by_cases hq : k = b ∧ q = v' + 1
               ·obtain ⟨rfl, rfl⟩ := hq; rw [hkey] at hkb; cases hkb; exact .inr (Nat.le_refl _)
               ·have : (E.with b (v' + 1) (w.heap.size, info.size, grownCap w (rs'.length + xs.length) sc e)).blk k q = E.blk k q := if_neg hq
                rw [this] at hkb; exact .inl ⟨_, _, _, _, hkb⟩
              ·rw [hrl]
               exact .ms _ _ _ _ _ w.heap.size info.size _ _ _ hkey (fun _ => by simp) (fun _ => ⟨rfl, rfl⟩) ⟨hge sc, Nat.zero_add _, fun _ => by simp⟩
            ·simp at hlive
           ·simp at hlive
          ·simp at hlive
         ·simp at h
        ·simp at h
       ·simp at h
      ·simp at h
     ·simp at h
    ·simp at h
   ·simp at h
  ·simp at h
 ·simp at h
end Go.Eng
end

section
namespace Go.Eng
variable [Glob]

theorem RepM.set {E : Env} {kvs : List (Value × Nat × V)} {es : List MapEntry} (h : RepM E kvs es) (i : Nat) {kb : Value × Nat × V} {e : MapEntry} (h1 : e.key = kb.1) (h2 : e.born = kb.2.1) (h3 : Rep E kb.2.2 e.val) : RepM E (kvs.set i kb) (es.set i e) := by
  refine ⟨by simp [h.1], fun j k e' hk he => ?_⟩
  by_cases hij : i = j
  · subst hij
    rw [List.getElem?_set] at hk he
    simp only [if_true] at hk he
    split at hk
    · split at he
      · cases hk; cases he; exact ⟨h1, h2, h3⟩
      · cases he
    · cases hk
  · rw [List.getElem?_set_ne hij] at hk he; exact h.2 j k e' hk he
theorem RepM.push {E : Env} {kvs : List (Value × Nat × V)} {es : List MapEntry} (h : RepM E kvs es) {kb : Value × Nat × V} {e : MapEntry} (h1 : e.key = kb.1) (h2 : e.born = kb.2.1) (h3 : Rep E kb.2.2 e.val) : RepM E (kvs ++ [kb]) (es ++ [e]) := by
  refine ⟨by simp [h.1], fun j k e' hk he => ?_⟩
  by_cases hj : j < kvs.length
  · rw [List.getElem?_append_left hj] at hk; rw [List.getElem?_append_left (by have := h.1; omega)] at he; exact h.2 j k e' hk he
  · rw [List.getElem?_append_right (by omega)] at hk; rw [List.getElem?_append_right (by have := h.1; omega)] at he
    rw [h.1] at hk
    cases hd : j - es.length with
    | zero => rw [hd] at hk he; simp at hk he; subst hk; subst he; exact ⟨h1, h2, h3⟩
    | succ n => rw [hd] at hk; simp at hk
theorem RepM.erase {E : Env} : ∀ {kvs : List (Value × Nat × V)} {es : List MapEntry}, RepM E kvs es → ∀ (i : Nat), RepM E (kvs.eraseIdx i) (es.eraseIdx i)
  | [], es, h, i => by rw [h.of_nil]; exact ⟨rfl, fun j k e hk => by simp at hk⟩
  | k :: r, es, h, i => by
    obtain ⟨e, es', rfl, h1, h2, h3, h4⟩ := h.of_cons
    cases i with
    | zero => exact h4
    | succ i =>
      have h5 := RepM.erase h4 i
      simp only [List.eraseIdx_cons_succ]
      refine ⟨by simp [h5.1], fun j k' e' hk he => ?_⟩
      cases j with
      | zero => simp at hk he; subst hk; subst he; exact ⟨h1, h2, h3⟩
      | succ j => exact h5.2 j k' e' (by simpa using hk) (by simpa using he)

def insertAt (P : Program) (kt : TypeId) (key : Value) (v : V) (kvs : List (Value × Nat × V)) (clock : Nat) : Option (List (Value × Nat × V) × Nat) :=
  match findV P kt key kvs with
  | some (some (i, _)) => match kvs[i]? with
    | some e => if Instr.sameBits 10000 e.1 key = true then some (kvs.set i (key, e.2.1, v), clock) else none
    | none => none
  | some none => some (kvs ++ [(key, clock, v)], clock + 1)
  | none => none
def insertV (P : Program) (mem : List Blk) (T : TypeId) (m k v : V) : Option (List Blk) :=
  match mapDesc P T with
  | some (kt, _) => match toVal k with
    | some key => if keyOk P kt key = true then
        match m with
        | .mp b => match mem[b]? with
          | some (.map kvs clock) => match insertAt P kt key v kvs clock with
            | some (kvs', clock') => some (mem.set b (.map kvs' clock'))
            | none => none
          | _ => none
        | _ => none
      else none
    | none => none
  | none => none
def entryAt (P : Program) (kt et : TypeId) (key : Value) (kvs : List (Value × Nat × V)) (clock : Nat) : Option (List (Value × Nat × V) × Nat × V) :=
  match findV P kt key kvs with
  | some (some (i, v)) => match kvs[i]? with
    | some e => if Instr.sameBits 10000 e.1 key = true then some (kvs.set i (key, e.2.1, e.2.2), clock, .tup [v, .sc (.int .i64 e.2.1)]) else none
    | none => none
  | some none => match zeroV P et with
    | some z => some (kvs ++ [(key, clock, z)], clock + 1, .tup [z, .sc (.int .i64 clock)])
    | none => none
  | none => none
def entryV (P : Program) (mem : List Blk) (T : TypeId) (m k : V) : Option (List Blk × V) :=
  match mapDesc P T with
  | some (kt, et) => match toVal k with
    | some key => if keyOk P kt key = true then
        match m with
        | .mp b => match mem[b]? with
          | some (.map kvs clock) => match entryAt P kt et key kvs clock with
            | some (kvs', clock', v) => some (mem.set b (.map kvs' clock'), v)
            | none => none
          | _ => none
        | _ => none
      else none
    | none => none
  | none => none
def stampV (mem : List Blk) (m s v : V) : Option (List Blk) :=
  match m, s with
  | .mp b, .sc (.int _ n) => match mem[b]? with
    | some (.map kvs clock) => match kvs.findIdx? (fun e => (e.2.1 : Int) == n) with
      | some i => match kvs[i]? with
        | some e => some (mem.set b (.map (kvs.set i (e.1, e.2.1, v)) clock))
        | none => none
      | none => none
    | _ => none
  | _, _ => none
def deleteV (P : Program) (mem : List Blk) (ts : Array TypeId) : List V → Option (List Blk)
  | [.mp b, k] => match ts[0]? with
    | some T => match mapDesc P T with
      | some (kt, _) => match toVal k with
        | some key => if keyOk P kt key = true then
            match mem[b]? with
            | some (.map kvs clock) => match findV P kt key kvs with
              | some (some (i, _)) => some (mem.set b (.map (kvs.eraseIdx i) clock))
              | some none => some (mem.set b (.map kvs clock))
              | none => none
            | _ => none
          else none
        | none => none
      | none => none
    | none => none
  | _ => none

theorem onlyBlk_set {w : World} {g : Nat} {o : Obj} : OnlyBlk w { w with heap := w.heap.setIfInBounds g o } g :=
  ⟨rfl, rfl, rfl, by simp, fun b hb => Array.getElem?_setIfInBounds_ne (fun e => hb e.symm)⟩
theorem heap_set {w : World} {g : Nat} {o o' : Obj} (h : w.heap[g]? = some o) : ({ w with heap := w.heap.setIfInBounds g o' } : World).heap[g]? = some o' := by
  have : g < w.heap.size := by
    rcases Nat.lt_or_ge g w.heap.size with h1 | h1
    · exact h1
    · rw [Array.getElem?_eq_none h1] at h; cases h
  simp [this]
theorem Sim.turnMap {E : Env} {w : World} {a : Act} {st : St} (hs : Sim E w a st) {b g e c : Nat} {kvs kvs' : List (Value × Nat × V)} {clock clock' : Nat} {es es' : Array MapEntry} (hm : st.mem[b]? = some (.map kvs clock)) (hb : E.blk b 0 = some (g, e, c)) (hh : w.heap[g]? = some (.map es clock))
    (hf : ∀ o, E.F ⟨g, o, none⟩ = none) (hr : RepM E kvs' es'.toList) :
    Sim E { w with heap := w.heap.setIfInBounds g (.map es' clock') } a { st with mem := st.mem.set b (.map kvs' clock') } ∧ Evo E w E { w with heap := w.heap.setIfInBounds g (.map es' clock') } := by
  obtain ⟨-, -, -, -, h0⟩ := map_blk hs hm hb
  cases h0
  exact hs.turn hm rfl (B' := .map kvs' clock') rfl hb hf onlyBlk_set ⟨g, es', hb, heap_set hh, hr, hf⟩

theorem modify_set {es : Array MapEntry} {i : Nat} {e : MapEntry} (h : es[i]? = some e) (f : MapEntry → MapEntry) : (es.modify i f).toList = es.toList.set i (f e) := by
  apply List.ext_getElem?
  intro j
  rw [Array.getElem?_toList, Array.getElem?_modify, List.getElem?_set]
  by_cases hij : i = j
  · subst hij
    have : i < es.size := (Array.getElem?_eq_some_iff.1 h).1
    have he : es[i] = e := (Array.getElem?_eq_some_iff.1 h).2
    simp [this, he]
  · simp [hij]
theorem keep_same {P : Program} {w : World} {old new : Value} (h : Instr.sameBits 10000 old new = true) : (Instr.keyThatStays old new).run P w = .ok new w := by simp [Instr.keyThatStays, h]

theorem insertV_sound {P : Program} {E : Env} {w : World} {a : Act} {st : St} (hs : Sim E w a st) {T : TypeId} {m k v : V} {x y z : Value} {mem' : List Blk} (hm : Rep E m x) (hk : Rep E k y) (hv : Rep E v z) (h : insertV P st.mem T m k v = some mem') :
    ∃ w', (Instr.mapUpdate T x y z).run P w = .ok () w' ∧ Sim E w' a { st with mem := mem' } ∧ Evo E w E w' := by
  unfold insertV at h
  split at h
  · rename_i kt et hd
    have hd := mapDesc_eq hd
    split at h
    · rename_i key hkey
      cases toVal_rep hk hkey
      split at h
      · rename_i hok
        have hck := fun b => keyOk_sound hok b w
        split at h
        · rename_i b
          obtain ⟨g, e, c, rfl, hb⟩ := mp_inv hm
          split at h
          · rename_i kvs clock hB
            obtain ⟨es, hh, hr, hf, -⟩ := map_blk hs hB hb
            split at h
            · rename_i kvs' clock' hi
              cases h
              unfold insertAt at hi
              split at hi
              · rename_i i u hfi
                obtain ⟨r', h1, h2⟩ := findV_sound hr w hfi
                match r', h2 with
                | some (j', z'), h2 =>
                  obtain ⟨rfl, h3, kb, en, h4, h5, h6, h7⟩ := h2
                  have h5' : es[i]? = some en := by simpa using h5
                  split at hi
                  · rename_i kb' hkb
                    rw [hkb] at h4; cases h4
                    split at hi
                    · rename_i hsame
                      cases hi
                      obtain ⟨p1, p2, p3⟩ := hr.2 i _ _ hkb h5
                      have hrun : (Instr.mapUpdate T (.map (some g)) y z).run P w = .ok () { w with heap := w.heap.setIfInBounds g (.map (es.modify i fun e => { e with key := y, val := z }) clock) } := by
                        have := run_setObj (P := P) (o' := .map (es.modify i fun e => { e with key := y, val := z }) clock) hh (by simp)
                        simp [Instr.mapUpdate, run_underlyingP hd, run_getMap hh, hck, h1, h5', p1, keep_same hsame, this]
                      obtain ⟨q1, q2⟩ := hs.turnMap hB hb hh hf (clock' := clock) (kvs' := kvs.set i (y, kb.2.1, v)) (es' := es.modify i fun e => { e with key := y, val := z }) (by rw [modify_set h5']; exact hr.set i rfl p2 hv)
                      exact ⟨_, hrun, q1, q2⟩
                    · cases hi
                  · cases hi
              · rename_i hfi
                obtain ⟨r', h1, h2⟩ := findV_sound hr w hfi
                match r', h2 with
                | none, h2 =>
                  cases hi
                  have hrun : (Instr.mapUpdate T (.map (some g)) y z).run P w = .ok () { w with heap := w.heap.setIfInBounds g (.map (es.push { key := y, val := z, born := clock }) (clock + 1)) } := by
                    have := run_setObj (P := P) (o' := .map (es.push { key := y, val := z, born := clock }) (clock + 1)) hh (by simp)
                    simp [Instr.mapUpdate, run_underlyingP hd, run_getMap hh, hck, h1, this]
                  obtain ⟨q1, q2⟩ := hs.turnMap hB hb hh hf (clock' := clock + 1) (kvs' := kvs ++ [(y, clock, v)]) (es' := es.push { key := y, val := z, born := clock }) (by rw [Array.toList_push]; exact hr.push rfl rfl hv)
                  exact ⟨_, hrun, q1, q2⟩
              · cases hi
            · cases h
          · cases h
        · cases h
      · cases h
    · cases h
  · cases h

theorem pair_rep {E : Env} {v : V} {x : Value} (h : Rep E v x) (n : Nat) : Rep E (.tup [v, .sc (.int .i64 n)]) (.tuple #[x, goInt n]) := by
  refine .tup _ _ _ rfl fun i c y hc hy => ?_
  match i with
  | 0 => simp at hc hy; subst hc; subst hy; exact h
  | 1 => simp at hc hy; subst hc; subst hy; exact .sc _ _
  | i + 2 => simp at hc
theorem entryV_sound {P : Program} {E : Env} {w : World} {a : Act} {st : St} (hs : Sim E w a st) {T : TypeId} {m k v : V} {x y : Value} {mem' : List Blk} (hm : Rep E m x) (hk : Rep E k y) (h : entryV P st.mem T m k = some (mem', v)) :
    ∃ z w', (Instr.mapEntry T x y).run P w = .ok z w' ∧ Sim E w' a { st with mem := mem' } ∧ Evo E w E w' ∧ Rep E v z := by
  unfold entryV at h
  split at h
  · rename_i kt et hd
    have hd := mapDesc_eq hd
    split at h
    · rename_i key hkey
      cases toVal_rep hk hkey
      split at h
      · rename_i hok
        have hck := fun b => keyOk_sound hok b w
        split at h
        · rename_i b
          obtain ⟨g, e, c, rfl, hb⟩ := mp_inv hm
          split at h
          · rename_i kvs clock hB
            obtain ⟨es, hh, hr, hf, -⟩ := map_blk hs hB hb
            split at h
            · rename_i kvs' clock' v' hi
              cases h
              unfold entryAt at hi
              split at hi
              · rename_i i u hfi
                obtain ⟨r', h1, h2⟩ := findV_sound hr w hfi
                match r', h2 with
                | some (j', z'), h2 =>
                  obtain ⟨rfl, h3, kb, en, h4, h5, h6, h7⟩ := h2
                  have h5' : es[i]? = some en := by simpa using h5
                  split at hi
                  · rename_i kb' hkb
                    rw [hkb] at h4; cases h4
                    split at hi
                    · rename_i hsame
                      cases hi
                      obtain ⟨p1, p2, p3⟩ := hr.2 i _ _ hkb h5
                      have hrun : (Instr.mapEntry T (.map (some g)) y).run P w = .ok (.tuple #[z', goInt en.born]) { w with heap := w.heap.setIfInBounds g (.map (es.modify i fun e => { e with key := y }) clock) } := by
                        have := run_setObj (P := P) (o' := .map (es.modify i fun e => { e with key := y }) clock) hh (by simp)
                        simp [Instr.mapEntry, run_underlyingP hd, run_getMap hh, hck, h1, h5', p1, keep_same hsame, this]
                      obtain ⟨q1, q2⟩ := hs.turnMap hB hb hh hf (clock' := clock) (kvs' := kvs.set i (y, kb.2.1, kb.2.2)) (es' := es.modify i fun e => { e with key := y }) (by rw [modify_set h5']; exact hr.set i rfl p2 p3)
                      exact ⟨_, _, hrun, q1, q2, by rw [p2]; exact pair_rep h3 _⟩
                    · cases hi
                  · cases hi
              · rename_i hfi
                obtain ⟨r', h1, h2⟩ := findV_sound hr w hfi
                match r', h2 with
                | none, h2 =>
                  split at hi
                  · rename_i z0 hz0
                    cases hi
                    obtain ⟨zz, h3, h4⟩ := zeroV_sound hz0 E w
                    have hrun : (Instr.mapEntry T (.map (some g)) y).run P w = .ok (.tuple #[zz, goInt clock]) { w with heap := w.heap.setIfInBounds g (.map (es.push { key := y, val := zz, born := clock }) (clock + 1)) } := by
                      have := run_setObj (P := P) (o' := .map (es.push { key := y, val := zz, born := clock }) (clock + 1)) hh (by simp)
                      simp [Instr.mapEntry, run_underlyingP hd, run_getMap hh, hck, h1, h3, this]
                    obtain ⟨q1, q2⟩ := hs.turnMap hB hb hh hf (clock' := clock + 1) (kvs' := kvs ++ [(y, clock, z0)]) (es' := es.push { key := y, val := zz, born := clock }) (by rw [Array.toList_push]; exact hr.push rfl rfl h4)
                    exact ⟨_, _, hrun, q1, q2, pair_rep h4 _⟩
                  · cases hi
              · cases hi
            · cases h
          · cases h
        · cases h
      · cases h
    · cases h
  · cases h

theorem findIdx_rep {E : Env} (n : Int) : ∀ {kvs : List (Value × Nat × V)} {es : List MapEntry}, RepM E kvs es → kvs.findIdx? (fun e => (e.2.1 : Int) == n) = es.findIdx? (fun e => (e.born : Int) == n)
  | [], es, h => by rw [h.of_nil]; rfl
  | k :: r, es, h => by
    obtain ⟨e, es', rfl, h1, h2, h3, h4⟩ := h.of_cons
    rw [List.findIdx?_cons, List.findIdx?_cons, h2, findIdx_rep n h4]
theorem stampV_sound {P : Program} {E : Env} {w : World} {a : Act} {st : St} (hs : Sim E w a st) {T : TypeId} {m s v : V} {x y z : Value} {mem' : List Blk} (hm : Rep E m x) (hk : Rep E s y) (hv : Rep E v z) (h : stampV st.mem m s v = some mem') :
    ∃ w', (Instr.entryStore T x y z).run P w = .ok () w' ∧ Sim E w' a { st with mem := mem' } ∧ Evo E w E w' := by
  unfold stampV at h
  split at h
  · rename_i b k n
    obtain ⟨g, e, c, rfl, hb⟩ := mp_inv hm
    obtain rfl := rep_sc' hk
    split at h
    · rename_i kvs clock hB
      obtain ⟨es, hh, hr, hf, -⟩ := map_blk hs hB hb
      split at h
      · rename_i i hi
        split at h
        · rename_i kb hkb
          cases h
          obtain ⟨en, h5, p1, p2, p3⟩ := hr.get hkb
          have h5' : es[i]? = some en := by simpa using h5
          have hidx : es.findIdx? (fun e => (e.born : Int) == n) = some i := by
            rw [findIdx_rep n hr, ← List.findIdx?_toArray, Array.toArray_toList] at hi; exact hi
          have hrun : (Instr.entryStore T (.map (some g)) (.int k n) z).run P w = .ok () { w with heap := w.heap.setIfInBounds g (.map (es.modify i fun e => { e with val := z }) clock) } := by
            have := run_setObj (P := P) (o' := .map (es.modify i fun e => { e with val := z }) clock) hh (by simp)
            simp [Instr.entryStore, run_getMap hh, asInt, asIntOf, hidx, this]
          obtain ⟨q1, q2⟩ := hs.turnMap hB hb hh hf (clock' := clock) (kvs' := kvs.set i (kb.1, kb.2.1, v)) (es' := es.modify i fun e => { e with val := z }) (by rw [modify_set h5']; exact hr.set i p1 p2 hv)
          exact ⟨_, hrun, q1, q2⟩
        · cases h
      · cases h
    · cases h
  · cases h

theorem deleteV_sound {P : Program} {E : Env} {w : World} {a : Act} {st : St} (hs : Sim E w a st) {ts : Array TypeId} {ty : TypeId} {xs : List V} {ys : Array Value} {mem' : List Blk} (hx : RepL E xs ys.toList) (h : deleteV P st.mem ts xs = some mem') :
    ∃ w', (Builtin.delete_ ts ty ys).run P w = .ok (.tuple #[]) w' ∧ Sim E w' a { st with mem := mem' } ∧ Evo E w E w' := by
  unfold deleteV at h
  split at h
  · rename_i b k
    obtain ⟨x, r, hy, hr1, hx⟩ := hx.of_cons
    obtain ⟨y, r2, hz, hr2, hx⟩ := hx.of_cons
    have := hx.of_nil
    subst this; subst hz
    obtain rfl : ys = #[x, y] := by rw [← Array.toArray_toList (xs := ys), hy]
    obtain ⟨g, e, c, rfl, hb⟩ := mp_inv hr1
    split at h
    · rename_i T h0
      split at h
      · rename_i kt et hd
        have hd := mapDesc_eq hd
        split at h
        · rename_i key hkey
          cases toVal_rep hr2 hkey
          split at h
          · rename_i hok
            have hck := fun b => keyOk_sound hok b w
            split at h
            · rename_i kvs clock hB
              obtain ⟨es, hh, hr, hf, -⟩ := map_blk hs hB hb
              split at h
              · rename_i i u hfi
                cases h
                obtain ⟨r', h1, h2⟩ := findV_sound hr w hfi
                match r', h2 with
                | some (j', z'), h2 =>
                  obtain ⟨rfl, h3, kb, en, h4, h5, h6, h7⟩ := h2
                  have hrun : (Builtin.delete_ ts ty #[.map (some g), y]).run P w = .ok (.tuple #[]) { w with heap := w.heap.setIfInBounds g (.map (es.eraseIdxIfInBounds i) clock) } := by
                    have := run_setObj (P := P) (o' := .map (es.eraseIdxIfInBounds i) clock) hh (by simp)
                    simp [Builtin.delete_, h0, run_underlyingP hd, run_getMap hh, hck, h1, this]
                  obtain ⟨q1, q2⟩ := hs.turnMap hB hb hh hf (clock' := clock) (kvs' := kvs.eraseIdx i) (es' := es.eraseIdxIfInBounds i) (by rw [Array.toList_eraseIdxIfInBounds]; exact hr.erase i)
                  exact ⟨_, hrun, q1, q2⟩
              · rename_i hfi
                cases h
                obtain ⟨r', h1, h2⟩ := findV_sound hr w hfi
                match r', h2 with
                | none, h2 =>
                  have hrun : (Builtin.delete_ ts ty #[.map (some g), y]).run P w = .ok (.tuple #[]) { w with heap := w.heap.setIfInBounds g (.map es clock) } := by
                    have := run_setObj (P := P) (o' := .map es clock) hh (by simp)
                    simp [Builtin.delete_, h0, run_underlyingP hd, run_getMap hh, hck, h1, this]
                  obtain ⟨q1, q2⟩ := hs.turnMap hB hb hh hf (clock' := clock) (kvs' := kvs) (es' := es) hr
                  exact ⟨_, hrun, q1, q2⟩
              · cases h
            · cases h
          · cases h
        · cases h
      · cases h
    · cases h
  · cases h

/-! ### ranging -/

def leftOf (kvs : List (Value × Nat × V)) (seen : List Nat) : List (Value × Nat × V) := kvs.filter fun e => !seen.contains e.2.1
def oldOf (kvs : List (Value × Nat × V)) (seen : List Nat) (since : Nat) : List (Value × Nat × V) := (leftOf kvs seen).filter fun e => e.2.1 < since
def newOf (kvs : List (Value × Nat × V)) (seen : List Nat) (since : Nat) : List (Value × Nat × V) := (leftOf kvs seen).filter fun e => e.2.1 ≥ since
def stuckAt (kvs : List (Value × Nat × V)) (seen : List Nat) (last : Nat) : Bool := !seen.isEmpty && !kvs.isEmpty && kvs.all fun e => e.2.1 ≥ last
def overV : V := .tup [.sc (.bool false)]
def nextE (e : Value × Nat × V) : V := .tup [.sc (.bool true), absV e.1, e.2.2]
def runeE (s : ByteArray) (pos : Nat) : V := .tup [.sc (.bool true), .sc (.int .i64 pos), .sc (.int .i32 (Utf8.decode s pos).1)]
def nextQ (st : St) (dst : Option Tmp) (it : V) (str : Bool) (Q : St → Prop) : Prop :=
  match it with
  | .ptr b 0 => match st.mem[b]? with
    | some (.miter m since seen last) => match st.mem[m]? with
      | some (.map kvs clock) => str = false ∧ stuckAt kvs seen last = false ∧ (oldOf kvs seen since = [] → Q (st.put dst overV)) ∧
          ∀ e ∈ oldOf kvs seen since ++ newOf kvs seen since, Q ({ st with mem := st.mem.set b (.miter m since (seen ++ [e.2.1]) clock) }.put dst (nextE e))
      | _ => False
    | some (.siter s pos) => str = true ∧ if pos < s.size then Q ({ st with mem := st.mem.set b (.siter s (pos + (Utf8.decode s pos).2)) }.put dst (runeE s pos)) else Q (st.put dst overV)
    | some .niter => str = false ∧ Q (st.put dst overV)
    | _ => False
  | _ => False

theorem RepM.filter {E : Env} (p : Nat → Bool) : ∀ {kvs : List (Value × Nat × V)} {es : List MapEntry}, RepM E kvs es → RepM E (kvs.filter fun e => p e.2.1) (es.filter fun e => p e.born)
  | [], es, h => by rw [h.of_nil]; exact ⟨rfl, fun j k e hk => by simp at hk⟩
  | k :: r, es, h => by
    obtain ⟨e, es', rfl, h1, h2, h3, h4⟩ := h.of_cons
    have h5 := RepM.filter p h4
    simp only [List.filter_cons,h2]
    split
    · refine ⟨by simp [h5.1], fun j k' e' hk he => ?_⟩
      cases j with
      | zero => simp at hk he; subst hk; subst he; exact ⟨h1, h2, h3⟩
      | succ j => exact h5.2 j k' e' (by simpa using hk) (by simpa using he)
    · exact h5
theorem RepM.all {E : Env} (p : Nat → Bool) : ∀ {kvs : List (Value × Nat × V)} {es : List MapEntry}, RepM E kvs es → (kvs.all fun e => p e.2.1) = es.all fun e => p e.born
  | [], es, h => by rw [h.of_nil]; rfl
  | k :: r, es, h => by
    obtain ⟨e, es', rfl, h1, h2, h3, h4⟩ := h.of_cons
    simp only [List.all_cons,h2,RepM.all p h4]
theorem RepM.append {E : Env} {a b : List (Value × Nat × V)} {x y : List MapEntry} (h : RepM E a x) (k : RepM E b y) : RepM E (a ++ b) (x ++ y) := by
  refine ⟨by simp [h.1, k.1], fun j kk e hk he => ?_⟩
  by_cases hj : j < a.length
  · rw [List.getElem?_append_left hj] at hk; rw [List.getElem?_append_left (by have := h.1; omega)] at he; exact h.2 j kk e hk he
  · rw [List.getElem?_append_right (by omega)] at hk; rw [List.getElem?_append_right (by have := h.1; omega)] at he
    rw [h.1] at hk
    exact k.2 _ kk e hk he
theorem nextE_rep {E : Env} {k : Value × Nat × V} {e : MapEntry} (h1 : e.key = k.1) (h3 : Rep E k.2.2 e.val) : Rep E (nextE k) (.tuple #[.bool true, e.key, e.val]) := by
  refine .tup _ _ _ rfl fun i c y hc hy => ?_
  match i with
  | 0 => simp at hc hy; subst hc; subst hy; exact .sc _ _
  | 1 => simp at hc hy; subst hc; subst hy; rw [h1]; exact absV_rep E _
  | 2 => simp at hc hy; subst hc; subst hy; exact h3
  | i + 3 => simp at hc

theorem run_chooseNext {P : Program} {w : World} {n : Nat} (hn : 0 < n) : ∃ i w', (choose (.mapNext n)).run P w = .ok i w' ∧ i < n ∧ (w' = w ∨ w' = w.drew) := by
  unfold choose
  rw [Sem.run]
  split
  · exact ⟨0, w, rfl, hn, .inl rfl⟩
  · exact ⟨_, _, rfl, Nat.mod_lt _ hn, .inr rfl⟩
theorem Sim.drewOr {E : Env} {w w' : World} {a : Act} {st : St} (hs : Sim E w a st) (h : w' = w ∨ w' = w.drew) : Sim E w' a st ∧ Evo E w E w' ∧ w'.heap = w.heap := by
  rcases h with rfl | rfl
  · exact ⟨hs, Evo.refl _ _, rfl⟩
  · exact ⟨hs.drew, Evo.drew _ _, rfl⟩
theorem nextQ_sound {P : Program} {E : Env} {w : World} {a : Act} {st : St} (hs : Sim E w a st) {dst : Option Tmp} {it : V} {x : Value} {str : Bool} {ty : TypeId} {Q : St → Prop} (hi : Rep E it x) (h : nextQ st dst it str Q) :
    ∃ z w' st', (Instr.next x str ty).run P w = .ok z w' ∧ Sim E w' (a.put dst z) st' ∧ Evo E w E w' ∧ Q st' := by
  unfold nextQ at h
  split at h
  · rename_i b
    split at h
    · rename_i m since seen last hB
      split at h
      · rename_i kvs clock hM
        obtain ⟨rfl, hst, hover, hall⟩ := h
        obtain ⟨g, gm, em, cm, hb, hbm, hh, hf⟩ := hs.mem b _ hB
        obtain ⟨es, hhm, hr, hfm, h0⟩ := map_blk hs hM hbm
        cases h0
        cases hi with
        | ptr _ _ _ g' e' c' hb' =>
        rw [hb] at hb'; cases hb'
        have hget : (getObj g).run P w = .ok (.mapIter (some gm) since seen.toArray last) w := by simp [getObj, Sem.run, hh]
        have hstuck : (!seen.toArray.isEmpty && !es.isEmpty && es.all (fun e => decide (e.born ≥ last))) = false := by
          rw [← hst]
          unfold stuckAt
          have e1 : seen.toArray.isEmpty = seen.isEmpty := by simp
          have e2 : es.isEmpty = kvs.isEmpty := by
            have h1 := hr.1
            rw [Bool.eq_iff_iff, Array.isEmpty_iff_size_eq_zero, List.isEmpty_iff, ← List.length_eq_zero_iff, h1, Array.length_toList]
          rw [e1, e2, ← Array.all_toList, ← RepM.all (fun n => decide (n ≥ last)) hr]
        have hleft : (es.filter fun e => !seen.toArray.contains e.born).toList = es.toList.filter fun e => !seen.contains e.born := by
          rw [Array.toList_filter]; simp
        have hl := RepM.filter (fun n => !seen.contains n) hr
        have ho := RepM.filter (fun n => decide (n < since)) hl
        have hw := RepM.filter (fun n => decide (n ≥ since)) hl
        have hon := ho.append hw
        obtain ⟨L, hL⟩ : ∃ L, L = es.filter fun e => !seen.toArray.contains e.born := ⟨_, rfl⟩
        have hO : (L.filter fun e => decide (e.born < since)).toList = (es.toList.filter fun e => !seen.contains e.born).filter fun e => decide (e.born < since) := by rw [Array.toList_filter, hL, hleft]
        have hN : (L.filter fun e => decide (e.born ≥ since)).toList = (es.toList.filter fun e => !seen.contains e.born).filter fun e => decide (e.born ≥ since) := by rw [Array.toList_filter, hL, hleft]
        rw [← hO] at ho
        rw [← hO, ← hN] at hon
        generalize hOO : L.filter (fun e => decide (e.born < since)) = O at ho hon
        generalize hNN : L.filter (fun e => decide (e.born ≥ since)) = N at hon
        have hemp : O.isEmpty = (oldOf kvs seen since).isEmpty := by
          have h1 := ho.1
          rw [Bool.eq_iff_iff, Array.isEmpty_iff_size_eq_zero, List.isEmpty_iff, ← List.length_eq_zero_iff, ← Array.length_toList, ← h1]; rfl
        have hcpos : 0 < ((if O.isEmpty then #[none] else #[]) ++ (O ++ N).map some : Array (Option MapEntry)).size := by
          by_cases hoe : O.isEmpty = true
          · rw [if_pos hoe]; simp; omega
          · rw [if_neg hoe]
            have : O.size ≠ 0 := fun h => hoe (Array.isEmpty_iff_size_eq_zero.2 h)
            simp; omega
        obtain ⟨i, w1, hc1, hc2, hc3⟩ := run_chooseNext (P := P) (w := w) hcpos
        obtain ⟨s1, v1, hp1⟩ := hs.drewOr hc3
        have hrun : ∀ {R}, (match ((if O.isEmpty then #[none] else #[]) ++ (O ++ N).map some : Array (Option MapEntry))[i]? with
            | some (some e) => do setObj g (.mapIter (some gm) since (seen.toArray.push e.born) clock); pure (Value.tuple #[.bool true, e.key, e.val])
            | some none => (pure (Value.tuple #[.bool false]) : Sem Value)
            | none => stuck "Next: no such candidate").run P w1 = R → (Instr.next (.pointer (some ⟨g, 0, none⟩)) false ty).run P w = R := fun hR => by
          rw [← hR]
          simp only [Instr.next,Sem.run_bind,hget,Result.andThen_ok,run_getMap hhm,hstuck,Bool.false_eq_true,if_false,← hL,hOO,hNN,hc1]
          rfl
        have hci := Array.getElem?_eq_getElem hc2
        by_cases hin : i < (if O.isEmpty then #[none] else #[] : Array (Option MapEntry)).size
        · have hoe : O.isEmpty = true := by
            by_cases hoe : O.isEmpty = true
            · exact hoe
            · rw [if_neg hoe] at hin; simp at hin
          rw [if_pos hoe] at hin
          have hi0 : i = 0 := by simp at hin; omega
          subst hi0
          have hold : oldOf kvs seen since = [] := by rw [hemp] at hoe; exact List.isEmpty_iff.1 hoe
          refine ⟨_, w1, _, hrun (R := Result.ok (Value.tuple #[.bool false]) w1) ?_, s1.put dst (.tup _ _ _ rfl fun i c y hc hy => ?_), v1, hover hold⟩
          · rw [if_pos hoe, Array.getElem?_append_left (by simp)]; rfl
          · match i with
            | 0 => simp at hc hy; subst hc; subst hy; exact .sc _ _
            | i + 1 => simp at hc
        · obtain ⟨j, hj, hje⟩ : ∃ j, j < (O ++ N).size ∧ ((if O.isEmpty then #[none] else #[]) ++ (O ++ N).map some : Array (Option MapEntry))[i]? = some (some ((O ++ N)[j]!)) := by
            refine ⟨i - (if O.isEmpty then #[none] else #[] : Array (Option MapEntry)).size, ?_, ?_⟩
            · have := hc2; simp only [Array.size_append,Array.size_map] at this ⊢; omega
            · rw [Array.getElem?_append_right (by omega), Array.getElem?_map]
              have hlt : i - (if O.isEmpty then #[none] else #[] : Array (Option MapEntry)).size < (O ++ N).size := by have := hc2; simp only [Array.size_append,Array.size_map] at this ⊢; omega
              rw [Array.getElem?_eq_getElem hlt, getElem!_pos (O ++ N) _ hlt]; rfl
          rw [getElem!_pos (O ++ N) _ hj] at hje
          obtain ⟨kb, hkb⟩ : ∃ kb, (oldOf kvs seen since ++ newOf kvs seen since)[j]? = some kb := ⟨_, List.getElem?_eq_getElem (by have h1 := hon.1; simp only [List.length_append,Array.length_toList] at h1; simp only [List.length_append]; simp only [Array.size_append] at hj; exact Nat.lt_of_lt_of_eq hj h1.symm)⟩
          obtain ⟨en, hen, p1, p2, p3⟩ := hon.get hkb
          have hen' : (O ++ N)[j] = en := by
            have : (O ++ N).toList[j]? = some en := by rw [Array.toList_append]; exact hen
            rw [Array.getElem?_toList, Array.getElem?_eq_getElem hj] at this
            simpa using this
          rw [hen'] at hje
          have hh1 : w1.heap[g]? = some (.mapIter (some gm) since seen.toArray last) := by rw [hp1]; exact hh
          have hB' : BlkOk E { w1 with heap := w1.heap.setIfInBounds g (.mapIter (some gm) since (seen.toArray.push en.born) clock) } b (.miter m since (seen ++ [kb.2.1]) clock) := by
            refine ⟨g, gm, 0, 0, hb, hbm, ?_, hf⟩
            rw [heap_set hh1, p2]; simp
          obtain ⟨q1, q2⟩ := s1.turn hB rfl (B' := .miter m since (seen ++ [kb.2.1]) clock) rfl hb hf onlyBlk_set hB'
          refine ⟨.tuple #[.bool true, en.key, en.val], _, _, hrun ?_, q1.put dst (nextE_rep p1 p3), v1.trans q2, hall kb (List.mem_of_getElem? hkb)⟩
          rw [hje]
          have := run_setObj (P := P) (o' := .mapIter (some gm) since (seen.toArray.push en.born) clock) hh1 (by simp)
          dsimp only
          rw [Sem.run_bind, this]; rfl
      · exact h.elim
    · rename_i s pos hB
      obtain ⟨rfl, hcase⟩ := h
      obtain ⟨g, hb, hh, hf⟩ := hs.mem b _ hB
      cases hi with
      | ptr _ _ _ g' e' c' hb' =>
      rw [hb] at hb'; cases hb'
      have hget : (getObj g).run P w = .ok (.stringIter s pos) w := by simp [getObj, Sem.run, hh]
      split at hcase
      · rename_i hlt
        obtain ⟨q1, q2⟩ := hs.turn hB rfl (B' := .siter s (pos + (Utf8.decode s pos).2)) rfl hb hf (onlyBlk_set (o := .stringIter s (pos + (Utf8.decode s pos).2))) ⟨g, hb, heap_set hh, hf⟩
        refine ⟨.tuple #[.bool true, goInt pos, .int .i32 (Utf8.decode s pos).1], _, _, ?_, q1.put dst (.tup _ _ _ rfl fun i c y hc hy => ?_), q2, hcase⟩
        · have := run_setObj (P := P) (o' := .stringIter s (pos + (Utf8.decode s pos).2)) hh (by simp)
          simp [Instr.next, hget, hlt, this]
        · match i with
          | 0 => simp at hc hy; subst hc; subst hy; exact .sc _ _
          | 1 => simp at hc hy; subst hc; subst hy; exact .sc _ _
          | 2 => simp at hc hy; subst hc; subst hy; exact .sc _ _
          | i + 3 => simp at hc
      · rename_i hlt
        refine ⟨.tuple #[.bool false], w, _, by simp [Instr.next, hget, hlt], hs.put dst (.tup _ _ _ rfl fun i c y hc hy => ?_), Evo.refl _ _, hcase⟩
        match i with
        | 0 => simp at hc hy; subst hc; subst hy; exact .sc _ _
        | i + 1 => simp at hc
    · rename_i hB
      obtain ⟨rfl, hcase⟩ := h
      obtain ⟨g, hb, hh, hf⟩ := hs.mem b _ hB
      cases hi with
      | ptr _ _ _ g' e' c' hb' =>
      rw [hb] at hb'; cases hb'
      have hget : (getObj g).run P w = .ok (.mapIter none 0 #[] 0) w := by simp [getObj, Sem.run, hh]
      refine ⟨.tuple #[.bool false], w, _, by simp [Instr.next, hget], hs.put dst (.tup _ _ _ rfl fun i c y hc hy => ?_), Evo.refl _ _, hcase⟩
      match i with
      | 0 => simp at hc hy; subst hc; subst hy; exact .sc _ _
      | i + 1 => simp at hc
    · exact h.elim
  · exact h.elim

def rangeBlk (P : Program) (mem : List Blk) (T : TypeId) (x : V) : Option Blk :=
  match x with
  | .mp b => match mem[b]? with
    | some (.map _ clock) => match mapDesc P T with | some _ => some (.miter b clock [] clock) | none => none
    | _ => none
  | .sc (.map none) => match mapDesc P T with | some _ => some .niter | none => none
  | .sc (.string s) => match P.underlying T with | some .string => some (.siter s 0) | _ => none
  | _ => none
theorem F_new {E : Env} {w : World} {a : Act} {st : St} (hs : Sim E w a st) (o : Nat) : E.F ⟨w.heap.size, o, none⟩ = none := by
  cases hx : E.F ⟨w.heap.size, o, none⟩ with
  | none => rfl
  | some x => have := World.block_lt_of_cell? w _ (hs.F _ _ hx); simp at this
theorem Sim.newObj {E : Env} {w : World} {a : Act} {st : St} (hs : Sim E w a st) {key : Nat} (hk : freeKey st.mem key) {obj : Obj} {B : Blk} (hv : B.ver = 0) (hB : BlkOk (E.with key 0 (w.heap.size, 0, 0)) (w.alloc obj) key B) :
    ∃ E', Sim E' (w.alloc obj) a { st with mem := setMem st.mem key B } ∧ Evo E w E' (w.alloc obj) ∧ E'.blk key 0 = some (w.heap.size, 0, 0) := by
  have := hs.new (obj := obj) (B := B) (e := 0) (c := 0) hk hv hB
  exact ⟨_, this.1, this.2, if_pos ⟨rfl, rfl⟩⟩
theorem rangeBlk_sound {P : Program} {E : Env} {w : World} {a : Act} {st : St} (hs : Sim E w a st) {key : Nat} (hk : freeKey st.mem key) {T : TypeId} {x : V} {y : Value} {B : Blk} (hx : Rep E x y) (h : rangeBlk P st.mem T x = some B) :
    ∃ E' w', (Instr.range T y).run P w = .ok (.pointer (some ⟨w.heap.size, 0, none⟩)) w' ∧ Sim E' w' a { st with mem := setMem st.mem key B } ∧ Evo E w E' w' ∧ Rep E' (.ptr key 0) (.pointer (some ⟨w.heap.size, 0, none⟩)) := by
  have hkey : (E.with key 0 (w.heap.size, 0, 0)).blk key 0 = some (w.heap.size, 0, 0) := if_pos ⟨rfl, rfl⟩
  unfold rangeBlk at h
  split at h
  · rename_i b
    split at h
    · rename_i kvs clock hB
      split at h
      · rename_i p hp
        cases h
        obtain ⟨kt, et⟩ := p
        have hd := mapDesc_eq hp
        obtain ⟨g, e, c, rfl, hb⟩ := mp_inv hx
        obtain ⟨es, hh, hr, -⟩ := map_blk hs hB hb
        have hne : b ≠ key := fun e => by subst e; rw [hs.free hk 0] at hb; cases hb
        obtain ⟨E', h1, h2, h3⟩ := hs.newObj hk (obj := .mapIter (some g) clock #[] clock) (B := .miter b clock [] clock) rfl ⟨w.heap.size, g, e, c, hkey, (if_neg fun h => hne h.1).trans hb, heap_alloc_new w _, fun o => F_new (E := E) hs o⟩
        exact ⟨E', _, by simp [Instr.range, run_underlyingP hd, run_getMap hh, newObj, Sem.run], h1, h2, .ptr _ _ _ _ 0 0 h3⟩
      · cases h
    · cases h
  · obtain rfl := rep_sc' hx
    split at h
    · rename_i p hp
      cases h
      obtain ⟨kt, et⟩ := p
      have hd := mapDesc_eq hp
      obtain ⟨E', h1, h2, h3⟩ := hs.newObj hk (obj := .mapIter none 0 #[] 0) (B := .niter) rfl ⟨w.heap.size, hkey, heap_alloc_new w _, fun o => F_new (E := E) hs o⟩
      exact ⟨E', _, by simp [Instr.range, run_underlyingP hd, newObj, Sem.run], h1, h2, .ptr _ _ _ _ 0 0 h3⟩
    · cases h
  · rename_i s
    obtain rfl := rep_sc' hx
    split at h
    · rename_i hd
      cases h
      obtain ⟨E', h1, h2, h3⟩ := hs.newObj hk (obj := .stringIter s 0) (B := .siter s 0) rfl ⟨w.heap.size, hkey, heap_alloc_new w _, fun o => F_new (E := E) hs o⟩
      exact ⟨E', _, by simp [Instr.range, run_underlyingP hd, newObj, Sem.run], h1, h2, .ptr _ _ _ _ 0 0 h3⟩
    · cases h
  · cases h
theorem makeMap_sound {P : Program} {E : Env} {w : World} {a : Act} {st : St} (hs : Sim E w a st) {key : Nat} (hk : freeKey st.mem key) (T : TypeId) :
    ∃ E' w', (Instr.makeMap T none).run P w = .ok (.map (some w.heap.size)) w' ∧ Sim E' w' a { st with mem := setMem st.mem key (.map [] 0) } ∧ Evo E w E' w' ∧ Rep E' (.mp key) (.map (some w.heap.size)) := by
  have hkey : (E.with key 0 (w.heap.size, 0, 0)).blk key 0 = some (w.heap.size, 0, 0) := if_pos ⟨rfl, rfl⟩
  obtain ⟨E', h1, h2, h3⟩ := hs.newObj hk (obj := .map #[] 0) (B := .map [] 0) rfl ⟨w.heap.size, #[], hkey, heap_alloc_new w _, ⟨rfl, fun i k e h => by simp at h⟩, fun o => F_new (E := E) hs o⟩
  exact ⟨E', _, by simp [Instr.makeMap, newObj, Sem.run], h1, h2, .mp _ _ _ 0 0 h3⟩
def zeroRow (i : Ti) : V := if i.agg = true then .agg (i.zero.map fun z => nilS (.sc z)) else match i.zero with | z :: _ => nilS (.sc z) | [] => .undef
def makeV (tt : Table) (T : TypeId) (l c : V) : Option (Nat × List V × Nat) :=
  match l, c with
  | .sc (.int _ l), .sc (.int _ c) => match tElem tt T with
    | some e => match tt e with
      | some i => if 0 ≤ l ∧ l ≤ c ∧ i.bytes * c ≤ 281474976710656 ∧ c ≤ 1152921504606846976 ∧ 0 < i.size ∧ i.zero.length = i.size ∧ i.zero.all Value.oneCell' = true ∧ (i.agg = true ∨ i.size = 1) then some (i.size, List.replicate l.toNat (zeroRow i), c.toNat) else none
      | none => none
    | none => none
  | _, _ => none
theorem zeroRow_cells {i : Ti} (h : i.agg = true ∨ i.size = 1) (hz : i.zero.length = i.size) : (zeroRow i).cells = i.zero.map fun z => nilS (.sc z) := by
  unfold zeroRow
  split
  · rfl
  · rename_i hn
    have h1 : i.size = 1 := by rcases h with h | h
                               · exact absurd h hn
                               · exact h
    match hzz : i.zero with
    | [] => rw [hzz] at hz; simp at hz; omega
    | [z] => simp only [List.map_cons,List.map_nil]; unfold nilS; split <;> rfl
    | _ :: _ :: _ => rw [hzz] at hz; simp at hz; omega
theorem makeV_sound {P : Program} {tt : Table} (ht : TT P tt) {E : Env} {w : World} {a : Act} {st : St} (hs : Sim E w a st) {key : Nat} (hk : freeKey st.mem key) {T : TypeId} {l c : V} {x y : Value} {size cap : Nat} {rs : List V} (hl : Rep E l x) (hc : Rep E c y)
    (h : makeV tt T l c = some (size, rs, cap)) :
    ∃ E' w', (Instr.makeSlice T x y).run P w = .ok (.slice (some ⟨w.heap.size, 0, none⟩) rs.length cap) w' ∧ Sim E' w' a { st with mem := setMem st.mem key (.rows 0 size rs) } ∧ Evo E w E' w' ∧ Rep E' (.ms key 0 0 rs.length) (.slice (some ⟨w.heap.size, 0, none⟩) rs.length cap) := by
  unfold makeV at h
  split at h
  · rename_i k1 l k2 c
    obtain rfl := rep_sc' hl
    obtain rfl := rep_sc' hc
    unfold tElem at h
    cases hT : tt T with
    | none => rw [hT] at h; simp at h
    | some iT =>
      rw [hT] at h; simp only at h
      cases he : iT.elem with
      | none => rw [he] at h; simp at h
      | some e =>
        rw [he] at h; simp only at h
        cases hE : tt e with
        | none => rw [hE] at h; simp at h
        | some i =>
          rw [hE] at h; simp only at h
          split at h
          · rename_i hcond
            obtain ⟨h0, h1, hb, hb2, hpos, hzl, hone, hagg⟩ := hcond
            cases h
            obtain ⟨d, hd, -, hsl, -⟩ := ht.desc T iT hT
            obtain rfl := hsl e he
            obtain ⟨info, hi1, hi2, hi3, z, hz, hzz⟩ := ht.size e i hE
            have hzs : z.cells.size = i.size := by rw [← hzl, ← hzz]; simp
            have hwl : IntKind.i64.wrap l = l := by rw [IntWalk.i64_in _ (by omega)]
            have hwc : IntKind.i64.wrap c = c := by rw [IntWalk.i64_in _ (by omega)]
            obtain ⟨xs, hxs⟩ : ∃ xs : Array Value, xs = (Array.range (c.toNat * i.size)).map (z.cells[· % z.cells.size]!) := ⟨_, rfl⟩
            have hrun : (Instr.makeSlice T (.int k1 l) (.int k2 c)).run P w = .ok (.slice (some ⟨w.heap.size, 0, none⟩) l.toNat c.toNat) (w.alloc (.cells xs e (0, 0))) := by
              have e0 : (decide (c < 0) || decide ((info.bytes : Int) * c > 2 ^ 48)) = false := by
                rw [hi3]
                simp only [Bool.or_eq_false_iff,decide_eq_false_iff_not]
                exact ⟨by omega, by omega⟩
              have e1 : (decide (l < 0)) = false := by simp; omega
              have e2 : (decide (l > c)) = false := by simp; omega
              have hzv : (zeroValue e).run P (w) = .ok z w := by simp [zeroValue, run_typeInfoP hi1, hz]
              simp only [Instr.makeSlice,Sem.run_bind,run_underlyingP hd,Result.andThen_ok,asInt,asIntOf,Sem.run_pure,run_typeInfoP hi1,hwl,hwc,e0,e1,e2,Bool.or_self,Bool.false_eq_true,if_false,run_askRoom,run_sizeOfP hi1,hi2]
              by_cases hn : c.toNat * i.size = 0
              · have hx0 : xs = #[] := by rw [hxs, hn]; simp
                have hr0 : ∀ f : Nat → Value, Array.map f (Array.range 0) = #[] := fun f => Array.eq_empty_of_size_eq_zero (by simp)
                simp only [hn,if_true,Sem.run_pure,Result.andThen_ok,hr0,hx0]
                rfl
              · simp only [hn,if_false,Sem.run_bind,hzv,Result.andThen_ok,Sem.run_pure]
                simp [newRow, hxs]
            obtain ⟨E', g1, g2, g3⟩ := hs.newRows hk (xs := xs) (rs := List.replicate l.toNat (zeroRow i)) (e := i.size) (c := c.toNat) e (by rw [hxs]; simp) (by simp; omega) (fun q row hq => by
              rw [List.getElem?_replicate] at hq
              split at hq
              · rename_i hql
                cases hq
                have hcells := zeroRow_cells hagg hzl
                refine ⟨by rw [hcells]; simpa using hzl, fun j cc hj => ?_⟩
                rw [hcells, List.getElem?_map, Option.map_eq_some_iff] at hj
                obtain ⟨v, hv, rfl⟩ := hj
                have hjl : j < i.size := by rw [← hzl]; exact (List.getElem?_eq_some_iff.1 hv).1
                have hlt : q * i.size + j < c.toNat * i.size := by
                  have : (q + 1) * i.size ≤ c.toNat * i.size := Nat.mul_le_mul_right _ (by omega)
                  rw [Nat.succ_mul] at this; omega
                have hmod : (q * i.size + j) % i.size = j := by rw [Nat.add_comm, Nat.add_mul_mod_self_right, Nat.mod_eq_of_lt hjl]
                refine ⟨v, ?_, List.all_eq_true.1 hone v (List.mem_of_getElem? hv), nilS_rep (.sc _ _)⟩
                rw [hxs]
                have hzj : z.cells[j]? = some v := by rw [← Array.getElem?_toList, hzz]; exact hv
                have hjz : j < z.cells.size := by omega
                simp only [Array.getElem?_map,Array.getElem?_range,hlt,if_true,Option.map_some,hzs,hmod]
                rw [getElem!_pos z.cells j hjz]
                rw [Array.getElem?_eq_getElem hjz] at hzj
                exact hzj
              · cases hq)
            refine ⟨E', _, ?_, g1, g2, ?_⟩
            · simpa using hrun
            · simpa using g3
          · cases h
  · cases h
end Go.Eng
end

section
namespace Go.Eng
variable [Glob]
open Go.RowKit (Below)
def appendS (tt : Table) (mem : List Blk) (ts : List TypeId) (s x : V) : Option (Nat × Nat × Nat × Nat × List V × List V) :=
 match s with
 | .ms b v o l => match mem[b]? with
  | some (.rows v' eb rs) => match ts with
   | [t, u] => match tElem tt t with
    | some e => match tElem tt u with
     | some _ => match tt e with
      | some i =>
       if v' = v ∧ eb = i.size ∧ o + l = rs.length ∧ 0 < i.size ∧ i.bytes ≤ 4096 ∧ i.zero.length = i.size then
        match rowsOf mem i.size x with
        | some xs => if l + xs.length ≤ 34359738368 then some (i.size, b, v, l, rs.drop o, xs) else none
        | none => none
       else none
      | none => none
     | none => none
    | none => none
   | _ => none
  | _ => none
 | _ => none
theorem appendS_sound {P : Program} {tt : Table} (ht : TT P tt) {E : Env} {w : World} {a : Act} {st : St} (hs : Sim E w a st) {ts : Array TypeId} {ty : TypeId} {s x : V} {y z : Value} {size b v l : Nat} {rs0 xs : List V}
  (hsr : Rep E s y) (hxr : Rep E x z) (h : appendS tt st.mem ts.toList s x = some (size, b, v, l, rs0, xs)) :
  ∃ u w' E' o' rs', (Builtin.append_ ts ty #[y, z]).run P w = .ok u w' ∧ rs'.drop o' = rs0 ++ xs ∧ o' + (l + xs.length) = rs'.length ∧ Sim E' w' a { st with mem := st.mem.set b (.rows (v + 1) size rs') } ∧ Evo E w E' w' ∧ Rep E' (.ms b (v + 1) o' (l + xs.length)) u := by
 unfold appendS at h
 split at h
 ·rename_i b1 v1 o l1
  split at h
  ·rename_i v' eb rs hm
   split at h
   ·rename_i t u hts
    obtain rfl : ts = #[t, u] := by rw [← Array.toArray_toList (xs := ts), hts]
    split at h
    ·rename_i e he
     split at h
     ·rename_i e' heu
      split at h
      ·rename_i i hE
       split at h
       ·rename_i hc
        obtain ⟨rfl, rfl, hol, hpos, hbytes, hzl⟩ := hc
        split at h
        ·rename_i xs' hxs
         split at h
         ·rename_i hlen
          simp only [Option.some.injEq,Prod.mk.injEq] at h
          obtain ⟨rfl, rfl, rfl, rfl, rfl, rfl⟩ := h
          have und : ∀ {t e : TypeId}, tElem tt t = some e → P.underlying t = some (.slice e) := fun {t e} he => by
           unfold tElem at he
           split at he
           ·rename_i iu hU
            obtain ⟨d, hd, -, hsl, -⟩ := ht.desc t iu hU
            rw [hd, hsl e he]
           ·simp at he
          have hd := und he
          have hdu := und heu
          obtain ⟨info, hi1, hi2, hi3, z0, hz0, hz1⟩ := ht.size e i hE
          have hzs : z0.cells.size = info.size := by rw [hi2, ← hzl, ← hz1]; simp
          rw [← hi2] at hxs hpos hm ⊢
          rw [← hi3] at hbytes
          have hdr : Sim E w.drew a st := hs.drew
          obtain ⟨xa, xc, rfl, hxc, xA, hx1, hx2⟩ := rowsOf_sound (P := P) hs hxr hxs
          obtain ⟨xa', xc', heq, -, xB, hx3, hx4⟩ := rowsOf_sound (P := P) hdr hxr hxs
          simp only [Value.slice.injEq] at heq
          obtain ⟨rfl, -, rfl⟩ := heq
          have hfit : ∀ sCap, sCap < l1 + xs'.length → Builtin.nextslicecap (l1 + xs'.length) sCap * info.bytes ≤ 281474976710656 := fun sCap hlt =>
           growslice_fits hlt (Nat.le_trans (Nat.mul_le_mul hlen hbytes) (by decide))
          have hdl : (rs.drop o).length = l1 := by rw [List.length_drop]; omega
          have hrl : (rs.drop o ++ xs').length = l1 + xs'.length := by rw [List.length_append, hdl]
          have hge : ∀ sCap, l1 + xs'.length ≤ grownCap w (l1 + xs'.length) sCap e := fun sCap => grownCap_ge w (l1 + xs'.length) sCap e
          have hro : rowsOf st.mem info.size (.ms b1 v' o l1) = some (rs.drop o) := by
           have h1 : o + l1 ≤ rs.length := by omega
           simp [rowsOf, hm, h1]
           rw [List.take_of_length_le (by rw [List.length_drop]; omega)]
          obtain ⟨sa, sc, rfl, hsc, A, hA1, hA2⟩ := rowsOf_sound (P := P) hdr hsr hro
          rw [hdl] at hA1 hsr ⊢
          have hcells : ∀ sCap, (A ++ xB ++ Builtin.zeroCells z0.cells (grownCap w (l1 + xs'.length) sCap e - (l1 + xs'.length))).size = grownCap w (l1 + xs'.length) sCap e * info.size := fun sCap => by
           simp only [Array.size_append,size_zeroCells,hzs,hA2.1,hx4.1,hdl,← Nat.add_mul]
           congr 1; have := hge sCap; omega
          by_cases hroom : l1 + xs'.length ≤ sc
          ·rcases ms_inv hsr with ⟨hl0, hsn⟩ | ⟨g, eb', c, sa', sc', hsn, hb, hl, h00, hcc⟩
           ·simp only [Value.slice.injEq] at hsn
            obtain ⟨rfl, hrl0, rfl⟩ := hsn
            have hx0 : xs' = [] := List.length_eq_zero_iff.1 (by omega)
            subst hx0
            have hl1 : l1 = 0 := by omega
            subst hl1
            have hr0 : rs.drop o = [] := List.length_eq_zero_iff.1 hdl
            rw [hr0]
            exact ⟨_, w, E, 0, [], run_append_nilnil (ty := ty) hd hdu hi1 xc xa xA hx1, rfl, rfl, hs.renewNil hm, Evo.refl E w, .msnil _ _ _ _⟩
           ·simp only [Value.slice.injEq] at hsn
            obtain ⟨rfl, -, rfl⟩ := hsn
            obtain ⟨hc1, hc2, hc3⟩ := hcc
            rcases hs.mem b1 _ hm with ⟨-, hn⟩ | ⟨g', T', cur, c', hb', hh, hcs, hcl, hrr, hf⟩
            ·rw [hb] at hn; cases hn
            rw [hb] at hb'; cases hb'
            by_cases hsc0 : sc = 0
            ·-- nothing at all
             have hx0 : xs' = [] := List.length_eq_zero_iff.1 (by omega)
             subst hx0
             have hl1 : l1 = 0 := by omega
             subst hl1
             subst hsc0
             have hr0 : rs.drop o = [] := List.length_eq_zero_iff.1 hdl
             have hrun : (Builtin.append_ #[t, u] ty #[.slice sa 0 0, .slice xa 0 xc]).run P w = .ok (.slice sa 0 0) w := by
              cases sa with
              | none => exact run_append_nilnil (ty := ty) hd hdu hi1 xc xa xA hx1
              | some ad =>
               have hxe : xA.toList = [] := by
                have := hx2.1
                simp at this
                simpa using this
               have hfc : (Builtin.firstCells info.size 0 (.slice xa 0 xc)).run P w = .ok xA w := hx1
               simp [Builtin.append_, run_underlyingP hd, run_underlyingP hdu, run_sizeOfP hi1, Builtin.lenOf, hfc, hxe, storeCells]
             have hle : E.le (E.with b1 (v' + 1) (g, info.size, c)) := Env.le_with (hs.ver b1 _ hm _ (Nat.lt_succ_self v')) _
             have hkey : (E.with b1 (v' + 1) (g, info.size, c)).blk b1 (v' + 1) = some (g, info.size, c) := if_pos ⟨rfl, rfl⟩
             refine ⟨_, w, E.with b1 (v' + 1) (g, info.size, c), o, rs, hrun, by simp [hr0], by omega, hs.renew hm hs.F (Nat.le_refl _) (hs.lt _ _ _ _ _ hb) (fun k B' hkb hk' hh2 g' e' c' hbk => ⟨rfl, fun e => by subst e; exact hkb (hs.apart _ _ _ _ _ _ _ _ _ hbk hb)⟩) ?_ (fun k v2 e2 c2 h => hs.apart _ _ _ _ _ _ _ _ _ h hb),
              ⟨hle, fun k q g' e' c' hkb => ?_, fun ad y hy => .inl hy, rfl, rfl, rfl, Nat.le_refl _, fun _ _ _ => rfl⟩, ?_⟩
             ·exact .inr ⟨g, T', cur, c, hkey, hh, hcs, hcl, fun q row hq => let ⟨h3, h4⟩ := hrr q row hq; ⟨h3, fun j cc hj => let ⟨v, hv, hv1, hvr⟩ := h4 j cc hj; ⟨v, hv, hv1, hvr.mono (Env.le_pure hle)⟩⟩, hf⟩
             ·by_cases hq : k = b1 ∧ q = v' + 1
              ·obtain ⟨rfl, rfl⟩ := hq; rw [hkey] at hkb; cases hkb; exact .inl ⟨_, _, _, _, hb⟩
              ·have : (E.with b1 (v' + 1) (g, info.size, c)).blk k q = E.blk k q := if_neg hq
               rw [this] at hkb; exact .inl ⟨_, _, _, _, hkb⟩
             ·exact .ms _ _ _ _ _ g info.size c _ _ hkey (fun h => absurd h (by simp)) (fun h => h00 h) ⟨by simp, hc2, fun h => absurd h (Nat.lt_irrefl _)⟩
            ·obtain rfl := hc3 (by omega)
             have hfitc : rs.length * info.size + xA.toList.length ≤ cur.size := by
              have := hx2.1
              simp only [Array.length_toList]
              rw [this, hcs, ← Nat.add_mul]; exact Nat.mul_le_mul_right _ (by omega)
             obtain ⟨w', hst, hh', hob⟩ := run_storeCells_own (P := P) (g := g) (T := T') (rs.length * info.size) xA.toList 0 w cur hh (by simpa using hfitc) (one_of_rows hpos hx2)
             have hrun : (Builtin.append_ #[t, u] ty #[.slice (some ⟨g, o * info.size, none⟩) l1 sc, .slice xa xs'.length xc]).run P w = .ok (.slice (some ⟨g, o * info.size, none⟩) (l1 + xs'.length) sc) w' := by
              have hst' : (storeCells (Addr.add ⟨g, o * info.size, none⟩ (l1 * info.size)) xA.toList).run P w = .ok () w' := by
               rw [add_lit, ← Nat.add_mul, hol]; exact hst
              simp [Builtin.append_, run_underlyingP hd, run_underlyingP hdu, run_sizeOfP hi1, Builtin.lenOf, hroom, hx1, hst']
             have hle : E.le (E.with b1 (v' + 1) (g, info.size, c)) := Env.le_with (hs.ver b1 _ hm _ (Nat.lt_succ_self v')) _
             have hkey : (E.with b1 (v' + 1) (g, info.size, c)).blk b1 (v' + 1) = some (g, info.size, c) := if_pos ⟨rfl, rfl⟩
             refine ⟨_, w', E.with b1 (v' + 1) (g, info.size, c), o, rs ++ xs', hrun, by rw [List.drop_append_of_le_length (by omega)], by rw [List.length_append]; omega, hs.renew hm (fun ad y hy => ?_) (by rw [hob.size]; exact Nat.le_refl _) (by rw [hob.size]; exact hs.lt _ _ _ _ _ hb) (fun k B' hkb hk' hh2 g' e' c' hbk => ?_) ?_ (fun k v2 e2 c2 h => hs.apart _ _ _ _ _ _ _ _ _ h hb),
              ⟨hle, fun k q g' e' c' hkb => ?_, fun ad y hy => .inl hy, hob.os, hob.tape, hob.output, by rw [hob.size]; exact Nat.le_refl _, fun b' hb' hne => hob.heap b' fun e => by subst e; exact hne _ _ _ _ hb⟩, ?_⟩
             ·have hne := hs.F_block hf hy
              rw [← hs.F ad y hy]; simp [World.cell?, hob.heap _ hne]
             ·have hgg : g' ≠ g := fun e => by
               subst e
               exact hkb (hs.apart _ _ _ _ _ _ _ _ _ hbk hb)
              exact ⟨hob.heap _ hgg, hgg⟩
             ·refine .inr ⟨g, T', _, c, hkey, hh', by rw [spliceA_size]; exact hcs, by rw [List.length_append]; omega, ?_, hf⟩
              intro q row hq
              simp only [Nat.add_zero]
              have hxl : xA.toList.length = xs'.length * info.size := by simpa using hx2.1
              rw [List.getElem?_append] at hq
              split at hq
              ·rename_i hlt
               obtain ⟨h3, h4⟩ := hrr q row hq
               refine ⟨h3, fun j cc hj => ?_⟩
               obtain ⟨v, hv, hv1, hvr⟩ := h4 j cc hj
               have hjl : j < info.size := by rw [← h3]; exact (List.getElem?_eq_some_iff.1 hj).1
               refine ⟨v, ?_, hv1, hvr⟩
               rw [spliceA_get _ _ _ _ hfitc, if_neg (by have := idx_lt hlt hjl; omega)]
               exact hv
              ·rename_i hgeq
               obtain ⟨h3, h4⟩ := hx2.2 _ row hq
               refine ⟨h3, fun j cc hj => ?_⟩
               obtain ⟨v, hv, hv1, hvr⟩ := h4 j cc hj
               have hjl : j < info.size := by rw [← h3]; exact (List.getElem?_eq_some_iff.1 hj).1
               have hql : q - rs.length < xs'.length := (List.getElem?_eq_some_iff.1 hq).1
               have hmul : q * info.size = rs.length * info.size + (q - rs.length) * info.size := by rw [← Nat.add_mul]; congr 1; omega
               refine ⟨v, ?_, hv1, hvr⟩
               rw [spliceA_get _ _ _ _ hfitc, if_pos (by have := idx_lt hql hjl; omega)]
               dsimp only at hv
               rw [← hv, Array.getElem?_toList]
               congr 1; omega
             ·by_cases hq : k = b1 ∧ q = v' + 1
              ·obtain ⟨rfl, rfl⟩ := hq; rw [hkey] at hkb; cases hkb; exact .inl ⟨_, _, _, _, hb⟩
              ·have : (E.with b1 (v' + 1) (g, info.size, c)).blk k q = E.blk k q := if_neg hq
               rw [this] at hkb; exact .inl ⟨_, _, _, _, hkb⟩
             ·exact .ms _ _ _ _ _ g info.size c _ _ hkey (fun _ => rfl) (fun h => h00 h) ⟨hroom, hc2, fun _ => rfl⟩
          ·-- a new block
           have hlt : sc < l1 + xs'.length := by omega
           have hrun := run_append_new (ty := ty) hd hdu hi1 hz0 sa l1 sc xs'.length xc xa A xB hA1 hx3 hlt (by omega) (hfit sc hlt)
           have hle : E.le (E.with b1 (v' + 1) (w.heap.size, info.size, grownCap w (l1 + xs'.length) sc e)) := Env.le_with (hs.ver b1 _ hm _ (Nat.lt_succ_self v')) _
           have hkey : (E.with b1 (v' + 1) (w.heap.size, info.size, grownCap w (l1 + xs'.length) sc e)).blk b1 (v' + 1) = some (w.heap.size, info.size, grownCap w (l1 + xs'.length) sc e) := if_pos ⟨rfl, rfl⟩
           refine ⟨_, _, E.with b1 (v' + 1) (w.heap.size, info.size, grownCap w (l1 + xs'.length) sc e), 0, rs.drop o ++ xs', hrun, rfl, by rw [hrl]; omega, hs.renew hm (fun ad y hy => ?_) (by simp) (by simp) (fun k B' hkb hk' hh2 g' e' c' hbk => ?_) ?_ (fun k v2 e2 c2 h => absurd (hs.lt _ _ _ _ _ h) (Nat.lt_irrefl _)),
            ⟨hle, fun k q g' e' c' hkb => ?_, fun ad y hy => .inl hy, rfl, rfl, rfl, by simp, fun b' hb' hne => Go.RowKit.Below.heap_alloc w.drew _ b' hb'⟩, ?_⟩
           ·rw [World.cell?_alloc_lt w.drew _ ad (World.block_lt_of_cell? w ad (hs.F ad y hy))]; exact hs.F ad y hy
           ·have := hs.lt _ _ _ _ _ hbk
            exact ⟨Go.RowKit.Below.heap_alloc w.drew _ g' this, by omega⟩
           ·refine .inr ⟨w.heap.size, e, _, _, hkey, heap_alloc_new w.drew _, hcells sc, by rw [hrl]; exact hge sc, ?_, fun o => ?_⟩
            ·intro q row hq
             obtain ⟨h3, h4⟩ := RowsOk_append (C := Builtin.zeroCells z0.cells (grownCap w (l1 + xs'.length) sc e - (l1 + xs'.length))) hA2 hx4 q row hq
             exact ⟨h3, fun j cc hj => let ⟨v, hv, hv1, hvr⟩ := h4 j cc hj; ⟨v, hv, hv1, hvr.mono (Env.le_pure hle)⟩⟩
            ·show E.F _ = none
             cases hx : E.F ⟨w.heap.size, o, none⟩ with
             | none => rfl
             | some x => have := World.block_lt_of_cell? w _ (hs.F _ _ hx); simp at this
           ·by_cases hq : k = b1 ∧ q = v' + 1
            ·obtain ⟨rfl, rfl⟩ := hq; rw [hkey] at hkb; cases hkb; exact .inr (Nat.le_refl _)
            ·have : (E.with b1 (v' + 1) (w.heap.size, info.size, grownCap w (l1 + xs'.length) sc e)).blk k q = E.blk k q := if_neg hq
             rw [this] at hkb; exact .inl ⟨_, _, _, _, hkb⟩
           ·exact .ms _ _ _ _ _ w.heap.size info.size _ _ _ hkey (fun _ => by simp) (fun _ => ⟨rfl, rfl⟩) ⟨hge sc, Nat.zero_add _, fun _ => by simp⟩
         ·simp at h
        ·simp at h
       ·simp at h
      ·simp at h
     ·simp at h
    ·simp at h
   ·simp at h
  ·simp at h
 ·simp at h
end Go.Eng
end

section
namespace Go.Eng
variable [Glob]
open Go.RowKit (Below)

def purCell (mem : List Blk) : V → Option V
  | .undef => some .undef
  | .sc v => some (nilS (.sc v))
  | .slice rows => some (.slice rows)
  | .full rows => some (.slice rows)
  | .eptr cs => some (.eptr cs)
  | .gn => some .gn
  | .ms b v s l => match mem[b]? with
    | some (.rows v' _ rs) => if v' = v ∧ s + l ≤ rs.length then some (.slice ((rs.drop s).take l)) else none
    | some (.frz v' _ rs) => if v' = v ∧ s + l ≤ rs.length then some (.slice ((rs.drop s).take l)) else none
    | _ => none
  | .clo f [] [] => some (.sc (.func f #[] #[]))
  | _ => none
def purCells (mem : List Blk) : List V → Option (List V)
  | [] => some []
  | c :: r => match purCell mem c with
    | some c' => match purCells mem r with | some r' => some (c' :: r') | none => none
    | none => none
def pur1 (mem : List Blk) : V → Option V
  | .agg cs => match purCells mem cs with | some l => some (.agg l) | none => none
  | v => purCell mem v
def purL (mem : List Blk) : List V → Option (List V)
  | [] => some []
  | c :: r => match pur1 mem c with
    | some c' => match purL mem r with | some r' => some (c' :: r') | none => none
    | none => none
def pur (mem : List Blk) : V → Option V
  | .tup vs => match purL mem vs with | some l => some (.tup l) | none => none
  | v => pur1 mem v

def refCell : V → List (Nat × Nat)
  | .ms b v _ _ => [(b, v)]
  | _ => []
def ref1 : V → List (Nat × Nat)
  | .agg cs => cs.flatMap refCell
  | v => refCell v
def refs : V → List (Nat × Nat)
  | .tup vs => vs.flatMap ref1
  | v => ref1 v

def Env.opn (E : Env) (w : World) (keys : List (Nat × Nat)) : Env :=
  { F := fun ad => match E.F ad with
      | some x => some x
      | none => if keys.any (fun k => match E.blk k.1 k.2 with | some (g, _, _) => g == ad.block | none => false) then w.cell? ad else none
    blk := E.blk
    gl := E.gl.mono fun ad x h => by simp only [h] }
theorem Env.le_opn (E : Env) (w : World) (keys : List (Nat × Nat)) : E.le (E.opn w keys) := ⟨fun ad x h => by simp [Env.opn, h], fun _ _ _ h => h⟩
theorem Env.opn_F {E : Env} {w : World} {keys : List (Nat × Nat)} (hF : ∀ ad x, E.F ad = some x → w.cell? ad = some x) {ad : Addr} {x : Value} (h : (E.opn w keys).F ad = some x) : w.cell? ad = some x := by
  unfold Env.opn at h
  dsimp only at h
  split at h
  · rename_i y hy; cases h; exact hF _ _ hy
  · split at h
    · exact h
    · cases h
theorem Env.opn_new {E : Env} {w : World} {keys : List (Nat × Nat)} {ad : Addr} {x : Value} (h : (E.opn w keys).F ad = some x) : E.F ad = some x ∨ ∃ k ∈ keys, ∃ e c, E.blk k.1 k.2 = some (ad.block, e, c) := by
  unfold Env.opn at h
  dsimp only at h
  split at h
  · rename_i y hy; cases h; exact .inl hy
  · split at h
    · rename_i hany
      obtain ⟨k, hk, hm⟩ := List.any_eq_true.1 hany
      split at hm
      · rename_i g e c hb
        simp only [beq_iff_eq] at hm; subst hm
        exact .inr ⟨k, hk, e, c, hb⟩
      · cases hm
    · cases h
theorem Env.opn_at {E : Env} {w : World} {keys : List (Nat × Nat)} {k v g e c : Nat} (hk : (k, v) ∈ keys) (hb : E.blk k v = some (g, e, c)) {o : Nat} {x : Value} (hn : E.F ⟨g, o, none⟩ = none) (hx : w.cell? ⟨g, o, none⟩ = some x) : (E.opn w keys).F ⟨g, o, none⟩ = some x := by
  have : keys.any (fun k => match E.blk k.1 k.2 with | some (g', _, _) => g' == g | none => false) = true := List.any_eq_true.2 ⟨(k, v), hk, by simp [hb]⟩
  unfold Env.opn
  dsimp only
  rw [hn]
  dsimp only
  rw [if_pos this]; exact hx

theorem rows_opn {E : Env} {w : World} {a : Act} {st : St} (hs : Sim E w a st) {keys : List (Nat × Nat)} {k v g e c : Nat} (hk : (k, v) ∈ keys) (hb : E.blk k v = some (g, e, c)) {B : Blk} (hm : st.mem[k]? = some B) {rs : List V} {e' : Nat}
    (hB : B = .rows v e' rs ∨ B = .frz v e' rs) : e' = e ∧ rs.length ≤ c ∧ RowsOk E.pure e rs (fun o => (E.opn w keys).F ⟨g, o, none⟩) := by
  rcases hB with rfl | rfl
  · rcases hs.mem k _ hm with ⟨-, hn⟩ | ⟨g', T, xs, c', hb', hh, hsz, hl, hr, hf⟩
    · rw [hb] at hn; cases hn
    · rw [hb] at hb'; cases hb'
      refine ⟨rfl, hl, fun i row hi => ?_⟩
      obtain ⟨h1, h2⟩ := hr i row hi
      exact ⟨h1, fun j cc hj => let ⟨x, hx, h⟩ := h2 j cc hj; ⟨x, Env.opn_at hk hb (hf _) (by rw [cell_at hh]; exact hx), h⟩⟩
  · rcases hs.mem k _ hm with ⟨-, hn⟩ | ⟨g', c', hb', hl, hr⟩
    · rw [hb] at hn; cases hn
    rw [hb] at hb'; cases hb'
    refine ⟨rfl, hl, fun i row hi => ?_⟩
    obtain ⟨h1, h2⟩ := hr i row hi
    exact ⟨h1, fun j cc hj => let ⟨x, hx, h⟩ := h2 j cc hj; ⟨x, (Env.le_opn E w keys).F _ _ hx, h⟩⟩

theorem purCell_sound {E : Env} {w : World} {a : Act} {st : St} (hs : Sim E w a st) {keys : List (Nat × Nat)} {v v' : V} {x : Value} (hr : Rep E v x) (h : purCell st.mem v = some v') (hk : ∀ k ∈ refCell v, k ∈ keys) : Rep (E.opn w keys).pure v' x := by
  have hle := Env.le_pure (Env.le_opn E w keys)
  have hms : ∀ {b v s l : Nat} {B : Blk} {rs : List V} {e' : Nat}, Rep E (.ms b v s l) x → (b, v) ∈ keys → st.mem[b]? = some B → (B = .rows v e' rs ∨ B = .frz v e' rs) → s + l ≤ rs.length → Rep (E.opn w keys).pure (.slice ((rs.drop s).take l)) x := by
    intro b v s l B rs e' hr hbk hm hB hl
    have hlen : ((rs.drop s).take l).length = l := by simp; omega
    rcases ms_inv hr with ⟨rfl, rfl⟩ | ⟨g, e, c, aa, cap, rfl, hb, hl1, -, hlc⟩
    · rw [show (rs.drop s).take 0 = [] from by simp]
      exact .slice _ [] none 0 0 default (fun _ _ => default) (by simp) (by simp) (by simp) (by simp) (by simp) (by simp)
    · obtain ⟨rfl, hrl, hrk⟩ := rows_opn hs hbk hb hm hB
      have hget : ∀ (i : Nat) (row : V) (j : Nat) (cc : V), ((rs.drop s).take l)[i]? = some row → row.cells[j]? = some cc → ∃ y, (E.opn w keys).F ⟨g, (s + i) * e' + j, none⟩ = some y ∧ y.oneCell' = true ∧ Rep E.pure cc y := fun i row j cc hi hj =>
        (hrk _ _ (cut_get hi)).2 j cc hj
      let xf : Nat → Nat → Value := fun i j => ((E.opn w keys).F ⟨g, (s + i) * e' + j, none⟩).getD default
      have hgoal : Rep (E.opn w keys).pure (.slice ((rs.drop s).take l)) (.slice aa ((rs.drop s).take l).length cap) := by
        refine .slice _ _ _ _ e' ⟨g, s * e', none⟩ xf (fun hne => hl1 ?_) (by rw [hlen]; exact hlc.1) (fun i row hi => (hrk _ _ (cut_get hi)).1) (fun i row j cc hi hj => ?_) (fun i row j cc hi hj => ?_) fun i row j cc hi hj => ?_
        · have : ((rs.drop s).take l).length ≠ 0 := fun h0 => hne (List.length_eq_zero_iff.1 h0)
          omega
        · obtain ⟨y, hy, -⟩ := hget i row j cc hi hj
          have hidx : s * e' + (i * e' + j) = (s + i) * e' + j := by rw [Nat.add_mul]; omega
          rw [add_lit, hidx]
          show (E.opn w keys).F _ = some (xf i j)
          simp [xf, hy]
        · obtain ⟨y, hy, h1, -⟩ := hget i row j cc hi hj
          simp [xf, hy, h1]
        · obtain ⟨y, hy, -, h2⟩ := hget i row j cc hi hj
          have : xf i j = y := by simp [xf, hy]
          rw [this]; exact h2.mono hle
      rw [hlen] at hgoal; exact hgoal
  unfold purCell at h
  split at h
  · simp only [Option.some.injEq] at h; subst h; exact .undef _ _
  · simp only [Option.some.injEq] at h; subst h; exact nilS_rep (by rw [rep_sc hr]; exact .sc _ _)
  · simp only [Option.some.injEq] at h; subst h
    cases hr with
    | slice _ _ a cap esz ad xf ha hcap hz hF h1 hR => exact (Rep.slice E.pure _ a cap esz ad xf ha hcap hz hF h1 hR).mono hle
  · simp only [Option.some.injEq] at h; subst h
    cases hr with
    | full _ _ a h =>
    cases h with
    | slice _ _ a cap esz ad xf ha hcap hz hF h1 hR => exact (Rep.slice E.pure _ a _ esz ad xf ha (Nat.le_refl _) hz hF h1 hR).mono hle
  · simp only [Option.some.injEq] at h; subst h
    cases hr with
    | eptr _ _ ad xf hF hR => exact (Rep.eptr E.pure _ ad xf hF hR).mono hle
  · simp only [Option.some.injEq] at h; subst h
    cases hr with
    | gn => exact .gn _
  · rename_i b v s l
    have hbk : (b, v) ∈ keys := hk (b, v) (by simp [refCell])
    split at h
    · rename_i v' e rs hm
      split at h
      · rename_i hl; obtain ⟨rfl, hl⟩ := hl; simp only [Option.some.injEq] at h; subst h; exact hms hr hbk hm (.inl rfl) hl
      · cases h
    · rename_i v' e rs hm
      split at h
      · rename_i hl; obtain ⟨rfl, hl⟩ := hl; simp only [Option.some.injEq] at h; subst h; exact hms hr hbk hm (.inr rfl) hl
      · cases h
    · cases h
  · simp only [Option.some.injEq] at h; subst h
    cases hr with
    | clo _ f _ _ xs ys hx hy h1 h2 =>
      have e1 : xs = #[] := by simpa using hx.symm
      have e2 : ys = #[] := by simpa using hy.symm
      subst e1; subst e2; exact .sc _ _
  · cases h

theorem purCells_sound {E : Env} {w : World} {a : Act} {st : St} (hs : Sim E w a st) {keys : List (Nat × Nat)} : ∀ {vs vs' : List V} {xs : List Value}, RepL E vs xs → purCells st.mem vs = some vs' → (∀ k ∈ vs.flatMap refCell, k ∈ keys) →
    RepL (E.opn w keys).pure vs' xs
  | [], vs', xs, hr, h, _ => by simp [purCells] at h; subst h; rw [hr.of_nil]; exact .nil _
  | v :: vs, vs', xs, hr, h, hk => by
    obtain ⟨x, ys, rfl, h1, h2⟩ := hr.of_cons
    simp only [purCells] at h
    split at h
    · rename_i c' hc
      split at h
      · rename_i r' hr'
        simp only [Option.some.injEq] at h; subst h
        exact .cons (purCell_sound hs h1 hc fun k hk' => hk k (by simp [hk'])) (purCells_sound hs h2 hr' fun k hk' => hk k (by simp at hk' ⊢; exact .inr hk'))
      · cases h
    · cases h

theorem pur1_sound {E : Env} {w : World} {a : Act} {st : St} (hs : Sim E w a st) {keys : List (Nat × Nat)} {v v' : V} {x : Value} (hr : Rep E v x) (h : pur1 st.mem v = some v') (hk : ∀ k ∈ ref1 v, k ∈ keys) : Rep (E.opn w keys).pure v' x := by
  unfold pur1 at h
  split at h
  · split at h
    · rename_i cs l hl
      simp only [Option.some.injEq] at h; subst h
      cases hr with
      | agg _ _ xs hlen hh =>
        have := purCells_sound hs (xs := xs.toList) ⟨by simpa using hlen, fun i c x hc hx => hh i c x hc (by simpa using hx)⟩ hl (by simpa [ref1] using hk)
        exact .agg _ _ _ (by simpa using this.1) fun i c x hc hx => this.2 i c x hc (by simpa using hx)
    · cases h
  · rename_i hne
    refine purCell_sound hs hr h fun k hk' => hk k ?_
    cases v <;> first | exact hk' | exact absurd rfl (hne _)
theorem purL_sound {E : Env} {w : World} {a : Act} {st : St} (hs : Sim E w a st) {keys : List (Nat × Nat)} : ∀ {vs vs' : List V} {xs : List Value}, RepL E vs xs → purL st.mem vs = some vs' → (∀ k ∈ vs.flatMap ref1, k ∈ keys) →
    RepL (E.opn w keys).pure vs' xs
  | [], vs', xs, hr, h, _ => by simp [purL] at h; subst h; rw [hr.of_nil]; exact .nil _
  | v :: vs, vs', xs, hr, h, hk => by
    obtain ⟨x, ys, rfl, h1, h2⟩ := hr.of_cons
    simp only [purL] at h
    split at h
    · rename_i c' hc
      split at h
      · rename_i r' hr'
        simp only [Option.some.injEq] at h; subst h
        exact .cons (pur1_sound hs h1 hc fun k hk' => hk k (by simp [hk'])) (purL_sound hs h2 hr' fun k hk' => hk k (by simp at hk' ⊢; exact .inr hk'))
      · cases h
    · cases h
theorem pur_sound {E : Env} {w : World} {a : Act} {st : St} (hs : Sim E w a st) {keys : List (Nat × Nat)} {v v' : V} {x : Value} (hr : Rep E v x) (h : pur st.mem v = some v') (hk : ∀ k ∈ refs v, k ∈ keys) : Rep (E.opn w keys).pure v' x := by
  unfold pur at h
  split at h
  · split at h
    · rename_i vs l hl
      simp only [Option.some.injEq] at h; subst h
      cases hr with
      | tup _ _ xs hlen hh =>
        have := purL_sound hs (xs := xs.toList) ⟨by simpa using hlen, fun i c x hc hx => hh i c x hc (by simpa using hx)⟩ hl (by simpa [refs] using hk)
        exact .tup _ _ _ (by simpa using this.1) fun i c x hc hx => this.2 i c x hc (by simpa using hx)
    · cases h
  · rename_i hne
    refine pur1_sound hs hr h fun k hk' => hk k ?_
    cases v <;> first | exact hk' | exact absurd rfl (hne _)

def FnOk (P : Program) (f : FuncId) (args : List V) (r : V) : Prop :=
  (∀ (xs : Array Value) (w : World), (callFunc f xs).run P w = .ok (.enter f xs) w) ∧
  ∀ (F : Addr → Option Value) (hg : Gl F) (w : World) (xs : Array Value), (∀ ad x, F ad = some x → w.cell? ad = some x) → RepL ⟨F, fun _ _ => none, hg⟩ args xs.toList →
    Calls P f xs w fun e w' => ∃ F' x, e = .returned x ∧ (∀ ad y, F ad = some y → F' ad = some y) ∧ (∀ ad y, F' ad = some y → w'.cell? ad = some y) ∧ (∀ ad y, F' ad = some y → F ad = some y ∨ w.heap.size ≤ ad.block) ∧
      (∃ hg', Rep ⟨F', fun _ _ => none, hg'⟩ r x) ∧ Below w.heap.size w w'

def flat1 : V → Bool
  | .undef => true
  | .sc _ => true
  | .agg cs => cs.all (fun c => match c with | .sc _ => true | _ => false)
  | _ => false
def flatV : V → Bool
  | .tup vs => vs.all flat1
  | v => flat1 v

theorem flat1_rep {E E' : Env} {v : V} {x : Value} (h : Rep E v x) (hf : flat1 v = true) : Rep E' v x := by
  cases h with
  | undef => exact .undef _ _
  | sc => exact .sc _ _
  | agg _ cs xs hl hh =>
    refine .agg _ _ _ hl fun i c x hc hx => ?_
    have h1 := hh i c x hc hx
    simp only [flat1,List.all_eq_true] at hf
    have := hf c (List.mem_of_getElem? hc)
    cases c <;> simp at this
    rw [rep_sc h1]; exact .sc _ _
  | _ => simp [flat1] at hf
theorem flatV_rep {E E' : Env} {v : V} {x : Value} (h : Rep E v x) (hf : flatV v = true) : Rep E' v x := by
  unfold flatV at hf
  split at hf
  · cases h with
    | tup _ vs xs hl hh =>
      refine .tup _ _ _ hl fun i c x hc hx => flat1_rep (hh i c x hc hx) ?_
      simp only [List.all_eq_true] at hf
      exact hf c (List.mem_of_getElem? hc)
  · exact flat1_rep h hf

def frz1 (mem : List Blk) (k : Nat × Nat) : List Blk := match mem[k.1]? with | some (.rows v e rs) => if v = k.2 then mem.set k.1 (.frz v e rs) else mem | _ => mem
def frzAll (mem : List Blk) (keys : List (Nat × Nat)) : List Blk := keys.foldl frz1 mem

def frzOf (keys : List (Nat × Nat)) (q : Nat) : Option Blk → Option Blk
  | some (.rows v e rs) => if (q, v) ∈ keys then some (.frz v e rs) else some (.rows v e rs)
  | B => B
theorem frz1_get (mem : List Blk) (k : Nat × Nat) (q : Nat) : (frz1 mem k)[q]? = frzOf [k] q mem[q]? := by
  obtain ⟨k, kv⟩ := k
  unfold frz1
  dsimp only
  split
  · rename_i v e rs hk
    split
    · rename_i hv
      subst hv
      rw [List.getElem?_set]
      by_cases hq : k = q
      · subst hq
        rw [hk]
        simp [frzOf, (List.getElem?_eq_some_iff.1 hk).1]
      · rw [if_neg hq]
        have hq' : ¬ q = k := fun e => hq e.symm
        cases hB : mem[q]? with
        | none => rfl
        | some B => cases B <;> simp [frzOf, hq']
    · rename_i hv
      cases hB : mem[q]? with
      | none => rfl
      | some B =>
        cases B <;> first | rfl | skip
        rename_i v' e' rs'
        simp only [frzOf,List.mem_singleton,Prod.mk.injEq]
        rw [if_neg]
        rintro ⟨rfl, rfl⟩
        rw [hk] at hB; cases hB; exact hv rfl
  · rename_i hk
    cases hB : mem[q]? with
    | none => rfl
    | some B =>
      cases B <;> first | rfl | skip
      rename_i v e rs
      simp only [frzOf,List.mem_singleton,Prod.mk.injEq]
      rw [if_neg]
      rintro ⟨rfl, rfl⟩
      exact hk _ _ _ hB
theorem frzAll_get (keys : List (Nat × Nat)) : ∀ (mem : List Blk) (q : Nat), (frzAll mem keys)[q]? = frzOf keys q mem[q]? := by
  induction keys with
  | nil => intro mem q; simp only [frzAll,List.foldl_nil]; cases hB : mem[q]? with | none => rfl | some B => cases B <;> simp [frzOf]
  | cons k r ih =>
    intro mem q
    show (frzAll (frz1 mem k) r)[q]? = _
    rw [ih, frz1_get]
    cases hB : mem[q]? with
    | none => rfl
    | some B =>
      cases B <;> first | rfl | skip
      rename_i v e rs
      simp only [frzOf,List.mem_cons,List.not_mem_nil,or_false]
      by_cases hq : (q, v) = k
      · rw [if_pos hq, if_pos (.inl hq)]
      · rw [if_neg hq]
        by_cases hr : (q, v) ∈ r
        · rw [if_pos (.inr hr)]; simp [hr]
        · rw [if_neg (fun h => h.elim hq hr)]; simp [hr]
theorem frzAll_length (keys : List (Nat × Nat)) : ∀ (mem : List Blk), (frzAll mem keys).length = mem.length := by
  induction keys with
  | nil => intro mem; rfl
  | cons k r ih =>
    intro mem
    show (frzAll (frz1 mem k) r).length = _
    rw [ih]; unfold frz1
    split
    · split <;> simp
    · rfl

def memAfter (mem : List Blk) (keys : List (Nat × Nat)) (r : V) : List Blk := if flatV r = true then mem else frzAll mem keys

theorem purL_keys {mem : List Blk} {k : Nat × Nat} : ∀ {us us' : List V}, purL mem us = some us' → k ∈ us.flatMap ref1 → ∃ B, mem[k.1]? = some B ∧ B.ver = k.2 ∧ ∃ e rs, B = .rows k.2 e rs ∨ B = .frz k.2 e rs := by
  have cellk : ∀ (cs cs' : List V), purCells mem cs = some cs' → k ∈ cs.flatMap refCell → ∃ B, mem[k.1]? = some B ∧ B.ver = k.2 ∧ ∃ e rs, B = .rows k.2 e rs ∨ B = .frz k.2 e rs := by
    intro cs
    induction cs with
    | nil => intro cs' _ hm; simp at hm
    | cons c r ih =>
      intro cs' hp hm
      simp only [purCells] at hp
      split at hp
      · rename_i c' hc
        split at hp
        · rename_i r' hr
          simp only [List.flatMap_cons,List.mem_append] at hm
          rcases hm with hm | hm
          · cases c <;> simp only [refCell,List.mem_singleton,List.not_mem_nil] at hm
            subst hm
            simp only [purCell] at hc
            split at hc
            · rename_i h
              split at hc
              · rename_i hv; obtain ⟨rfl, -⟩ := hv; exact ⟨_, h, rfl, _, _, .inl rfl⟩
              · cases hc
            · rename_i h
              split at hc
              · rename_i hv; obtain ⟨rfl, -⟩ := hv; exact ⟨_, h, rfl, _, _, .inr rfl⟩
              · cases hc
            · cases hc
          · exact ih _ hr hm
        · cases hp
      · cases hp
  intro us
  induction us with
  | nil => intro us' _ hm; simp at hm
  | cons c r ih =>
    intro us' hp hm
    simp only [purL] at hp
    split at hp
    · rename_i c' hc
      split at hp
      · rename_i r' hr
        simp only [List.flatMap_cons,List.mem_append] at hm
        rcases hm with hm | hm
        · unfold pur1 at hc
          split at hc
          · split at hc
            · rename_i l hl; exact cellk _ _ hl hm
            · cases hc
          · rename_i hne
            refine cellk [c] [c'] (by simp [purCells, hc]) ?_
            simp only [List.flatMap_cons,List.flatMap_nil,List.append_nil]
            cases c <;> first | exact hm | exact absurd rfl (hne _)
        · exact ih hr hm
      · cases hp
    · cases hp

theorem opn_core {E : Env} {w w' : World} {a : Act} {st : St} (hs : Sim E w a st) {vs vs' : List V} (hp : purL st.mem vs = some vs') {F' : Addr → Option Value} (hF1 : ∀ ad y, (E.opn w (vs.flatMap ref1)).F ad = some y → F' ad = some y)
    (hF2 : ∀ ad y, F' ad = some y → w'.cell? ad = some y) (hF3 : ∀ ad y, F' ad = some y → (E.opn w (vs.flatMap ref1)).F ad = some y ∨ w.heap.size ≤ ad.block) (hb : Below w.heap.size w w') :
    ∃ hg, Evo E w ⟨F', E.blk, hg⟩ w' ∧ Sim ⟨F', E.blk, hg⟩ w' a { st with mem := frzAll st.mem (vs.flatMap ref1) } := by
  have hg : Gl F' := E.gl.mono fun ad x h => hF1 _ _ ((Env.le_opn E w _).F _ _ h)
  refine ⟨hg, ?_⟩
  have hle : E.le ⟨F', E.blk, hg⟩ := ⟨fun ad y hy => hF1 _ _ ((Env.le_opn E w _).F _ _ hy), fun _ _ _ h => h⟩
  have hopn : (E.opn w (vs.flatMap ref1)).le ⟨F', E.blk, hg⟩ := ⟨hF1, fun _ _ _ h => h⟩
  -- no cell of F' lies in a held block that was not handed over
  have clean : ∀ k B, st.mem[k]? = some B → B.held = true → (∀ v e rs, B ≠ .frz v e rs) → (∀ v e rs, B = .rows v e rs → (k, v) ∉ vs.flatMap ref1) → ∀ g e c o, E.blk k B.ver = some (g, e, c) → E.F ⟨g, o, none⟩ = none → F' ⟨g, o, none⟩ = none := by
    intro k B hB hh hnf hnot g e c o hbk hn
    cases hy : F' ⟨g, o, none⟩ with
    | none => rfl
    | some y =>
      exfalso
      rcases hF3 _ y hy with h | h
      · rcases Env.opn_new h with h | ⟨k', hk', e', c', h⟩
        · rw [hn] at h; cases h
        · obtain ⟨B', hB', hv', e1, rs1, hB1⟩ := purL_keys hp hk'
          have hh' : B'.held = true := by rcases hB1 with rfl | rfl <;> rfl
          rw [← hv'] at h
          have hkk := hs.apart _ _ _ _ _ _ _ _ _ hbk h
          subst hkk
          rw [hB] at hB'; cases hB'
          rcases hB1 with rfl | rfl
          · exact hnot _ _ _ rfl (by rw [show (k'.1, k'.2) = k' from rfl]; exact hk')
          · exact hnf _ _ _ rfl
      · have := hs.lt _ _ _ _ _ hbk; simp at h; omega
  refine ⟨⟨hle, fun k v g e c h => .inl ⟨k, v, e, c, h⟩, fun ad y hy => ?_, hb.os, hb.tape, hb.output, hb.size, fun b hlt _ => hb.block b hlt⟩, ?_⟩
  · rcases hF3 ad y hy with h | h
    · rcases Env.opn_new h with h | ⟨k, -, e, c, h⟩
      · exact .inl h
      · exact .inr (.inr ⟨k.1, k.2, e, c, h⟩)
    · exact .inr (.inl h)
  · have old : ∀ (q : Nat) (B : Blk), (frzAll st.mem (vs.flatMap ref1))[q]? = some B → ∃ B', st.mem[q]? = some B' ∧ B.ver = B'.ver ∧ B.held = B'.held ∧ (B = B' ∧ (∀ v e rs, B = .rows v e rs → (q, v) ∉ vs.flatMap ref1) ∨ ∃ v e rs, B' = .rows v e rs ∧ B = .frz v e rs ∧ (q, v) ∈ vs.flatMap ref1) := fun q B hq => by
      rw [frzAll_get] at hq
      cases hB0 : st.mem[q]? with
      | none => rw [hB0] at hq; simp [frzOf] at hq
      | some B0 =>
        rw [hB0] at hq
        refine ⟨B0, rfl, ?_⟩
        cases B0 with
        | rows v e rs =>
          simp only [frzOf] at hq
          split at hq
          · rename_i hin; cases hq; exact ⟨rfl, rfl, .inr ⟨v, e, rs, rfl, rfl, hin⟩⟩
          · rename_i hin; cases hq; exact ⟨rfl, rfl, .inl ⟨rfl, fun v' e' rs' h => by cases h; exact hin⟩⟩
        | _ => cases hq; exact ⟨rfl, rfl, .inl ⟨rfl, fun v' e' rs' h => by cases h⟩⟩
    refine ⟨hF2, fun k v g e c h => Nat.lt_of_lt_of_le (hs.lt _ _ _ _ _ h) hb.size, fun k B hk => ?_, fun k hk v => hs.top k (by simpa [frzAll_length] using hk) v, fun k B hk v hv => ?_, hs.apart, hs.fr.mono hle⟩
    · obtain ⟨B', hB', -, -, hcase⟩ := old k B hk
      rcases hcase with ⟨rfl, hnot⟩ | ⟨v, e, rs, rfl, rfl, hin⟩
      · have hmono := (hs.mem k B hB').mono (E' := ⟨F', E.blk, hg⟩) (w' := w') hle (fun _ h => h) (fun g e c h => hb.block _ (hs.lt _ _ _ _ _ h))
        cases hBc : B with
        | frz v e rs =>
          subst hBc
          rcases hs.mem k _ hB' with h9 | ⟨g, c, hb1, hl, hr⟩
          · exact .inl h9
          refine .inr ⟨g, c, hb1, hl, fun i row hi => ?_⟩
          obtain ⟨h5, h6⟩ := hr i row hi
          exact ⟨h5, fun j cc hj => let ⟨x, hx, h7, h8⟩ := h6 j cc hj; ⟨x, hle.F _ _ hx, h7, h8.mono (Env.le_pure hle)⟩⟩
        | hole => subst hBc; exact hs.mem k _ hB'
        | dead => trivial
        | loop s pend fr params assign body => subst hBc; exact hmono (clean k _ hB' rfl (fun _ _ _ h => by cases h) (fun _ _ _ h => by cases h))
        | box cs => subst hBc; exact hmono (clean k _ hB' rfl (fun _ _ _ h => by cases h) (fun _ _ _ h => by cases h))
        | map kvs clock => subst hBc; exact hmono (clean k _ hB' rfl (fun _ _ _ h => by cases h) (fun _ _ _ h => by cases h))
        | miter m since seen last => subst hBc; exact hmono (clean k _ hB' rfl (fun _ _ _ h => by cases h) (fun _ _ _ h => by cases h))
        | siter s pos => subst hBc; exact hmono (clean k _ hB' rfl (fun _ _ _ h => by cases h) (fun _ _ _ h => by cases h))
        | niter => subst hBc; exact hmono (clean k _ hB' rfl (fun _ _ _ h => by cases h) (fun _ _ _ h => by cases h))
        | rows v e rs => subst hBc; exact hmono (clean k _ hB' rfl (fun _ _ _ h => by cases h) hnot)
      · rcases hs.mem k _ hB' with h9 | ⟨g, T, cur, c, hb1, -⟩
        · exact .inl h9
        · obtain ⟨-, hl, hr⟩ := rows_opn hs hin hb1 hB' (.inl rfl)
          refine .inr ⟨g, c, hb1, hl, fun i row hi => ?_⟩
          obtain ⟨h5, h6⟩ := hr i row hi
          exact ⟨h5, fun j cc hj => let ⟨x, hx, h7, h8⟩ := h6 j cc hj; ⟨x, hopn.F _ _ hx, h7, h8.mono (Env.le_pure hle)⟩⟩
    · obtain ⟨B', hB', hv1, -, -⟩ := old k B hk
      exact hs.ver k B' hB' v (by omega)

theorem Sim.freeze {E : Env} {w : World} {a : Act} {st : St} (hs : Sim E w a st) {vs vs' : List V} (hp : purL st.mem vs = some vs') :
    ∃ E', Sim E' w a { st with mem := frzAll st.mem (vs.flatMap ref1) } ∧ Evo E w E' w ∧ ∀ xs, RepL E vs xs → RepL E' vs' xs := by
  obtain ⟨hg, h1, h2⟩ := opn_core hs hp (F' := (E.opn w (vs.flatMap ref1)).F) (fun _ _ h => h) (fun ad y h => Env.opn_F hs.F h) (fun _ _ h => .inl h) (Below.refl _ w)
  exact ⟨_, h2, h1, fun xs hx => (purL_sound hs (keys := vs.flatMap ref1) hx hp fun k hk => hk).mono ⟨fun _ _ h => h, fun _ _ _ h => by cases h⟩⟩

theorem call_pure {P : Program} {f : FuncId} {E : Env} {w : World} {a : Act} {st : St} (hs : Sim E w a st) {vs vs' : List V} {r : V} {xs : Array Value} (hx : RepL E vs xs.toList) (hp : purL st.mem vs = some vs') (hf : FnOk P f vs' r) :
    Calls P f xs w fun e w' => ∃ E' x, e = .returned x ∧ Evo E w E' w' ∧ Sim E' w' a { st with mem := memAfter st.mem (vs.flatMap ref1) r } ∧ Rep E' r x := by
  have h1 := purL_sound hs (keys := vs.flatMap ref1) hx hp fun k hk => hk
  refine (hf.2 (E.opn w (vs.flatMap ref1)).F (E.opn w (vs.flatMap ref1)).gl w xs (fun ad x h => Env.opn_F hs.F h) h1).mono ?_
  rintro e w' ⟨F', x, rfl, hF1, hF2, hF3, ⟨hg', hrep⟩, hb⟩
  unfold memAfter
  split
  · rename_i hflat
    refine ⟨E, x, rfl, ⟨E.le_refl, fun k v g e c h => .inl ⟨k, v, e, c, h⟩, fun _ _ h => .inl h, hb.os, hb.tape, hb.output, hb.size, fun b hlt _ => hb.block b hlt⟩, ?_, flatV_rep hrep hflat⟩
    refine ⟨fun ad y hy => ?_, fun k v g e c h => Nat.lt_of_lt_of_le (hs.lt _ _ _ _ _ h) hb.size, fun k B hk => ?_, hs.top, hs.ver, hs.apart, hs.fr⟩
    · rw [hb.cell (World.block_lt_of_cell? w ad (hs.F ad y hy))]; exact hs.F ad y hy
    · exact (hs.mem k B hk).mono E.le_refl (fun _ h => h) (fun g e c h => hb.block _ (hs.lt _ _ _ _ _ h)) fun _ _ _ _ _ h => h
  · obtain ⟨hg, e1, s1⟩ := opn_core hs hp hF1 hF2 hF3 hb
    exact ⟨_, x, rfl, e1, s1, hrep.mono ⟨fun _ _ h => h, fun _ _ _ h => by simp at h⟩⟩
end Go.Eng
end
