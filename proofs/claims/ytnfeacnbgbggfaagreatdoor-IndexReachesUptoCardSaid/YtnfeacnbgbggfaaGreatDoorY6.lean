/-
  MAPS with keys of one kind: what reading and writing come to, as lists of keys and values.
  TABLES: the order of a good index, its groups by path (plain).
  TABLES: the maps' types, and what freezing and changing keys make of the tables.
  CONTRACTS: the table of an index.
  CONTRACTS: clones.
  CONTRACTS: Find.
  CONTRACTS: Read.
  PLAIN LAWS of manifests: what is written is read, what is read is written.
  CONTRACTS: equal releases.
  REACHING: what the loop of Reachable keeps (plain).
  CONTRACTS: what Reachable needs.
  CONTRACTS: Reachable.
  CONTRACTS: few releases; a selection that is contained.
  THE LAW IndexReturns.
  CONTRACTS: Available.
  CONTRACTS: the releases of a selection.
  CONTRACTS: requirements that a selection breaks.
  CONTRACTS: Solves.
  AWAKE: the example of the chapter.
  AWAKE.
  CLOSING: what is common to the laws of chapter 32.
-/
import Derived.Test.YtnfeacnbgbggfaaGreatDoorY5
import Derived.WalkKit
import Derived.ProofKit
import Derived.OpenShut
import Derived.WideKeyArgs
import Derived.Deep.DeepHandedRow
set_option linter.all false
section
namespace Go.Proofs.YtnfeacnbgbggfaaGreatDoor
open Go.Eng
variable [aG]
section
variable {α : Type} [DecidableEq α]
def bL (kv : α → Value) : Nat → List (α × V) → List (Value × Nat × V)
 | _, [] => []
 | n, (k, v) :: r => (kv k, n, v) :: bL kv (n + 1) r
theorem tr (kv : α → Value) : ∀ (g : List (α × V)) (n : Nat), (bL kv n g).length = g.length
 | [], _ => rfl
 | _ :: r, n => by simp [bL, tr kv r (n + 1)]
theorem zj (kv : α → Value) : ∀ (g : List (α × V)) (n : Nat), (bL kv n g).map (fun e => e.2.2) = g.map (·.2)
 | [], _ => rfl
 | _ :: r, n => by simp [bL, zj kv r (n + 1)]
theorem Dc (kv : α → Value) : ∀ (g : List (α × V)) (n i : Nat), (bL kv n g)[i]? = g[i]?.map fun e => (kv e.1, n + i, e.2)
 | [], _, _ => rfl
 | e :: r, n, 0 => rfl
 | e :: r, n, i + 1 => by
  show (bL kv (n + 1) r)[i]? = _
  rw [Dc kv r (n + 1) i, show n + 1 + i = n + (i + 1) by omega]; rfl
theorem zl (kv : α → Value) (k : α) (v : V) : ∀ (g : List (α × V)) (n : Nat), bL kv n (g ++ [(k, v)]) = bL kv n g ++ [(kv k, n + g.length, v)]
 | [], _ => rfl
 | e :: r, n => by
  show (kv e.1, n, e.2) :: bL kv (n + 1) (r ++ [(k, v)]) = (kv e.1, n, e.2) :: (bL kv (n + 1) r ++ _)
  rw [zl kv k v r (n + 1), List.length_cons, show n + 1 + r.length = n + (r.length + 1) by omega]
theorem Dd (kv : α → Value) (k : α) (v : V) : ∀ (g : List (α × V)) (n i : Nat), i < g.length → bL kv n (g.set i (k, v)) = (bL kv n g).set i (kv k, n + i, v)
 | [], _, _, h => by simp at h
 | e :: r, n, 0, _ => rfl
 | e :: r, n, i + 1, h => by
  show (kv e.1, n, e.2) :: bL kv (n + 1) (r.set i (k, v)) = (kv e.1, n, e.2) :: (bL kv (n + 1) r).set i _
  rw [Dd kv k v r (n + 1) i (by simpa using h), show n + 1 + i = n + (i + 1) by omega]
theorem kM (kv : α → Value) (p : V → Bool) : ∀ (g : List (α × V)) (n : Nat), ((bL kv n g).all fun e => p e.2.2) = g.all fun e => p e.2
 | [], _ => rfl
 | _ :: r, n => by simp [bL, kM kv p r (n + 1)]
theorem De (kv : α → Value) : ∀ (g : List (α × V)) (vs : List V) (n : Nat), sW (bL kv n g) vs = bL kv n (List.zipWith (fun e v => (e.1, v)) g vs)
 | [], _, _ => rfl
 | e :: r, [], _ => rfl
 | e :: r, v :: vs, n => by
  show _ :: sW (bL kv (n + 1) r) vs = _
  rw [De kv r vs (n + 1)]; rfl
def dF (a : α) : List (α × V) → Nat → Option (Nat × V)
 | [], _ => none
 | e :: r, i => if e.1 = a then some (i, e.2) else dF a r (i + 1)
def getM (a : α) : List (α × V) → Option V
 | [] => none
 | e :: r => if e.1 = a then some e.2 else getM a r
theorem qc (a : α) : ∀ (g : List (α × V)) (i : Nat), (dF a g i).map (·.2) = getM a g
 | [], _ => rfl
 | e :: r, i => by
  unfold dF getM
  split
  ·rfl
  ·exact qc a r (i + 1)
theorem zm {a : α} : ∀ {g : List (α × V)} {n i : Nat} {v : V}, dF a g n = some (i, v) → n ≤ i ∧ g[i - n]? = some (a, v)
 | [], _, _, _, h => by simp [dF] at h
 | e :: r, n, i, v, h => by
  unfold dF at h
  split at h
  ·rename_i he; cases h; subst he; simp
  ·obtain ⟨h1, h2⟩ := zm h
   refine ⟨by omega, ?_⟩
   rw [show i - n = (i - (n + 1)) + 1 by omega]; simpa using h2
structure KT (P : Program) (T kt et : TypeId) (kv : α → Value) (ky : α → V) : Prop where
 map : cY P T = some (kt, et)
 val : ∀ a, bC (ky a) = some (kv a)
 ok : ∀ a, mX P kt (kv a) = true
 bits : ∀ a, Instr.sameBits 10000 (kv a) (kv a) = true
 find : ∀ (a : α) (g : List (α × V)), kR P kt (kv a) (bL kv 0 g) = some (dF a g 0)
theorem KT.now {P : Program} {kt : TypeId} {kv : α → Value} {d : TypeDesc} (hd : P.underlying kt = some d) (h : ∀ a b, Instr.sameNow d (kv a) (kv b) = some (decide (b = a))) (a : α) (g : List (α × V)) : kR P kt (kv a) (bL kv 0 g) = some (dF a g 0) := by
 have key : ∀ (g : List (α × V)) (n i : Nat), dW d (kv a) (bL kv n g) i = some (dF a g i) := by
  intro g
  induction g with
  | nil => intro n i; rfl
  | cons e r ih =>
   intro n i
   obtain ⟨k, v⟩ := e
   simp only [bL,dW,dF,h]
   by_cases hk : k = a
   ·simp [hk]
   ·rw [decide_eq_false hk, if_neg hk]; exact ih _ _
 unfold kR
 rw [hd]
 dsimp only
 rw [key]
theorem KT.ask {P : Program} {kt : TypeId} {kv : α → Value} {d : TypeDesc} (hd : P.underlying kt = some d) (h0 : ∀ a b, Instr.sameNow d (kv a) (kv b) = none) (h : ∀ a b, aH P (Op.equal kt (kv a) (kv b)) = some (decide (a = b))) (a : α) (g : List (α × V)) : kR P kt (kv a) (bL kv 0 g) = some (dF a g 0) := by
 have key : ∀ (g : List (α × V)) (n i : Nat), iy P kt (kv a) (bL kv n g) i = some (dF a g i) := by
  intro g
  induction g with
  | nil => intro n i; rfl
  | cons e r ih =>
   intro n i
   obtain ⟨k, v⟩ := e
   simp only [bL,iy,dF,h]
   by_cases hk : k = a
   ·simp [hk]
   ·rw [decide_eq_false (fun e => hk e.symm), if_neg hk]; exact ih _ _
 unfold kR
 rw [hd]
 dsimp only
 cases g with
 | nil => rfl
 | cons e r =>
  have : dW d (kv a) (bL kv 0 (e :: r)) 0 = none := by
   obtain ⟨k, v⟩ := e
   simp only [bL,dW,h0]
  rw [this]
  dsimp only
  exact key _ _ _
section
variable {P : Program} {T kt et : TypeId} {kv : α → Value} {ky : α → V}
def k9 (a : α) (v : V) (g : List (α × V)) : List (α × V) := match dF a g 0 with
 | none => g ++ [(a, v)]
 | some (i, _) => g.set i (a, v)
theorem KT.put (h : KT P T kt et kv ky) (a : α) (v : V) (g : List (α × V)) {mem : List ay} {b : Nat} (hm : mem[b]? = some (.map (bL kv 0 g) g.length)) :
  cp P mem T (.mp b) (ky a) v = some (mem.set b (.map (bL kv 0 (k9 a v g)) (k9 a v g).length)) := by
 unfold cp
 rw [h.map]
 dsimp only
 rw [h.val]
 dsimp only
 rw [if_pos (h.ok a), hm]
 dsimp only
 unfold insertAt
 rw [h.find]
 unfold k9
 cases hf : dF a g 0 with
 | none =>
  dsimp only
  rw [zl, Nat.zero_add, List.length_append, List.length_singleton]
 | some p =>
  obtain ⟨i, w⟩ := p
  obtain ⟨-, h2⟩ := zm hf
  rw [Nat.sub_zero] at h2
  dsimp only
  rw [Dc, h2]
  dsimp only [Option.map_some]
  rw [if_pos (h.bits a)]
  dsimp only
  rw [Dd _ _ _ _ _ _ (List.getElem?_eq_some_iff.1 h2).1, List.length_set]
theorem KT.get (h : KT P T kt et kv ky) (a : α) (g : List (α × V)) {mem : List ay} {b : Nat} (hm : mem[b]? = some (.map (bL kv 0 g) g.length)) {z : V} (hz : zeroV P et = some z) (ok : Bool) :
  di P mem T (.mp b) (ky a) ok = some (Qw ok (getM a g).isSome ((getM a g).getD z)) := by
 unfold di
 rw [h.map]
 dsimp only
 rw [h.val]
 dsimp only
 rw [if_pos (h.ok a)]
 unfold oh
 dsimp only
 rw [hm]
 dsimp only
 rw [h.find, ← qc a g 0]
 cases hf : dF a g 0 with
 | none => dsimp only; rw [hz]; rfl
 | some p => rfl
end
end
end Go.Proofs.YtnfeacnbgbggfaaGreatDoor
end

section
namespace Go.Proofs.YtnfeacnbgbggfaaGreatDoor
open Go.Eng
variable [aG]
instance lawfulBA : LawfulBEq ByteArray where
 eq_of_beq h := (ic _ _).1 h
 rfl := (ic _ _).2 rfl
def Df (a b : dr) : Prop := a.mj < b.mj ∨ (a.mj = b.mj ∧ (a.mn < b.mn ∨ (a.mn = b.mn ∧ a.pt < b.pt)))
def jT (a b : Rl) : Prop := a.path.data.toList < b.path.data.toList ∨ (a.path = b.path ∧ Df a.aC b.aC)
theorem jT.trans {a b c : Rl} (h1 : jT a b) (h2 : jT b c) : jT a c := by
 rcases h1 with h1 | ⟨h1, FI⟩ <;> rcases h2 with h2 | ⟨h2, Q0⟩
 ·exact .inl (List.lt_trans h1 h2)
 ·exact .inl (h2 ▸ h1)
 ·exact .inl (h1 ▸ h2)
 ·refine .inr ⟨h1.trans h2, ?_⟩
  unfold Df at *
  omega
theorem nP {a b : ByteArray} (h : a.data.toList < b.data.toList) : a ≠ b := fun e => by
 subst e; exact absurd h (List.lt_irrefl _)
theorem PC (a b : ByteArray) : a = b ∨ a.data.toList < b.data.toList ∨ b.data.toList < a.data.toList := by
 by_cases h : a = b
 ·exact .inl h
 ·rcases Decidable.em (a.data.toList < b.data.toList) with h1 | h1
  ·exact .inr (.inl h1)
  ·refine .inr (.inr ?_)
   have h2 : b.data.toList ≤ a.data.toList := h1
   rcases List.le_iff_lt_or_eq.1 h2 with h3 | h3
   ·exact h3
   ·exact absurd (ByteArray.ext (Array.toList_inj.1 h3)).symm h
theorem Lc {a b : Rl} (h1 : ¬ 0 < a.cmp b) (h2 : a.key ≠ b.key) : jT a b := by
 unfold Rl.cmp kG at h1
 rw [nH] at h1
 rcases PC a.path b.path with he | hl | hg
 ·right
  refine ⟨he, ?_⟩
  rw [he] at h1
  have hn : ¬ b.path.data.toList < b.path.data.toList := List.lt_irrefl _
  simp only [decide_eq_true_eq,hn,if_false,if_true,ne_eq,not_true_eq_false] at h1
  have hv : a.aC ≠ b.aC := fun e => h2 (dD.ext' he e)
  have qY : ¬ (a.aC.mj = b.aC.mj ∧ a.aC.mn = b.aC.mn ∧ a.aC.pt = b.aC.pt) := fun ⟨p, q, r⟩ => hv (dr.ext' p q r)
  unfold dr.cmp ft at h1
  unfold Df
  by_cases q1 : a.aC.mj = b.aC.mj
  ·by_cases q2 : a.aC.mn = b.aC.mn
   ·simp [q1, q2] at h1
    have q3 : a.aC.pt ≠ b.aC.pt := fun e => qY ⟨q1, q2, e⟩
    split at h1 <;> (try split at h1) <;> omega
   ·simp [q1] at h1
    split at h1 <;> (try split at h1) <;> omega
  ·split at h1 <;> (try split at h1) <;> omega
 ·exact .inl hl
 ·have bO : a.path ≠ b.path := fun e => nP hg e.symm
  have C5 : ¬ a.path.data.toList < b.path.data.toList := fun h => absurd (List.lt_trans h hg) (List.lt_irrefl _)
  simp [C5, bO] at h1
theorem ni : ∀ (l : List Rl) (p : Rl), c8 (some p) l = 0 → (p :: l).Pairwise jT
 | [], p, _ => List.pairwise_singleton _ _
 | r :: t, p, h => by
  rw [eI] at h
  by_cases h0 : gr r = 0
  ·rw [if_neg (by simp [h0])] at h
   dsimp only at h
   split at h
   ·omega
   ·rename_i hk
    split at h
    ·omega
    ·rename_i hc
     have ih := ni t r h
     have Q1 := Lc hc hk
     rw [List.pairwise_cons] at ih
     refine List.Pairwise.cons (fun x hx => ?_) (List.pairwise_cons.2 ih)
     rcases List.mem_cons.1 hx with rfl | hx
     ·exact Q1
     ·exact Q1.trans (ih.1 x hx)
  ·rw [if_pos h0] at h; exact absurd h h0
theorem vl {l : List Rl} (h : dK l = 0) : l.Pairwise jT := by
 unfold dK at h
 split at h
 ·omega
 ·cases l with
  | nil => exact List.Pairwise.nil
  | cons r t =>
   rw [eI] at h
   by_cases h0 : gr r = 0
   ·rw [if_neg (by simp [h0])] at h
    exact ni t r h
   ·rw [if_pos h0] at h; exact absurd h h0
theorem PD {l : List Rl} (h : dK l = 0) : l.length ≤ 256 := by
 unfold dK at h
 split at h
 ·omega
 ·omega
theorem jU {a b : Rl} (h : jT a b) : a.key ≠ b.key := fun e => by
 have e1 : a.path = b.path := congrArg dD.path e
 have e2 : a.aC = b.aC := congrArg dD.aC e
 rcases h with h | ⟨-, h⟩
 ·exact nP h e1
 ·rw [e2] at h; unfold Df at h; omega
def BJ (ps : List ByteArray) (p : ByteArray) : List ByteArray := if p ∈ ps then ps else ps ++ [p]
def aO (l : List Rl) : List ByteArray := l.foldl (fun ps r => BJ ps r.path) []
theorem hY (l : List Rl) (r : Rl) : aO (l ++ [r]) = BJ (aO l) r.path := by unfold aO; rw [List.foldl_append]; rfl
theorem HV {ps : List ByteArray} {p q : ByteArray} : q ∈ BJ ps p ↔ q ∈ ps ∨ q = p := by
 unfold BJ
 split
 ·exact ⟨.inl, fun h => h.elim id fun e => e ▸ ‹_›⟩
 ·simp
theorem lV {α : Type} {p : List α → Prop} (h0 : p []) (hs : ∀ l x, p l → p (l ++ [x])) (l : List α) : p l := by
 have : ∀ m : List α, p m.reverse := fun m => by
  induction m with
  | nil => exact h0
  | cons x r ih => rw [List.reverse_cons]; exact hs _ _ ih
 have h := this l.reverse
 rwa [List.reverse_reverse] at h
theorem lW {l : List Rl} {p : ByteArray} : p ∈ aO l ↔ ∃ r ∈ l, r.path = p := by
 induction l using lV with
 | h0 => simp [aO]
 | hs l x ih =>
  rw [hY, HV, ih]
  constructor
  ·rintro (⟨r, hr, h⟩ | rfl)
   ·exact ⟨r, List.mem_append_left _ hr, h⟩
   ·exact ⟨x, by simp, rfl⟩
  ·rintro ⟨r, hr, h⟩
   rcases List.mem_append.1 hr with hr | hr
   ·exact .inl ⟨r, hr, h⟩
   ·rw [List.mem_singleton] at hr; subst hr; exact .inr h.symm
theorem ux (l : List Rl) : (aO l).Nodup := by
 induction l using lV with
 | h0 => exact List.nodup_nil
 | hs l x ih =>
  rw [hY]
  unfold BJ
  split
  ·exact ih
  ·rename_i h
   rw [List.nodup_append]
   exact ⟨ih, by simp, fun a ha b hb => by rw [List.mem_singleton] at hb; subst hb; exact fun e => h (e ▸ ha)⟩
def bS (l : List Rl) (p : ByteArray) : List Rl := l.filter fun r => decide (r.path = p)
theorem zn (l : List Rl) (r : Rl) (p : ByteArray) : bS (l ++ [r]) p = if r.path = p then bS l p ++ [r] else bS l p := by
 unfold bS
 rw [List.filter_append]
 by_cases h : r.path = p <;> simp [h]
def bW (l : List Rl) (p : ByteArray) : List V := (bS l p).map ag
theorem nj {l : List Rl} {r : Rl} {p : ByteArray} (h : r.path ≠ p) : bW (l ++ [r]) p = bW l p := by unfold bW; rw [zn, if_neg h]
theorem tu (l : List Rl) (r : Rl) : bW (l ++ [r]) r.path = bW l r.path ++ [ag r] := by unfold bW; rw [zn, if_pos rfl, List.map_append]; rfl
theorem kN {l : List Rl} {p : ByteArray} (h : p ∉ aO l) : bW l p = [] := by
 unfold bW bS
 rw [List.filter_eq_nil_iff.2, List.map_nil]
 intro r hr
 simp only [decide_eq_true_eq]
 exact fun e => h (lW.2 ⟨r, hr, e⟩)
def gP (l : List Rl) : List (ByteArray × V) := (aO l).map fun p => (p, .slice (bW l p))
def gL (q : ByteArray) (x : V) (l : List Rl) : List (ByteArray × V) := (aO l).map fun p => (p, if p = q then x else .slice (bW l p))
theorem mD (f : ByteArray → V) (q : ByteArray) : ∀ (ps : List ByteArray) (n : Nat), dF q (ps.map fun p => (p, f p)) n = if q ∈ ps then some (n + ps.idxOf q, f q) else none
 | [], _ => by simp [dF]
 | p :: r, n => by
  simp only [List.map_cons,dF]
  by_cases h : p = q
  ·subst h; simp
  ·rw [if_neg h, mD f q r (n + 1)]
   by_cases h2 : q ∈ r
   ·rw [if_pos h2, if_pos (List.mem_cons_of_mem _ h2), List.idxOf_cons, show (p == q) = false by simpa using h]
    simp only [cond_false]
    rw [show n + 1 + r.idxOf q = n + (r.idxOf q + 1) by omega]
   ·rw [if_neg h2, if_neg (by simp [h2]; exact fun e => h e.symm)]
theorem tv (f : ByteArray → V) (q : ByteArray) (ps : List ByteArray) : getM q (ps.map fun p => (p, f p)) = if q ∈ ps then some (f q) else none := by
 rw [← qc q _ 0, mD]
 split <;> rfl
theorem zo (f : ByteArray → V) {q : ByteArray} {ps : List ByteArray} (hn : ps.Nodup) (h : q ∈ ps) (v : V) : k9 q v (ps.map fun p => (p, f p)) = ps.map fun p => (p, if p = q then v else f p) := by
 unfold k9
 rw [mD, if_pos h]
 dsimp only
 apply List.ext_getElem?
 intro i
 rw [List.getElem?_set, List.getElem?_map, List.getElem?_map, Nat.zero_add, List.length_map]
 by_cases hi : ps.idxOf q = i
 ·rw [if_pos hi]
  have aB := List.idxOf_lt_length_of_mem h
  have hq : ps[i]? = some q := by rw [← hi, List.getElem?_eq_getElem aB, List.getElem_idxOf aB]
  rw [if_pos (by omega), hq]; simp
 ·rw [if_neg hi]
  cases hp : ps[i]? with
  | none => rfl
  | some p =>
   have : p ≠ q := fun e => by
    subst e
    have h1 := (List.getElem?_eq_some_iff.1 hp)
    obtain ⟨h2, h3⟩ := h1
    have := hn.idxOf_getElem i h2
    rw [h3] at this
    exact hi this
   simp [this]
theorem w5 (f : ByteArray → V) {q : ByteArray} {ps : List ByteArray} (h : q ∉ ps) (v : V) : k9 q v (ps.map fun p => (p, f p)) = ps.map (fun p => (p, f p)) ++ [(q, v)] := by
 unfold k9
 rw [mD, if_neg h]
theorem Ld {q : ByteArray} {l : List Rl} {r : Rl} (hq : r.path = q) (hl : q ∈ aO l) (x y : V) : k9 q y (gL q x l) = gL q y (l ++ [r]) := by
 unfold gL
 rw [zo _ (ux l) hl, hY, hq, show BJ (aO l) q = aO l from if_pos hl]
 refine List.map_congr_left fun p _ => ?_
 by_cases hp : p = q
 ·simp [hp]
 ·rw [if_neg hp, if_neg hp, if_neg hp, nj (fun e => hp (e.symm.trans hq))]
theorem PE {l : List Rl} {r : Rl} (h : r.path ∉ aO l) (y : V) : k9 r.path y (gP l) = gL r.path y (l ++ [r]) := by
 unfold gP gL
 rw [w5 _ h, hY, show BJ (aO l) r.path = aO l ++ [r.path] from if_neg h, List.map_append]
 congr 1
 ·refine List.map_congr_left fun p hp => ?_
  have : p ≠ r.path := fun e => h (e ▸ hp)
  rw [if_neg this, nj (fun e => this e.symm)]
 ·simp
theorem PF {q : ByteArray} {l : List Rl} (hl : q ∈ aO l) (x : V) : getM q (gL q x l) = some x := by
 unfold gL
 rw [tv, if_pos hl, if_pos rfl]
theorem zp {q : ByteArray} {l : List Rl} (hl : q ∉ aO l) : getM q (gP l) = none := by
 unfold gP
 rw [tv, if_neg hl]
theorem HW {l : List Rl} {p r : Rl} (h : (l ++ [p]).Pairwise jT) (Q1 : jT p r) (bO : p.path ≠ r.path) : r.path ∉ aO (l ++ [p]) := fun hm => by
 obtain ⟨x, hx, he⟩ := lW.1 hm
 rcases Q1 with Q1 | ⟨e, -⟩
 ·rcases List.mem_append.1 hx with hx | hx
  ·have h1 := (List.pairwise_append.1 h).2.2 x hx p (by simp)
   rcases h1 with h1 | ⟨e, -⟩
   ·exact nP (List.lt_trans h1 Q1) he
   ·exact bO (e ▸ he)
  ·rw [List.mem_singleton] at hx; subst hx; exact bO he
 ·exact bO e
def gK (l : List Rl) : List (dD × V) := l.map fun r => (r.key, ag r)
theorem nQ {α : Type} [DecidableEq α] {a : α} : ∀ {g : List (α × V)} {n : Nat}, (∀ e ∈ g, e.1 ≠ a) → dF a g n = none
 | [], _, _ => rfl
 | e :: r, n, h => by
  unfold dF
  rw [if_neg (h e (by simp))]
  exact nQ fun e' he => h e' (by simp [he])
theorem Le {l : List Rl} {r : Rl} (h : ∀ x ∈ l, x.key ≠ r.key) : k9 r.key (ag r) (gK l) = gK (l ++ [r]) := by
 unfold k9 gK
 rw [nQ (fun e he => by obtain ⟨x, hx, rfl⟩ := List.mem_map.1 he; exact h x hx), List.map_append]
 rfl
end Go.Proofs.YtnfeacnbgbggfaaGreatDoor
end

section
namespace Go.Proofs.YtnfeacnbgbggfaaGreatDoor
open Go.Eng
variable [aG]
set_option maxHeartbeats 4000000
set_option maxRecDepth 100000
def mR (s : dD) : V := .agg [str s.path, num s.aC.mj, num s.aC.mn, num s.aC.pt]
theorem EY (u : dD) : mX Tryz.prog 54 (aM u) = true := by
 obtain ⟨a, b, c, d⟩ := u
 kernel_rfl
theorem HX (u : dD) : Instr.sameBits 10000 (aM u) (aM u) = true := by
 have h : ∀ s : ByteArray, Instr.sameBits 9999 (.string s) (.string s) = true := fun s => (ic s s).2 rfl
 have h2 : ∀ n : Int, Instr.sameBits 9999 (.int .i64 n) (.int .i64 n) = true := fun n => by
  show Instr.sameBits (9998 + 1) _ _ = true
  simp [Instr.sameBits]
 show Instr.sameBits (9999 + 1) (aM u) (aM u) = true
 unfold aM
 rw [Instr.sameBits]
 simp [h, h2]
theorem MW {T et : TypeId} (h : cY Tryz.prog T = some (54, et)) : KT Tryz.prog T 54 et aM mR :=
 ⟨h, fun _ => rfl, EY, HX, KT.ask Tryz.underlying54 (fun a b => by unfold aM; rfl) OY⟩
def strVal (s : ByteArray) : Value := .string s
theorem HY {T et : TypeId} (h : cY Tryz.prog T = some (9, et)) : KT Tryz.prog T 9 et strVal str :=
 ⟨h, fun _ => rfl, fun a => by unfold mX; rw [Tryz.underlying9], fun a => (ic a a).2 rfl,
  KT.now Tryz.underlying9 fun a b => by
   show some (a == b) = some (decide (b = a))
   congr 1
   rw [Bool.eq_iff_iff, ic, decide_eq_true_eq]
   exact ⟨fun h => h.symm, fun h => h.symm⟩⟩
theorem Ts : cY Tryz.prog 79 = some (54, 40) := by kernel_rfl
theorem Tt : cY Tryz.prog 80 = some (9, 22) := by kernel_rfl
theorem Tu : cY Tryz.prog 85 = some (54, 4) := by kernel_rfl
theorem Tv : cY Tryz.prog 92 = some (9, 40) := by kernel_rfl
theorem Tw : cY Tryz.prog 93 = some (9, 4) := by kernel_rfl
theorem HZ : zeroV Tryz.prog 22 = some (.sc (.slice none 0 0)) := by kernel_rfl
theorem MX : zeroV Tryz.prog 4 = some (bl false) := by kernel_rfl
theorem tx : zeroV Tryz.prog 40 = some (.agg [str ⟨#[]⟩, num 0, num 0, num 0, .sc (.slice none 0 0), str ⟨#[]⟩, str ⟨#[]⟩, str ⟨#[]⟩, bl false]) := by kernel_rfl
theorem PG : KT Tryz.prog 79 54 40 aM mR := MW Ts
theorem PH : KT Tryz.prog 80 9 22 strVal str := HY Tt
theorem Tx : KT Tryz.prog 85 54 4 aM mR := MW Tu
theorem Lf : KT Tryz.prog 92 9 40 strVal str := HY Tv
theorem Ty : KT Tryz.prog 93 9 4 strVal str := HY Tw
theorem lX (n : Nat) (r : Rl) : ai n (ag r) = true := by simp [ag, ab, ah, ai, dp]
theorem ae (n : Nat) (l : List Rl) : ((bL aM 0 (gK l)).all fun e => ai n e.2.2) = true := by
 rw [kM aM (ai n)]
 unfold gK
 simp [lX]
theorem b8 {n b : Nat} (h : b < n) (v o k : Nat) (q : ByteArray) (l : List Rl) : ((bL strVal 0 (gL q (.ms b v o k) l)).all fun e => ai n e.2.2) = true := by
 rw [kM strVal (ai n)]
 unfold gL
 rw [List.all_map, List.all_eq_true]
 intro p _
 simp only [Function.comp]
 split
 ·simpa [ai] using h
 ·rfl
theorem af (n : Nat) (l : List Rl) : ((bL strVal 0 (gP l)).all fun e => ai n e.2.2) = true := by
 rw [kM strVal (ai n)]
 unfold gP
 rw [List.all_map, List.all_eq_true]
 intro p _
 rfl
theorem mE (q : ByteArray) (x : V) (l : List Rl) : (gL q x l).length = (aO l).length := by simp [gL]
theorem qd (l : List Rl) : (gP l).length = (aO l).length := by simp [gP]
theorem zq {α : Type} {mem : List ay} {f g : α → V} : ∀ {ps : List α}, (∀ p ∈ ps, eA mem (f p) = some (g p)) → cD mem (ps.map f) = some (ps.map g)
 | [], _ => rfl
 | p :: r, h => by
  have ih := zq (mem := mem) (f := f) (g := g) (ps := r) fun q hq => h q (List.mem_cons_of_mem _ hq)
  simp only [List.map_cons,cD,h p (by simp),ih]
theorem tz (B0 B1 B2 B3 B4 : ay) (rest : List ay) (v e : Nat) (rs : List V) : ∀ (keys : List (Nat × Nat)), (∀ k ∈ keys, k = (5, v)) → ∀ B5, (B5 = .rows v e rs ∨ B5 = .mJ v e rs) →
  ∃ WU, (WU = .rows v e rs ∨ WU = .mJ v e rs) ∧ bY (B0 :: B1 :: B2 :: B3 :: B4 :: B5 :: rest) keys = B0 :: B1 :: B2 :: B3 :: B4 :: WU :: rest
 | [], _, B5, h => ⟨B5, h, rfl⟩
 | k :: r, hk, B5, h => by
  obtain rfl := hk k (by simp)
  unfold bY
  rw [List.foldl_cons]
  rcases h with rfl | rfl
  ·have h1 : sk (B0 :: B1 :: B2 :: B3 :: B4 :: .rows v e rs :: rest) (5, v) = B0 :: B1 :: B2 :: B3 :: B4 :: .mJ v e rs :: rest := by simp [sk]
   rw [h1]
   exact tz B0 B1 B2 B3 B4 rest v e rs r (fun k eQ => hk k (by simp [eQ])) _ (.inr rfl)
  ·have h1 : sk (B0 :: B1 :: B2 :: B3 :: B4 :: .mJ v e rs :: rest) (5, v) = B0 :: B1 :: B2 :: B3 :: B4 :: .mJ v e rs :: rest := by simp [sk]
   rw [h1]
   exact tz B0 B1 B2 B3 B4 rest v e rs r (fun k eQ => hk k (by simp [eQ])) _ (.inr rfl)
theorem H0 (l : List Rl) (q : ByteArray) (v e : Nat) (B0 B1 B2 B3 B4 : ay) (rest : List ay) :
  cD (B0 :: B1 :: B2 :: B3 :: B4 :: .rows v e (bW l q) :: rest) ((bL strVal 0 (gL q (.ms 5 v 0 (bW l q).length) l)).map fun e => e.2.2) = some ((aO l).map fun p => .slice (bW l p)) ∧
  ∃ B5, (∀ n, aA n B5 = true) ∧ (∀ σ, cu σ B5 = B5) ∧ bY (B0 :: B1 :: B2 :: B3 :: B4 :: .rows v e (bW l q) :: rest) (((bL strVal 0 (gL q (.ms 5 v 0 (bW l q).length) l)).map fun e => e.2.2).flatMap cr) = B0 :: B1 :: B2 :: B3 :: B4 :: B5 :: rest := by
 rw [zj]
 unfold gL
 rw [List.map_map]
 constructor
 ·refine zq fun p _ => ?_
  simp only [Function.comp]
  split
  ·rename_i h; subst h
   simp [eA, bD]
  ·rfl
 ·obtain ⟨B5, h1, h2⟩ := tz B0 B1 B2 B3 B4 rest v e (bW l q) (((aO l).map ((fun x => x.2) ∘ fun p => (p, if p = q then V.ms 5 v 0 (bW l q).length else V.slice (bW l p)))).flatMap cr) (fun k hk => by
   obtain ⟨x, hx, hk⟩ := List.mem_flatMap.1 hk
   obtain ⟨p, -, rfl⟩ := List.mem_map.1 hx
   simp only [Function.comp] at hk
   split at hk
   ·simpa [cr, eu] using hk
   ·simp [cr, eu] at hk) _ (.inl rfl)
  exact ⟨B5, fun n => by rcases h1 with rfl | rfl <;> rfl, fun σ => by rcases h1 with rfl | rfl <;> rfl, h2⟩
theorem Dg (l : List Rl) (q : ByteArray) (x : V) : sW (bL strVal 0 (gL q x l)) ((aO l).map fun p => .slice (bW l p)) = bL strVal 0 (gP l) := by
 rw [De]
 congr 1
 unfold gL gP
 rw [List.zipWith_map, List.zipWith_self]
theorem o9 {α : Type} (kv : α → Value) (σ : Nat → Nat) (c : Nat) : ∀ (g : List (α × V)) (n : Nat), cu σ (.map (bL kv n g) c) = .map (bL kv n (g.map fun e => (e.1, bw σ e.2))) c := by
 have key : ∀ (g : List (α × V)) (n : Nat), (bL kv n g).map (fun e => (e.1, e.2.1, bw σ e.2.2)) = bL kv n (g.map fun e => (e.1, bw σ e.2)) := by
  intro g
  induction g with
  | nil => intro n; rfl
  | cons e r ih => intro n; simp only [bL,List.map_cons,ih]
 intro g n
 show ay.map _ _ = _
 rw [key]
theorem Dh (σ : Nat → Nat) (r : Rl) : bw σ (ag r) = ag r := Et σ (lX 0 r)
theorem rN (σ : Nat → Nat) (l : List Rl) (c : Nat) : cu σ (.map (bL aM 0 (gK l)) c) = .map (bL aM 0 (gK l)) c := by
 rw [o9]
 congr 2
 unfold gK
 rw [List.map_map]
 exact List.map_congr_left fun r _ => by simp only [Function.comp,Dh]
theorem Lg (σ : Nat → Nat) (q : ByteArray) (x : V) (l : List Rl) (c : Nat) : cu σ (.map (bL strVal 0 (gL q x l)) c) = .map (bL strVal 0 (gL q (bw σ x) l)) c := by
 rw [o9]
 congr 2
 unfold gL
 rw [List.map_map]
 refine List.map_congr_left fun p _ => ?_
 simp only [Function.comp]
 split <;> rfl
theorem Di (σ : Nat → Nat) (l : List Rl) (c : Nat) : cu σ (.map (bL strVal 0 (gP l)) c) = .map (bL strVal 0 (gP l)) c := by
 rw [o9]
 congr 2
 unfold gP
 rw [List.map_map]
 exact List.map_congr_left fun p _ => rfl
def eX (l : List Rl) : ByteArray := match l.getLast? with | some r => r.path | none => ⟨#[]⟩
theorem nR (l : List Rl) (r : Rl) : eX (l ++ [r]) = r.path := by simp [eX]
theorem ij {l : List Rl} {i : Nat} {r : Rl} (h : l[i]? = some r) : l.take (i + 1) = l.take i ++ [r] := by rw [List.take_add_one, h]; rfl
theorem zr {l : List Rl} (hs : l.Pairwise jT) {i : Nat} {r : Rl} (h : l[i]? = some r) : (r.path = eX (l.take i) ∧ r.path ∈ aO (l.take i)) ∨ r.path ∉ aO (l.take i) := by
 have aB := (List.getElem?_eq_some_iff.1 h).1
 rcases Nat.eq_zero_or_pos i with rfl | hi
 ·exact .inr (by simp [aO])
 ·obtain ⟨j, rfl⟩ : ∃ j, i = j + 1 := ⟨i - 1, by omega⟩
  have hp : l[j]? = some l[j] := List.getElem?_eq_getElem (by omega)
  have ht : (l.take (j + 1)).Pairwise jT := List.Pairwise.sublist (List.take_sublist _ _) hs
  have ZT : jT l[j] r := by
   have h1 := List.pairwise_iff_getElem.1 hs j (j + 1) (by omega) aB (by omega)
   rwa [(List.getElem?_eq_some_iff.1 h).2] at h1
  rw [ij hp] at ht ⊢
  rw [nR]
  by_cases he : r.path = l[j].path
  ·exact .inl ⟨he, lW.2 ⟨l[j], List.mem_append_right _ (List.mem_singleton.2 rfl), he.symm⟩⟩
  ·exact .inr (HW ht ZT fun e => he e.symm)
theorem Lh {l : List Rl} (hs : l.Pairwise jT) {i : Nat} {r : Rl} (h : l[i]? = some r) : ∀ x ∈ l.take i, x.key ≠ r.key := fun x hx => by
 obtain ⟨aB, hr⟩ := List.getElem?_eq_some_iff.1 h
 obtain ⟨j, hj, rfl⟩ := List.getElem_of_mem hx
 rw [List.length_take] at hj
 rw [List.getElem_take]
 have h1 := List.pairwise_iff_getElem.1 hs j i (by omega) aB (by omega)
 rw [hr] at h1
 exact jU h1
theorem Li {l : List Rl} (hs : l.Pairwise jT) {i : Nat} {r : Rl} (h : l[i]? = some r) (B0 B1 : ay) (rest : List ay) :
  cp Tryz.prog (B0 :: B1 :: .map (bL aM 0 (gK (l.take i))) (gK (l.take i)).length :: rest) 79 (.mp 2) (mR r.key) (ag r) = some (B0 :: B1 :: .map (bL aM 0 (gK (l.take i ++ [r]))) (gK (l.take i ++ [r])).length :: rest) := by
 have := PG.put r.key (ag r) (gK (l.take i)) (mem := B0 :: B1 :: .map (bL aM 0 (gK (l.take i))) (gK (l.take i)).length :: rest) (b := 2) rfl
 rw [Le (Lh hs h)] at this
 exact this
theorem H2 {g : List (ByteArray × V)} {q : ByteArray} {x : V} {c : Nat} (hc : c = g.length) (h : (getM q g).getD (.sc (.slice none 0 0)) = x) (B0 B1 B2 : ay) (rest : List ay) :
  di Tryz.prog (B0 :: B1 :: B2 :: .map (bL strVal 0 g) c :: rest) 80 (.mp 3) (str q) false = some x := by
 subst hc
 rw [PH.get q g (b := 3) rfl HZ, h]; rfl
theorem H3 {g g' : List (ByteArray × V)} {q : ByteArray} {y : V} {c c' : Nat} (hc : c = g.length) (h : k9 q y g = g') (L9 : c' = g'.length) (B0 B1 B2 : ay) (rest : List ay) :
  cp Tryz.prog (B0 :: B1 :: B2 :: .map (bL strVal 0 g) c :: rest) 80 (.mp 3) (str q) y = some (B0 :: B1 :: B2 :: .map (bL strVal 0 g') c' :: rest) := by
 subst hc; subst L9; subst h
 exact PH.put q y g (b := 3) rfl
theorem H4 (l : List Rl) (p : ByteArray) (i : Nat) : (bW (l.take i) p).length ≤ l.length := by
 unfold bW bS
 rw [List.length_map]
 exact Nat.le_trans (List.length_filter_le _ _) (by rw [List.length_take]; omega)
def aq (l : List Rl) : List Rl := if dK l = 0 then l else []
def Lj (l : List Rl) (I : List V) : List ay := [.box [.slice (l.map ag), .slice I], .box [.mp 2, .mp 3], .map (bL aM 0 (gK (aq l))) (gK (aq l)).length, .map (bL strVal 0 (gP (aq l))) (aO (aq l)).length]
theorem vm (l : List Rl) (I : List V) : (Lj l I).all (aA 4) = true := by
 unfold Lj
 simp only [List.all_cons,List.all_nil,pQ,wA,ae,af,ai,Bool.and_true,decide_eq_true_eq,Bool.true_and]
 decide
theorem Lk {l : List Rl} (h : dK l ≠ 0) (I : List V) : Lj l I = [.box [.slice (l.map ag), .slice I], .box [.mp 2, .mp 3], .map [] 0, .map [] 0] := by
 unfold Lj aq
 rw [if_neg h]; rfl
theorem PI {l : List Rl} (h : dK l = 0) (I : List V) : Lj l I = [.box [.slice (l.map ag), .slice I], .box [.mp 2, .mp 3], .map (bL aM 0 (gK l)) (gK l).length, .map (bL strVal 0 (gP l)) (aO l).length] := by
 unfold Lj aq
 rw [if_pos h]
end Go.Proofs.YtnfeacnbgbggfaaGreatDoor
end

section
namespace Go.Proofs.YtnfeacnbgbggfaaGreatDoor
open Go.Eng
open Nat renaming reduceAdd → zA, reduceLT → zB, reduceLeDiff → zC, reduceMul → zD, reduceEqDiff → zE, reduceSub → zF
variable [aG]
set_option maxHeartbeats 4000000
set_option maxRecDepth 100000
theorem zt (hG : aG.g = some 0) (l : List Rl) (I : List V) (hb : tY l) : ∃ r_ m_, (fun r m => r = .bT [.agg [.mp 2, .mp 3], num (dK l)] ∧ m = Lj l I) r_ m_ ∧ aU Tryz.prog 46 [bm l I] ([]) r_ m_ := by
 refine FF tt_ok [9,10,11] 43 [.cell 2 82, .tmp 3] (4) (by decide) (fn := Tryz.f46) Tryz.func46 rfl Tryz.call46 ⟨rfl, rfl, by simp⟩ fun K hK => ?_
 simp only [bm,aY]
 have w6 := hb.1
 have NW := vm l I
 simp only [ae,b8 (show 5 < 6 by decide),af,List.length_map,go_sem,reduceIte,zA,zB,zC,zD,zE,zF,reduceCtorEq]
 refine cF (by have h := ti hG l I hb; simp only [bm,aY] at h; exact h) ?_
 rintro _ rfl
 simp only [ae,b8 (show 5 < 6 by decide),af,List.length_map,go_sem,reduceIte,zA,zB,zC,zD,zE,zF,reduceCtorEq]
 refine aL (fun cq => ?_) (fun cq => ?_)
 ·have c6 : dK l ≠ 0 := by simpa using cq
  have WV := Lk c6 I
  have hr : V.bT [.agg [.mp 2, .mp 3], num (dK l)] = .bT [.agg [.mp 2, .mp 3], num (dK l)] := rfl
  simp only [ae,b8 (show 5 < 6 by decide),af,List.length_map,go_sem,reduceIte,zA,zB,zC,zD,zE,zF,reduceCtorEq]
  exact hK _ _ ⟨hr, WV.symm⟩
 ·have c6 : dK l = 0 := by simpa using cq
  have WV := PI c6 I
  have hr : V.bT [.agg [.mp 2, .mp 3], num 0] = .bT [.agg [.mp 2, .mp 3], num (dK l)] := by rw [c6]
  have hs := vl c6
  simp only [ae,b8 (show 5 < 6 by decide),af,List.length_map,go_sem,reduceIte,zA,zB,zC,zD,zE,zF,reduceCtorEq]
  refine Hb 0 9 ?_
  refine ct tt_ok [9,10,11] (fun a : Nat × Nat => [(2, .ptr 1 0), (4, .ptr 4 0), (18, .slice (l.map ag)), (19, num l.length), (20, num a.1)]) (fun a : Nat × Nat => [.box [.slice (l.map ag), .slice I], .box [.sc (.map none), .sc (.map none)], .map (bL aM 0 (gK (l.take a.1))) (gK (l.take a.1)).length, .map (bL strVal 0 (gL (eX (l.take a.1)) (.ms 5 a.2 0 (bW (l.take a.1) (eX (l.take a.1))).length) (l.take a.1))) (aO (l.take a.1)).length, .box [.mp 2, .mp 3], .rows a.2 9 (bW (l.take a.1) (eX (l.take a.1)))]) (fun a => l.length - a.1) (fun a => a.1 ≤ l.length) ((0, 0)) 6 (ba (by omega) (by simp only [ae,b8 (show 5 < 6 by decide),af,List.length_map,Int.cast_ofNat_Int,go_sem,reduceIte,zA,zB,zC,zD,zE,zF,reduceCtorEq] <;> rfl)) (Nat.zero_le _) ?_
  rintro ⟨i, v⟩ hi
  try dsimp only at hi ⊢
  intro Z1 bP
  simp only [ae,b8 (show 5 < 6 by decide),af,List.length_map,go_sem,reduceIte,zA,zB,zC,zD,zE,zF,reduceCtorEq]
  refine aL (fun eW => ?_) (fun eW => ?_)
  ·have aB : i < l.length := by simpa using eW
   have hw := ax i (by omega)
   obtain ⟨x, hx⟩ : ∃ x, l[i]? = some x := ⟨_, List.getElem?_eq_getElem aB⟩
   have tZ := ij hx
   have jr := fun B0 B1 rest => Li hs hx B0 B1 rest
   simp only [mR,ag,ab,ah] at jr
   simp only [ae,b8 (show 5 < 6 by decide),af,hw,List.getElem?_map,hx,ag,ab,ah,jr,List.length_map,go_sem,reduceIte,zA,zB,zC,zD,zE,zF,reduceCtorEq]
   refine bu tt_ok aD [⟨.n, 0, [], [], []⟩, ⟨.r, 0, [], [], []⟩, ⟨.r, 0, [], [], []⟩, ⟨.n, 0, [], [], []⟩, ⟨.r, 0, [], [], []⟩, ⟨.w, 0, [], [], []⟩] 1 (by kernel_rfl) ?_
   simp only [ae,b8 (show 5 < 6 by decide),af,hw,List.getElem?_map,hx,ag,ab,ah,jr,List.length_map,go_sem,reduceIte,zA,zB,zC,zD,zE,zF,reduceCtorEq]
   refine cG (by have h := kH x; simp only [ag,ab,ah,aI] at h; exact h) ?_
   rintro _ rfl
   rcases zr hs hx with ⟨hq, K7⟩ | WW
   ·simp only [ae,b8 (show 5 < 6 by decide),af,hw,List.getElem?_map,hx,ag,ab,ah,jr,List.length_map,go_sem,reduceIte,zA,zB,zC,zD,zE,zF,reduceCtorEq]
    have fp : ca [V.agg [str x.path, num x.aC.mj, num x.aC.mn, num x.aC.pt, V.slice (x.reqs.map al), str x.ar, str x.gg, str x.ce, bl x.yk]] 0 9 = true := rfl
    have dE : (bW (l.take i) (eX (l.take i))).length + 1 ≤ 34359738368 := by have := H4 l (eX (l.take i)) i; omega
    have Tz := fun B0 B1 B2 rest => H2 (g := gL (eX (l.take i)) (.ms 5 v 0 (bW (l.take i) (eX (l.take i))).length) (l.take i)) (q := x.path) (x := .ms 5 v 0 (bW (l.take i) (eX (l.take i))).length) (mE _ _ _).symm (by rw [hq, PF (hq ▸ K7), Option.getD_some]) B0 B1 B2 rest
    have pE := fun y B0 B1 B2 rest => H3 (g := gL (eX (l.take i)) (.ms 5 v 0 (bW (l.take i) (eX (l.take i))).length) (l.take i)) (g' := gL x.path y (l.take i ++ [x])) (q := x.path) (y := y) (mE _ _ _).symm (by rw [hq]; exact Ld hq (hq ▸ K7) _ y) (mE _ _ _).symm B0 B1 B2 rest
    have cd : bW (l.take i ++ [x]) x.path = bW (l.take i) (eX (l.take i)) ++ [V.agg [str x.path, num x.aC.mj, num x.aC.mn, num x.aC.pt, V.slice (x.reqs.map al), str x.ar, str x.gg, str x.ce, bl x.yk]] := by rw [tu, ← hq]; rfl
    have jq : (bW (l.take i) (eX (l.take i)) ++ [V.agg [str x.path, num x.aC.mj, num x.aC.mn, num x.aC.pt, V.slice (x.reqs.map al), str x.ar, str x.gg, str x.ce, bl x.yk]]).length = (bW (l.take i ++ [x]) x.path).length := by rw [cd]
    refine bu tt_ok aD [⟨.n, 0, [], [], []⟩, ⟨.b, 0, [], [0], []⟩, ⟨.n, 0, [], [], []⟩, ⟨.b, 0, [], [2], []⟩, ⟨.n, 0, [], [], []⟩, ⟨.r, 0, [], [4], []⟩, ⟨.n, 0, [], [], []⟩, ⟨.r, 0, [], [6], []⟩, ⟨.r, 0, [], [4,5,6,7], []⟩, ⟨.r, 0, [], [], []⟩, ⟨.n, 0, [], [9], []⟩, ⟨.w, 0, [], [4,5,6,7,8,9,10], []⟩, ⟨.w, 1, [], [0,1,2,3,4,5,6,7,8,9,10,11], []⟩] 2 (by kernel_rfl) ?_
    simp only [ae,b8 (show 5 < 6 by decide),af,hw,List.getElem?_map,hx,ag,ab,ah,jr,Tz,pE,fp,dE,List.length_cons,List.length_nil,Nat.zero_add,List.length_map,go_sem,reduceIte,zA,zB,zC,zD,zE,zF,reduceCtorEq]
    refine A3 tt_ok ?_
    simp only [ae,b8 (show 5 < 6 by decide),af,hw,List.getElem?_map,hx,ag,ab,ah,jr,Tz,pE,fp,dE,List.length_cons,List.length_nil,Nat.zero_add,List.length_map,go_sem,reduceIte,zA,zB,zC,zD,zE,zF,reduceCtorEq]
    refine bP _ ⟨(i + 1, v + 1), ?_, ?_, ba (by omega) (by (simp only [tZ,nR,cd,← jq,hw,ae,b8 (show 5 < 6 by decide),af,go_sem,reduceIte,zA,zB,zC,zD,zE,zF,reduceCtorEq]))⟩
    ·exact aB
    ·dsimp only; omega
   ·simp only [ae,b8 (show 5 < 6 by decide),af,hw,List.getElem?_map,hx,ag,ab,ah,jr,List.length_map,go_sem,reduceIte,zA,zB,zC,zD,zE,zF,reduceCtorEq]
    have fp : ca [V.agg [str x.path, num x.aC.mj, num x.aC.mn, num x.aC.pt, V.slice (x.reqs.map al), str x.ar, str x.gg, str x.ce, bl x.yk]] 0 9 = true := rfl
    have dE : (0 : Nat) + 1 ≤ 34359738368 := by decide
    obtain ⟨UF, B5, X9, TA, WX⟩ := H0 (l.take i) (eX (l.take i)) v 9 (.box [.slice (l.map ag), .slice I]) (.box [.sc (.map none), .sc (.map none)]) (.map (bL aM 0 (gK (l.take i ++ [x]))) (gK (l.take i ++ [x])).length) (.map (bL strVal 0 (gL (eX (l.take i)) (.ms 5 v 0 (bW (l.take i) (eX (l.take i))).length) (l.take i))) (aO (l.take i)).length) (.box [.mp 2, .mp 3]) [.box [str x.path, num x.aC.mj, num x.aC.mn, num x.aC.pt, V.slice (x.reqs.map al), str x.ar, str x.gg, str x.ce, bl x.yk], .hole]
    refine CU (k := 3) rfl UF ?_
    simp only [WX,Dg,List.set_cons_succ,List.set_cons_zero]
    have Tz := fun B0 B1 B2 rest => H2 (g := gP (l.take i)) (q := x.path) (x := .sc (.slice none 0 0)) (qd _).symm (by rw [zp WW, Option.getD_none]) B0 B1 B2 rest
    have pE := fun y B0 B1 B2 rest => H3 (g := gP (l.take i)) (g' := gL x.path y (l.take i ++ [x])) (q := x.path) (y := y) (qd _).symm (PE WW y) (mE _ _ _).symm B0 B1 B2 rest
    have cd : bW (l.take i ++ [x]) x.path = [V.agg [str x.path, num x.aC.mj, num x.aC.mn, num x.aC.pt, V.slice (x.reqs.map al), str x.ar, str x.gg, str x.ce, bl x.yk]] := by rw [tu, kN WW]; rfl
    have jq : [V.agg [str x.path, num x.aC.mj, num x.aC.mn, num x.aC.pt, V.slice (x.reqs.map al), str x.ar, str x.gg, str x.ce, bl x.yk]].length = 1 := rfl
    refine bu tt_ok aD [⟨.n, 0, [], [], []⟩, ⟨.b, 0, [], [0], []⟩, ⟨.n, 0, [], [], []⟩, ⟨.b, 0, [], [2], []⟩, ⟨.n, 0, [], [], []⟩, ⟨.r, 0, [], [4], []⟩, ⟨.n, 0, [], [], []⟩, ⟨.r, 0, [], [6], []⟩, ⟨.r, 0, [], [4,5,6,7], []⟩, ⟨.r, 0, [], [], []⟩, ⟨.n, 0, [], [9], []⟩, ⟨.w, 0, [], [4,5,6,7,8,9,10], []⟩, ⟨.w, 1, [], [0,1,2,3,4,5,6,7,8,9,10,11], []⟩] 2 (by kernel_rfl) ?_
    simp only [ae,b8 (show 5 < 6 by decide),af,hw,List.getElem?_map,hx,ag,ab,ah,jr,Tz,pE,fp,dE,List.length_cons,List.length_nil,Nat.zero_add,List.length_map,go_sem,reduceIte,zA,zB,zC,zD,zE,zF,reduceCtorEq]
    refine SM 5 8 (by omega) (by omega) (by simp) (by simp) (by simp [aW, bo, ai, dp]) (by simp [pQ, wA, Ke, X9, ae, b8, aW, bo, ai, dp, Kf, Kg]) ?_
    simp only [qO,rN,Lg,TA,List.map_cons,List.map_nil,List.set_cons_succ,List.set_cons_zero,List.getD_cons_succ,List.getD_cons_zero]
    simp only [cu,cg,bw,show swp 5 8 8 = 5 from rfl,show swp 5 8 0 = 0 from rfl,show swp 5 8 1 = 1 from rfl,show swp 5 8 2 = 2 from rfl,show swp 5 8 3 = 3 from rfl,show swp 5 8 4 = 4 from rfl,show swp 5 8 6 = 6 from rfl,show swp 5 8 7 = 7 from rfl]
    refine A3 tt_ok ?_
    simp only [ae,b8 (show 5 < 6 by decide),af,hw,List.getElem?_map,hx,ag,ab,ah,jr,Tz,pE,fp,dE,List.length_cons,List.length_nil,Nat.zero_add,List.length_map,go_sem,reduceIte,zA,zB,zC,zD,zE,zF,reduceCtorEq]
    refine bP _ ⟨(i + 1, 0), ?_, ?_, ba (by omega) (by (simp only [tZ,nR,cd,jq,hw,ae,b8 (show 5 < 6 by decide),af,go_sem,reduceIte,zA,zB,zC,zD,zE,zF,reduceCtorEq]))⟩
    ·exact aB
    ·dsimp only; omega
  ·have cB : ¬ i < l.length := by simpa using eW
   have rZ : i = l.length := by omega
   subst rZ
   rw [List.take_length]
   obtain ⟨UF, B5, X9, TA, WX⟩ := H0 l (eX l) v 9 (.box [.slice (l.map ag), .slice I]) (.box [.sc (.map none), .sc (.map none)]) (.map (bL aM 0 (gK l)) (gK l).length) (.map (bL strVal 0 (gL (eX l) (.ms 5 v 0 (bW l (eX l)).length) l)) (aO l).length) (.box [.mp 2, .mp 3]) []
   simp only [ae,b8 (show 5 < 6 by decide),af,List.length_map,go_sem,reduceIte,zA,zB,zC,zD,zE,zF,reduceCtorEq]
   refine CU (k := 3) rfl UF ?_
   simp only [WX,Dg,List.set_cons_succ,List.set_cons_zero]
   refine Uu tt_ok [9,10,11] ?_
   simp only [ae,b8 (show 5 < 6 by decide),af,List.length_map,go_sem,reduceIte,zA,zB,zC,zD,zE,zF,reduceCtorEq]
   exact hK _ _ ⟨hr, WV.symm⟩
end Go.Proofs.YtnfeacnbgbggfaaGreatDoor
end

section
namespace Go.Proofs.YtnfeacnbgbggfaaGreatDoor
open Go.Eng
variable [aG]
set_option maxHeartbeats 4000000
set_option maxRecDepth 100000
theorem bN (l : List Rq) : ca (l.map al) 0 2 = true := by
 cases l <;> rfl
end Go.Proofs.YtnfeacnbgbggfaaGreatDoor
end

section
namespace Go.Proofs.YtnfeacnbgbggfaaGreatDoor
open Go.Eng
variable [aG]
set_option maxHeartbeats 4000000
set_option maxRecDepth 100000
def Q3 (k : Nat) (l : List Rl) (I : List V) : List ay := [.box [.slice (l.map ag), .slice I], .box [.mp (k + 2), .mp (k + 3)], .map (bL aM 0 (gK (aq l))) (gK (aq l)).length, .map (bL strVal 0 (gP (aq l))) (aO (aq l)).length]
theorem jj (hG : aG.g = some 0) (l : List Rl) (I : List V) (hb : tY l) (M : List ay) : ∃ r_ m_, (fun r m => r = .bT [.agg [.mp (M.length + 2), .mp (M.length + 3)], num (dK l)] ∧ m = M ++ Q3 M.length l I) r_ m_ ∧ aU Tryz.prog 46 [bm l I] M r_ m_ := by
 obtain ⟨r, m, ⟨rfl, rfl⟩, h⟩ := zt hG l I hb
 have h2 := h.yI M (fun j => M.length + j) 0 rfl (by simp [bm, aY, ai, dp]) rfl (by simp [ai, dp, Lj]) (vm l I) (Nat.zero_le _) (fun i B hi => by simp at hi) (fun i j hi => by omega) (fun j _ => by omega)
 refine ⟨_, _, ⟨?_, ?_⟩, by simpa only [cg, bw, bm, aY] using h2⟩
 ·simp only [cg,bw]
 ·unfold mM Lj Q3
  simp only [Ev,gf,List.map_cons,List.map_nil,rN,Di]
  simp only [cu,cg,bw]
def rp (l : List Rl) (s : dD) : Option Rl := (aq l).find? fun r => decide (r.key = s)
def nS : Rl := ⟨⟨#[]⟩, ⟨0, 0, 0⟩, [], ⟨#[]⟩, ⟨#[]⟩, ⟨#[]⟩, false⟩
theorem w7 (s : dD) : ∀ (l : List Rl), getM s (gK l) = (l.find? fun r => decide (r.key = s)).map ag
 | [] => rfl
 | r :: t => by
  show (if r.key = s then some (ag r) else getM s (gK t)) = _
  rw [List.find?_cons]
  by_cases h : r.key = s
  ·simp [h]
  ·simp [h, w7 s t]
theorem Ll {l : List Rl} {s : dD} {r : Rl} (h : rp l s = some r) {mem : List ay} {b : Nat} (hm : mem[b]? = some (.map (bL aM 0 (gK (aq l))) (gK (aq l)).length)) :
  di Tryz.prog mem 79 (.mp b) (mR s) true = some (.bT [ag r, bl true]) := by
 rw [PG.get s (gK (aq l)) hm tx, w7]
 unfold rp at h
 rw [h]; rfl
theorem H5 {l : List Rl} {s : dD} (h : rp l s = none) {mem : List ay} {b : Nat} (hm : mem[b]? = some (.map (bL aM 0 (gK (aq l))) (gK (aq l)).length)) :
  di Tryz.prog mem 79 (.mp b) (mR s) true = some (.bT [.agg [str ⟨#[]⟩, num 0, num 0, num 0, .sc (.slice none 0 0), str ⟨#[]⟩, str ⟨#[]⟩, str ⟨#[]⟩, bl false], bl false]) := by
 rw [PG.get s (gK (aq l)) hm tx, w7]
 unfold rp at h
 rw [h]; rfl
end Go.Proofs.YtnfeacnbgbggfaaGreatDoor
end

section
namespace Go.Proofs.YtnfeacnbgbggfaaGreatDoor
open Go.Eng
open Nat renaming reduceAdd → zA, reduceLT → zB, reduceLeDiff → zC, reduceMul → zD, reduceEqDiff → zE, reduceSub → zF
variable [aG]
set_option maxHeartbeats 4000000
set_option maxRecDepth 100000
theorem qe {s : ByteArray} {a : Nat} {e : Int} (h : a ≤ s.size) : (k8 s a e).2.1 ≤ s.size := by
 unfold k8
 split
 ·exact h
 ·cases hr : oZ s a with
  | none => exact h
  | some p => exact (BG hr).2
theorem H6 {s t : ByteArray} {a j : Nat} (h : Bb s a = some (t, j)) : t.size ≤ s.size ∧ j ≤ s.size := by
 have := OQ h
 omega
theorem qf {s : ByteArray} {a : Nat} {e : Int} (h : a ≤ s.size) : (lT s a e).2.1 ≤ s.size := by
 unfold lT
 split
 ·exact h
 ·cases hr : Bb s a with
  | none => exact h
  | some p => exact (H6 hr).2
theorem tA (s : ByteArray) (a : Nat) (e : Int) : (lT s a e).1.size ≤ s.size := by
 unfold lT
 split
 ·exact Nat.zero_le _
 ·cases hr : Bb s a with
  | none => exact Nat.zero_le _
  | some p => exact (H6 hr).1
theorem w8 {m : Int} {s : ByteArray} {a : Nat} {e : Int} (h : a ≤ s.size) : (qV m s a e).2.1 ≤ s.size := by
 unfold qV
 split
 ·exact h
 ·cases hr : oZ s a with
  | none => exact h
  | some p =>
   dsimp only
   split
   ·exact (BG hr).2
   ·exact h
theorem tB {m : Int} {s : ByteArray} {a : Nat} {e : Int} (hm : 0 ≤ m) : ((qV m s a e).1 : Int) ≤ m := by
 unfold qV
 split
 ·exact hm
 ·cases hr : oZ s a with
  | none => exact hm
  | some p =>
   dsimp only
   split
   ·assumption
   ·exact hm
def Ac (s : ByteArray) : Nat → Nat × Int → List bG × Nat × Int
 | 0, st => ([], st)
 | n + 1, st => if st.2 ≠ 0 then ([], st) else
   (⟨((k8 s st.1 st.2).1 : Int), ((k8 s (k8 s st.1 st.2).2.1 (k8 s st.1 st.2).2.2).1 : Int)⟩ :: (Ac s n (k8 s (k8 s st.1 st.2).2.1 (k8 s st.1 st.2).2.2).2).1, (Ac s n (k8 s (k8 s st.1 st.2).2.1 (k8 s st.1 st.2).2.2).2).2)
def nT (s : ByteArray) (st : Nat × Int) : Rq × Nat × Int :=
 let t := lT s st.1 st.2
 let c := qV (s.size : Int) s t.2.1 t.2.2
 let r := Ac s c.1 c.2
 (⟨t.1, r.1⟩, r.2)
def Ad (s : ByteArray) : Nat → Nat × Int → List Rq × Nat × Int
 | 0, st => ([], st)
 | n + 1, st => ((nT s st).1 :: (Ad s n (nT s st).2).1, (Ad s n (nT s st).2).2)
theorem H7 (s : ByteArray) : ∀ (n : Nat) (st : Nat × Int), st.1 ≤ s.size → (Ac s n st).2.1 ≤ s.size ∧ (Ac s n st).1.length ≤ n
 | 0, st, h => ⟨h, Nat.le_refl _⟩
 | n + 1, st, h => by
  rw [Ac]
  split
  ·exact ⟨h, Nat.zero_le _⟩
  ·have := H7 s n _ (qe (e := (k8 s st.1 st.2).2.2) (qe (e := st.2) h))
   exact ⟨this.1, by rw [List.length_cons]; omega⟩
theorem Lm (s : ByteArray) (st : Nat × Int) (h : st.1 ≤ s.size) : (nT s st).2.1 ≤ s.size ∧ (nT s st).1.path.size ≤ s.size ∧ (nT s st).1.set.length ≤ s.size := by
 unfold nT
 dsimp only
 have h1 := qf (e := st.2) h
 have h2 := w8 (m := (s.size : Int)) (e := (lT s st.1 st.2).2.2) h1
 have h3 := H7 s (qV (s.size : Int) s (lT s st.1 st.2).2.1 (lT s st.1 st.2).2.2).1 _ h2
 have h4 := tB (m := (s.size : Int)) (s := s) (a := (lT s st.1 st.2).2.1) (e := (lT s st.1 st.2).2.2) (by omega)
 exact ⟨h3.1, tA _ _ _, by omega⟩
theorem H8 (s : ByteArray) : ∀ (n : Nat) (st : Nat × Int), st.1 ≤ s.size → (Ad s n st).2.1 ≤ s.size ∧ (Ad s n st).1.length = n ∧ ∀ q ∈ (Ad s n st).1, q.path.size ≤ s.size ∧ q.set.length ≤ s.size
 | 0, st, h => ⟨h, rfl, fun q hq => by simp [Ad] at hq⟩
 | n + 1, st, h => by
  have h1 := Lm s st h
  have h2 := H8 s n _ h1.1
  rw [Ad]
  refine ⟨h2.1, by rw [List.length_cons, h2.2.1], fun q hq => ?_⟩
  rcases List.mem_cons.1 hq with rfl | hq
  ·exact h1.2
  ·exact h2.2.2 q hq
theorem w9 (s : ByteArray) : ∀ (n : Nat) (st : Nat × Int), Ad s (n + 1) st = ((Ad s n st).1 ++ [(nT s (Ad s n st).2).1], (nT s (Ad s n st).2).2)
 | 0, st => rfl
 | n + 1, st => by
  rw [Ad, w9 s n]
  rfl
def xb (s : ByteArray) : Rl × Nat × Nat × Int :=
 let p := lT s 0 0
 let mn := k8 s p.2.1 p.2.2
 let pt := k8 s mn.2.1 mn.2.2
 let y := qV 1 s pt.2.1 pt.2.2
 let ar := lT s y.2.1 y.2.2
 let gg := lT s ar.2.1 ar.2.2
 let ce := lT s gg.2.1 gg.2.2
 let n := qV 16 s ce.2.1 ce.2.2
 (⟨p.1, ⟨bQ p.1, (mn.1 : Int), (pt.1 : Int)⟩, [], ar.1, gg.1, ce.1, decide ((y.1 : Int) = 1)⟩, n)
def zu (s : ByteArray) : Rl × Nat × Int :=
 let h := xb s
 let q := Ad s h.2.1 h.2.2
 ({ h.1 with reqs := q.1 }, q.2)
def nU (s : ByteArray) : Bool := decide (bF (lT s 0 0).1 = 0) && decide (pY s (zu s).2.1 (zu s).2.2 = 0) && decide (dK [(zu s).1] = 0)
def lY (s : ByteArray) : V := if nU s = true then .bT [ag (zu s).1, num 0] else .bT [ag nS, num 9]
theorem Ln (hG : aG.g = some 0) (s : ByteArray) (hs : s.size ≤ 1048576) : ∃ r_, (fun w => w = lY s) r_ ∧ aP Tryz.prog 19 [str s] r_ := by
 refine dI tt_ok [17,19] 91 [.cell 2 40, .tmp 3] (fn := Tryz.f19) Tryz.func19 rfl Tryz.call19 ⟨rfl, rfl, by simp⟩ fun K hK => ?_
 have fR : Tryz.prog.underlying 9 = some .string := by kernel_rfl
 have sl : ∀ (a : ByteArray) (ty : TypeId), cN Tryz.prog (Builtin.len_ #[9] ty) [.sc (.string a)] = some (num a.size) := fun a ty => cx (P := Tryz.prog) (tt := tt) (T := 9) a fR ty
 have gQ : s.size ≤ 1073741824 := by omega
 have bB : ∀ (mem : List ay) (ks : List (Nat × Nat)) (n : Int), cP mem ks (num n) = mem := fun _ _ _ => rfl
 simp only [sl,List.length_map,bB,go_sem,reduceIte,zA,zB,zC,zD,zE,zF,reduceCtorEq]
 refine cW (wY s _) ?_
 rintro _ _ ⟨rfl, rfl⟩
 try simp only [Ev,List.length_cons,List.length_nil,zA]
 simp only [sl,List.length_map,bB,go_sem,reduceIte,zA,zB,zC,zD,zE,zF,reduceCtorEq]
 refine cW (lU s gQ 0 0 (Nat.zero_le _) _ 1 rfl) ?_
 rintro _ _ ⟨rfl, rfl⟩
 obtain ⟨x1, r5⟩ : ∃ x, x = lT s 0 0 := ⟨_, rfl⟩
 rw [← r5]
 have Ml : x1.2.1 ≤ s.size := r5 ▸ qf (Nat.zero_le _)
 have FT : x1.1.size ≤ s.size := r5 ▸ tA _ _ _
 try simp only [List.set_cons_zero,List.set_cons_succ]
 simp only [sl,List.length_map,bB,go_sem,reduceIte,zA,zB,zC,zD,zE,zF,reduceCtorEq]
 refine cF (rJ hG x1.1 (by omega)) ?_
 rintro _ ⟨nm, rfl⟩
 simp only [sl,List.length_map,bB,go_sem,reduceIte,zA,zB,zC,zD,zE,zF,reduceCtorEq]
 refine aL (fun iS => ?_) (fun iS => ?_)
 ·have hR : lY s = .bT [ag nS, num 9] := by
   unfold lY nU
   rw [← r5, if_neg (by have : ¬ bF x1.1 = 0 := (by simpa using iS); simp [this])]
  simp only [sl,List.length_map,bB,go_sem,reduceIte,zA,zB,zC,zD,zE,zF,reduceCtorEq]
  exact hK _ (hR.symm)
 ·have ZU : bF x1.1 = 0 := by simpa using iS
  simp only [sl,List.length_map,bB,go_sem,reduceIte,zA,zB,zC,zD,zE,zF,reduceCtorEq]
  refine cW (tn s gQ x1.2.1 x1.2.2 Ml _ 1 rfl) ?_
  rintro _ _ ⟨rfl, rfl⟩
  obtain ⟨x2, xt⟩ : ∃ x, x = k8 s x1.2.1 x1.2.2 := ⟨_, rfl⟩
  rw [← xt]
  have Aa : x2.2.1 ≤ s.size := xt ▸ qe Ml
  try simp only [List.set_cons_zero,List.set_cons_succ]
  simp only [sl,List.length_map,bB,go_sem,reduceIte,zA,zB,zC,zD,zE,zF,reduceCtorEq]
  refine cW (tn s gQ x2.2.1 x2.2.2 Aa _ 1 rfl) ?_
  rintro _ _ ⟨rfl, rfl⟩
  obtain ⟨x3, JA⟩ : ∃ x, x = k8 s x2.2.1 x2.2.2 := ⟨_, rfl⟩
  rw [← JA]
  have BK : x3.2.1 ≤ s.size := JA ▸ qe Aa
  try simp only [List.set_cons_zero,List.set_cons_succ]
  simp only [sl,List.length_map,bB,go_sem,reduceIte,zA,zB,zC,zD,zE,zF,reduceCtorEq]
  refine cW (pZ s gQ 1 x3.2.1 x3.2.2 BK _ 1 rfl) ?_
  rintro _ _ ⟨rfl, rfl⟩
  obtain ⟨x4, FY⟩ : ∃ x, x = qV 1 s x3.2.1 x3.2.2 := ⟨_, rfl⟩
  rw [← FY]
  have Ya : x4.2.1 ≤ s.size := FY ▸ w8 BK
  try simp only [List.set_cons_zero,List.set_cons_succ]
  simp only [sl,List.length_map,bB,go_sem,reduceIte,zA,zB,zC,zD,zE,zF,reduceCtorEq]
  refine cW (lU s gQ x4.2.1 x4.2.2 Ya _ 1 rfl) ?_
  rintro _ _ ⟨rfl, rfl⟩
  obtain ⟨x5, WY⟩ : ∃ x, x = lT s x4.2.1 x4.2.2 := ⟨_, rfl⟩
  rw [← WY]
  have Yb : x5.2.1 ≤ s.size := WY ▸ qf Ya
  try simp only [List.set_cons_zero,List.set_cons_succ]
  simp only [sl,List.length_map,bB,go_sem,reduceIte,zA,zB,zC,zD,zE,zF,reduceCtorEq]
  refine cW (lU s gQ x5.2.1 x5.2.2 Yb _ 1 rfl) ?_
  rintro _ _ ⟨rfl, rfl⟩
  obtain ⟨x6, WZ⟩ : ∃ x, x = lT s x5.2.1 x5.2.2 := ⟨_, rfl⟩
  rw [← WZ]
  have Yc : x6.2.1 ≤ s.size := WZ ▸ qf Yb
  try simp only [List.set_cons_zero,List.set_cons_succ]
  simp only [sl,List.length_map,bB,go_sem,reduceIte,zA,zB,zC,zD,zE,zF,reduceCtorEq]
  refine cW (lU s gQ x6.2.1 x6.2.2 Yc _ 1 rfl) ?_
  rintro _ _ ⟨rfl, rfl⟩
  obtain ⟨x7, W0⟩ : ∃ x, x = lT s x6.2.1 x6.2.2 := ⟨_, rfl⟩
  rw [← W0]
  have Yd : x7.2.1 ≤ s.size := W0 ▸ qf Yc
  try simp only [List.set_cons_zero,List.set_cons_succ]
  simp only [sl,List.length_map,bB,go_sem,reduceIte,zA,zB,zC,zD,zE,zF,reduceCtorEq]
  refine cW (pZ s gQ 16 x7.2.1 x7.2.2 Yd _ 1 rfl) ?_
  rintro _ _ ⟨rfl, rfl⟩
  obtain ⟨x8, UG⟩ : ∃ x, x = qV 16 s x7.2.1 x7.2.2 := ⟨_, rfl⟩
  rw [← UG]
  have Ye : x8.2.1 ≤ s.size := UG ▸ w8 Yd
  have hm8 : (x8.1 : Int) ≤ 16 := UG ▸ tB (by decide)
  try simp only [List.set_cons_zero,List.set_cons_succ]
  simp only [sl,List.length_map,bB,go_sem,reduceIte,zA,zB,zC,zD,zE,zF,reduceCtorEq]
  obtain ⟨h, hh⟩ : ∃ x : Rl, x = ⟨x1.1, ⟨bQ x1.1, (x2.1 : Int), (x3.1 : Int)⟩, [], x5.1, x6.1, x7.1, decide ((x4.1 : Int) = 1)⟩ := ⟨_, rfl⟩
  obtain ⟨N, hN⟩ : ∃ x, x = x8.1 := ⟨_, rfl⟩
  have W1 : xb s = (h, N, x8.2) := by rw [hh, hN, UG, W0, WZ, WY, FY, JA, xt, r5]; rfl
  have e1 : x1.1 = h.path := by rw [hh]
  have e2 : bQ x1.1 = h.aC.mj := by rw [hh]
  have e3 : (x2.1 : Int) = h.aC.mn := by rw [hh]
  have e4 : (x3.1 : Int) = h.aC.pt := by rw [hh]
  have e5 : x5.1 = h.ar := by rw [hh]
  have e6 : x6.1 = h.gg := by rw [hh]
  have e7 : x7.1 = h.ce := by rw [hh]
  have e8 : decide ((x4.1 : Int) = 1) = h.yk := by rw [hh]
  rw [e1] at FT
  simp only [e2,e3,e4,e5,e6,e7,e8,← hN]
  rw [e1]
  have ZV : N ≤ 16 := by omega
  have hhr : h.reqs = [] := by rw [hh]
  refine CT 2 4 0 2 rfl rfl ?_
  refine ct tt_ok [17,19] (fun b : Nat × List Rq × Nat × Int => [(0, str s), (2, .ptr 0 0), (4, .ptr 1 0), (5, .ptr 2 0), (46, num N), (47, num b.1)]) (fun b : Nat × List Rq × Nat × Int => [.box [str ⟨#[]⟩, num 0, num 0, num 0, .sc (.slice none 0 0), str ⟨#[]⟩, str ⟨#[]⟩, str ⟨#[]⟩, bl false], .box [str s, num b.2.2.1, num b.2.2.2], .box [str h.path, num h.aC.mj, num h.aC.mn, num h.aC.pt, .ms 3 b.1 0 b.1, str h.ar, str h.gg, str h.ce, bl h.yk], .rows b.1 2 (b.2.1.map al)]) (fun b => N - b.1) (fun b => b.1 ≤ N ∧ b.2 = Ad s b.1 x8.2 ∧ b.2.2.1 ≤ s.size ∧ b.2.1.length = b.1) ((0, [], x8.2)) 4 (ba (by omega) (by simp only [sl,List.length_map,bB,List.map_nil,Int.cast_ofNat_Int,go_sem,reduceIte,zA,zB,zC,zD,zE,zF,reduceCtorEq] <;> rfl)) (⟨Nat.zero_le _, rfl, Ye, rfl⟩) ?_
  rintro ⟨i, Q, a, e⟩ ⟨hi, hq, Mc, Q4⟩
  try dsimp only at hi hq Mc Q4 ⊢
  intro Z1 bP
  simp only [sl,List.length_map,bB,go_sem,reduceIte,zA,zB,zC,zD,zE,zF,reduceCtorEq]
  refine aL (fun PJ => ?_) (fun PJ => ?_)
  ·have aB : i < N := by simpa using PJ
   have hw := ax i (by omega)
   simp only [hw,sl,List.length_map,bB,go_sem,reduceIte,zA,zB,zC,zD,zE,zF,reduceCtorEq]
   refine cW (lU s gQ a e Mc _ 1 rfl) ?_
   rintro _ _ ⟨rfl, rfl⟩
   obtain ⟨y1, OM⟩ : ∃ x, x = lT s a e := ⟨_, rfl⟩
   rw [← OM]
   have fJ : y1.2.1 ≤ s.size := OM ▸ qf Mc
   have hzk : y1.1.size ≤ s.size := OM ▸ tA _ _ _
   try simp only [List.set_cons_zero,List.set_cons_succ]
   simp only [hw,sl,List.length_map,bB,go_sem,reduceIte,zA,zB,zC,zD,zE,zF,reduceCtorEq]
   refine cW (pZ s gQ (s.size : Int) y1.2.1 y1.2.2 fJ _ 1 rfl) ?_
   rintro _ _ ⟨rfl, rfl⟩
   obtain ⟨y2, ON⟩ : ∃ x, x = qV (s.size : Int) s y1.2.1 y1.2.2 := ⟨_, rfl⟩
   rw [← ON]
   have jA : y2.2.1 ≤ s.size := ON ▸ w8 fJ
   have NZ : (y2.1 : Int) ≤ (s.size : Int) := ON ▸ tB (by omega)
   obtain ⟨C, hC⟩ : ∃ x, x = y2.1 := ⟨_, rfl⟩
   rw [← hC]
   obtain ⟨T, hT⟩ : ∃ x, x = y1.1 := ⟨_, rfl⟩
   rw [← hT]
   try simp only [List.set_cons_zero,List.set_cons_succ]
   simp only [hw,sl,List.length_map,bB,go_sem,reduceIte,zA,zB,zC,zD,zE,zF,reduceCtorEq]
   refine CT 4 1 0 2 rfl rfl ?_
   refine ct tt_ok [17,19] (fun d : Nat × List bG × Nat × Int => [(0, str s), (2, .ptr 0 0), (4, .ptr 1 0), (5, .ptr 2 0), (9, .ptr 4 0), (46, num N), (47, num i), (55, num C), (56, num d.1)]) (fun d : Nat × List bG × Nat × Int => [.box [str ⟨#[]⟩, num 0, num 0, num 0, .sc (.slice none 0 0), str ⟨#[]⟩, str ⟨#[]⟩, str ⟨#[]⟩, bl false], .box [str s, num d.2.2.1, num d.2.2.2], .box [str h.path, num h.aC.mj, num h.aC.mn, num h.aC.pt, .ms 3 i 0 i, str h.ar, str h.gg, str h.ce, bl h.yk], .rows i 2 (Q.map al), .box [str T, .ms 5 d.1 0 d.1], .rows d.1 2 (d.2.1.map aj)]) (fun d => C - d.1) (fun d => d.1 ≤ C ∧ Ac s C y2.2 = (d.2.1 ++ (Ac s (C - d.1) d.2.2).1, (Ac s (C - d.1) d.2.2).2) ∧ d.2.2.1 ≤ s.size ∧ d.2.1.length = d.1) ((0, [], y2.2)) 6 (ba (by omega) (by simp only [hw,sl,List.length_map,bB,List.map_nil,Int.cast_ofNat_Int,go_sem,reduceIte,zA,zB,zC,zD,zE,zF,reduceCtorEq] <;> rfl)) (⟨Nat.zero_le _, rfl, jA, rfl⟩) ?_
   rintro ⟨j, L, a2, e2⟩ ⟨hj, tW, H9, Bw⟩
   try dsimp only at hj tW H9 Bw ⊢
   intro Z2 mP
   simp only [hw,sl,List.length_map,bB,go_sem,reduceIte,zA,zB,zC,zD,zE,zF,reduceCtorEq]
   refine aL (fun rq => ?_) (fun rq => ?_)
   ·have W2 : j < C := by simpa using rq
    have Lo := ax j (by omega)
    simp only [hw,Lo,sl,List.length_map,bB,go_sem,reduceIte,zA,zB,zC,zD,zE,zF,reduceCtorEq]
    refine cS (ES s gQ a2 e2 _ 1 rfl) ?_
    rintro _ rfl
    simp only [hw,Lo,sl,List.length_map,bB,go_sem,reduceIte,zA,zB,zC,zD,zE,zF,reduceCtorEq]
    refine aL (fun PK => ?_) (fun PK => ?_)
    ·have Uw : e2 ≠ 0 := by simpa using PK
     simp only [hw,Lo,sl,List.length_map,bB,go_sem,reduceIte,zA,zB,zC,zD,zE,zF,reduceCtorEq]
     refine pS (k := 4) (vs' := [str T, .slice (L.map aj)]) rfl (by simp [cD, eA, bD, Bw, kj, List.take_of_length_le]) ?_
     have tC : ∀ (x : ByteArray) (y : List V), ca [V.agg [str x, .slice y]] 0 2 = true := fun x y => rfl
     have PL : i + 1 ≤ 34359738368 := by omega
     have W3 : (Q.map al).length = i := by rw [List.length_map, Q4]
     refine A3 tt_ok ?_
     simp only [hw,Lo,tC,PL,W3,List.length_append,List.length_cons,List.length_nil,Nat.zero_add,sl,List.length_map,bB,go_sem,reduceIte,zA,zB,zC,zD,zE,zF,reduceCtorEq]
     have xx : nT s (a, e) = (⟨T, L⟩, a2, e2) := by
      unfold nT
      dsimp only
      rw [← OM, ← ON, ← hC, ← hT]
      have hb := tW
      have fk : Ac s (C - j) (a2, e2) = ([], a2, e2) := by first | (rw [show C - j = 0 by omega]; rfl) | (obtain ⟨k, hk⟩ : ∃ k, C - j = k + 1 := ⟨C - j - 1, by omega⟩; rw [hk, Ac, if_pos Uw])
      rw [fk] at hb
      simp only [List.append_nil] at hb
      rw [hb]
     refine bP _ ⟨(i + 1, Q ++ [⟨T, L⟩], a2, e2), ?_, ?_, ba (by omega) (by (simp only [hw,List.map_append,List.map_cons,List.map_nil,al,ak,go_sem,reduceIte,zA,zB,zC,zD,zE,zF,reduceCtorEq]))⟩
     ·exact ⟨aB, by dsimp only; rw [w9, ← hq]; dsimp only; rw [xx], H9, by dsimp only; rw [List.length_append, Q4]; rfl⟩
     ·dsimp only; omega
    ·have Ji : e2 = 0 := by simpa using PK
     have fp : ∀ x y : Int, ca [V.agg [num x, num y]] 0 2 = true := fun x y => rfl
     have Lp : j + 1 ≤ 34359738368 := by omega
     have UH : (L.map aj).length = j := by rw [List.length_map, Bw]
     simp only [hw,Lo,fp,Lp,UH,List.length_append,List.length_cons,List.length_nil,Nat.zero_add,sl,List.length_map,bB,go_sem,reduceIte,zA,zB,zC,zD,zE,zF,reduceCtorEq]
     refine bu tt_ok aD [⟨.n, 0, [], [], []⟩, ⟨.r, 0, [], [0], [1]⟩, ⟨.n, 0, [], [], []⟩, ⟨.e, 1, [], [2], []⟩, ⟨.n, 0, [], [], []⟩, ⟨.e, 1, [], [2,3,4], []⟩, ⟨.n, 0, [], [2,3,4,5], []⟩, ⟨.n, 0, [], [2,3,4,5,6], []⟩, ⟨.w, 0, [], [0,1,2,3,4,5,6,7], []⟩, ⟨.n, 0, [], [0,1,2,3,4,5,6,7,8], []⟩, ⟨.w, 1, [], [0,1,2,3,4,5,6,7,8,9], []⟩] 2 (by kernel_rfl) ?_
     simp only [hw,Lo,fp,Lp,UH,List.length_append,List.length_cons,List.length_nil,Nat.zero_add,sl,List.length_map,bB,go_sem,reduceIte,zA,zB,zC,zD,zE,zF,reduceCtorEq]
     refine XP rfl rfl (tp s gQ a2 e2 H9 1) ?_
     rintro _ _ ⟨rfl, rfl⟩
     obtain ⟨z1, FT⟩ : ∃ x, x = k8 s a2 e2 := ⟨_, rfl⟩
     rw [← FT]
     have Yf : z1.2.1 ≤ s.size := FT ▸ qe H9
     try simp only [List.set_cons_zero,List.set_cons_succ]
     simp only [hw,Lo,fp,Lp,UH,List.length_append,List.length_cons,List.length_nil,Nat.zero_add,sl,List.length_map,bB,go_sem,reduceIte,zA,zB,zC,zD,zE,zF,reduceCtorEq]
     refine XP rfl rfl (tp s gQ z1.2.1 z1.2.2 Yf 1) ?_
     rintro _ _ ⟨rfl, rfl⟩
     obtain ⟨z2, EZ⟩ : ∃ x, x = k8 s z1.2.1 z1.2.2 := ⟨_, rfl⟩
     rw [← EZ]
     have ZW : z2.2.1 ≤ s.size := EZ ▸ qe Yf
     try simp only [List.set_cons_zero,List.set_cons_succ]
     simp only [hw,Lo,fp,Lp,UH,List.length_append,List.length_cons,List.length_nil,Nat.zero_add,sl,List.length_map,bB,go_sem,reduceIte,zA,zB,zC,zD,zE,zF,reduceCtorEq]
     refine mP _ ⟨(j + 1, L ++ [⟨(z1.1 : Int), (z2.1 : Int)⟩], z2.2), ?_, ?_, ba (by omega) (by (simp only [Lo,List.map_append,List.map_cons,List.map_nil,aj,go_sem,reduceIte,zA,zB,zC,zD,zE,zF,reduceCtorEq]))⟩
     ·refine ⟨W2, ?_, ZW, by dsimp only; rw [List.length_append, Bw]; rfl⟩
      dsimp only
      rw [tW, show C - j = C - (j + 1) + 1 by omega, Ac, if_neg (by simp [Ji])]
      dsimp only
      rw [← FT, ← EZ, List.append_assoc]; rfl
     ·dsimp only; omega
   ·have ZX : ¬ j < C := by simpa using rq
    simp only [hw,sl,List.length_map,bB,go_sem,reduceIte,zA,zB,zC,zD,zE,zF,reduceCtorEq]
    refine pS (k := 4) (vs' := [str T, .slice (L.map aj)]) rfl (by simp [cD, eA, bD, Bw, kj, List.take_of_length_le]) ?_
    have tC : ∀ (x : ByteArray) (y : List V), ca [V.agg [str x, .slice y]] 0 2 = true := fun x y => rfl
    have PL : i + 1 ≤ 34359738368 := by omega
    have W3 : (Q.map al).length = i := by rw [List.length_map, Q4]
    refine A3 tt_ok ?_
    simp only [hw,tC,PL,W3,List.length_append,List.length_cons,List.length_nil,Nat.zero_add,sl,List.length_map,bB,go_sem,reduceIte,zA,zB,zC,zD,zE,zF,reduceCtorEq]
    have xx : nT s (a, e) = (⟨T, L⟩, a2, e2) := by
     unfold nT
     dsimp only
     rw [← OM, ← ON, ← hC, ← hT]
     have hb := tW
     have fk : Ac s (C - j) (a2, e2) = ([], a2, e2) := by first | (rw [show C - j = 0 by omega]; rfl) | (obtain ⟨k, hk⟩ : ∃ k, C - j = k + 1 := ⟨C - j - 1, by omega⟩; rw [hk, Ac, if_pos Uw])
     rw [fk] at hb
     simp only [List.append_nil] at hb
     rw [hb]
    refine bP _ ⟨(i + 1, Q ++ [⟨T, L⟩], a2, e2), ?_, ?_, ba (by omega) (by (simp only [hw,List.map_append,List.map_cons,List.map_nil,al,ak,go_sem,reduceIte,zA,zB,zC,zD,zE,zF,reduceCtorEq]))⟩
    ·exact ⟨aB, by dsimp only; rw [w9, ← hq]; dsimp only; rw [xx], H9, by dsimp only; rw [List.length_append, Q4]; rfl⟩
    ·dsimp only; omega
  ·have cB : ¬ i < N := by simpa using PJ
   obtain rfl : i = N := by omega
   have jq : zu s = ({ h with reqs := Q }, a, e) := by unfold zu; rw [W1]; dsimp only; rw [← hq]
   simp only [sl,List.length_map,bB,go_sem,reduceIte,zA,zB,zC,zD,zE,zF,reduceCtorEq]
   refine pS (k := 2) (vs' := [str h.path, num h.aC.mj, num h.aC.mn, num h.aC.pt, .slice (Q.map al), str h.ar, str h.gg, str h.ce, bl h.yk]) rfl (by simp [cD, eA, bD, Q4, kj, List.take_of_length_le]) ?_
   have Pz : tY [{ h with reqs := Q }] := by
    refine ⟨by simp, fun r hr => ?_⟩
    rw [List.mem_singleton] at hr; subst hr
    have h2 := H8 s i x8.2 Ye
    rw [← hq] at h2
    refine ⟨by dsimp only; omega, by dsimp only; omega, fun q K7 => ?_⟩
    have := h2.2.2 q K7
    exact ⟨by omega, by omega⟩
   refine Uu tt_ok [17,19] ?_
   simp only [sl,List.length_map,bB,go_sem,reduceIte,zA,zB,zC,zD,zE,zF,reduceCtorEq]
   refine cS (K2 s gQ a e _ 1 rfl) ?_
   rintro _ rfl
   simp only [sl,List.length_map,bB,go_sem,reduceIte,zA,zB,zC,zD,zE,zF,reduceCtorEq]
   refine aL (fun BL => ?_) (fun BL => ?_)
   ·have bO : pY s a e ≠ 0 := by simpa using BL
    have hR : lY s = .bT [ag nS, num 9] := by unfold lY nU; rw [jq, if_neg (by simp [bO])]
    simp only [sl,List.length_map,bB,go_sem,reduceIte,zA,zB,zC,zD,zE,zF,reduceCtorEq]
    exact hK _ (hR.symm)
   ·have ZY : pY s a e = 0 := by simpa using BL
    simp only [sl,List.length_map,bB,go_sem,reduceIte,zA,zB,zC,zD,zE,zF,reduceCtorEq]
    refine cF (by have hh := vi hG [{ h with reqs := Q }] Pz []; simp only [aY,List.map_cons,List.map_nil,ag,ab,ah] at hh; exact hh) ?_
    rintro _ rfl
    simp only [sl,List.length_map,bB,go_sem,reduceIte,zA,zB,zC,zD,zE,zF,reduceCtorEq]
    refine aL (fun PM => ?_) (fun PM => ?_)
    ·have hR : lY s = .bT [ag nS, num 9] := by
      first
      | exact hR
      | (unfold lY nU; rw [jq, if_neg (by have : ¬ dK [{ h with reqs := Q }] = 0 := (by simpa using PM); simp [this])])
     simp only [sl,List.length_map,bB,go_sem,reduceIte,zA,zB,zC,zD,zE,zF,reduceCtorEq]
     exact hK _ (hR.symm)
    ·have hR : lY s = .bT [ag { h with reqs := Q }, num 0] := by
      unfold lY nU
      rw [jq, ← r5, if_pos (by have : dK [{ h with reqs := Q }] = 0 := (by simpa using PM); simp [this, ZU, ZY])]
     simp only [sl,List.length_map,bB,go_sem,reduceIte,zA,zB,zC,zD,zE,zF,reduceCtorEq]
     exact hK _ (hR.symm)
end Go.Proofs.YtnfeacnbgbggfaaGreatDoor
end

section
namespace Go.Proofs.YtnfeacnbgbggfaaGreatDoor
open Go.Eng
variable [aG]
theorem Dj (n : Nat) : mQ (n : Int) = uv n := by unfold mQ; rw [Int.toNat_natCast]
theorem tD {s t : ByteArray} {a : Nat} {rest : List UInt8} (hn : t.size < 9223372036854775808) (h : from_ s a = eT t ++ rest) : ∃ j, lT s a 0 = (t, j, 0) ∧ from_ s j = rest := by
 obtain ⟨h1, h2⟩ := OP hn h
 exact ⟨_, by unfold lT; rw [if_neg (by simp), h1], h2⟩
theorem xd {s : ByteArray} {a n : Nat} {rest : List UInt8} (hn : n < 9223372036854775808) (h : from_ s a = uv n ++ rest) : ∃ j, k8 s a 0 = (n, j, 0) ∧ from_ s j = rest := by
 obtain ⟨h1, h2⟩ := Bc hn h
 exact ⟨_, by unfold k8; rw [if_neg (by simp), h1], h2⟩
theorem BM {m : Int} {s : ByteArray} {a n : Nat} {rest : List UInt8} (hn : n < 9223372036854775808) (hm : (n : Int) ≤ m) (h : from_ s a = uv n ++ rest) : ∃ j, qV m s a 0 = (n, j, 0) ∧ from_ s j = rest := by
 obtain ⟨h1, h2⟩ := Bc hn h
 exact ⟨_, by unfold qV; rw [if_neg (by simp), h1]; exact if_pos hm, h2⟩
theorem tE {n : Int} (h0 : 0 ≤ n) : ∃ k : Nat, n = k ∧ mQ n = uv k := ⟨n.toNat, by omega, rfl⟩
theorem Ia {s : ByteArray} : ∀ (l : List bG) (a : Nat) (rest : List UInt8), (∀ x ∈ l, nN x) → from_ s a = l.flatMap EV ++ rest → ∃ j, Ac s l.length (a, 0) = (l, j, 0) ∧ from_ s j = rest
 | [], a, rest, _, h => ⟨a, rfl, h⟩
 | x :: t, a, rest, hx, h => by
  have hb := hx x (by simp)
  unfold nN at hb
  obtain ⟨k1, e1, u1⟩ := tE (n := x.lo) (by omega)
  obtain ⟨k2, e2, u2⟩ := tE (n := x.hi) (by omega)
  rw [List.flatMap_cons, EV, u1, u2, List.append_assoc, List.append_assoc] at h
  obtain ⟨j1, h1, FI⟩ := xd (by omega) h
  obtain ⟨j2, h2, Q0⟩ := xd (by omega) FI
  obtain ⟨j, h3, h4⟩ := Ia t j2 rest (fun y hy => hx y (by simp [hy])) Q0
  refine ⟨j, ?_, h4⟩
  rw [List.length_cons, Ac, if_neg (by simp)]
  simp only [h1,h2,h3,Prod.mk.injEq,and_true,List.cons.injEq]
  exact bG.ext' e1.symm e2.symm
theorem Lq {s : ByteArray} {q : Rq} {a : Nat} {rest : List UInt8} (hw : QX q) (hp : q.path.size ≤ 1048576) (hl : q.set.length ≤ s.size) (hs : s.size ≤ 1048576) (h : from_ s a = vk q ++ rest) : ∃ j, nT s (a, 0) = (q, j, 0) ∧ from_ s j = rest := by
 unfold vk at h
 rw [Dj, List.append_assoc, List.append_assoc] at h
 obtain ⟨j1, h1, FI⟩ := tD (by omega) h
 obtain ⟨j2, h2, Q0⟩ := BM (m := (s.size : Int)) (by omega) (by omega) FI
 obtain ⟨j, h3, h4⟩ := Ia q.set j2 rest (kL hw) Q0
 refine ⟨j, ?_, h4⟩
 unfold nT
 simp only [h1,h2,h3]
theorem Lr (q : Rq) : q.set.length ≤ (vk q).length := by
 unfold vk
 rw [List.length_append]
 have : ∀ l : List bG, l.length ≤ (l.flatMap EV).length := by
  intro l
  induction l with
  | nil => simp
  | cons x t ih =>
   rw [List.flatMap_cons, List.length_append, List.length_cons]
   have h1 : 0 < (EV x).length := by unfold EV mQ; rw [List.length_append]; have := Pu x.lo.toNat; omega
   omega
 have := this q.set
 omega
theorem Ib {s : ByteArray} (hs : s.size ≤ 1048576) : ∀ (l : List Rq) (a : Nat) (rest : List UInt8), (∀ q ∈ l, QX q ∧ q.path.size ≤ 1048576) → from_ s a = l.flatMap vk ++ rest → ∃ j, Ad s l.length (a, 0) = (l, j, 0) ∧ from_ s j = rest
 | [], a, rest, _, h => ⟨a, rfl, h⟩
 | q :: t, a, rest, hq, h => by
  have h0 := hq q (by simp)
  rw [List.flatMap_cons, List.append_assoc] at h
  have hlen : q.set.length ≤ s.size := by
   have h1 := congrArg List.length h
   rw [jh, List.length_append] at h1
   have := Lr q
   omega
  obtain ⟨j1, h1, FI⟩ := Lq h0.1 h0.2 hlen hs h
  obtain ⟨j, h3, h4⟩ := Ib hs t j1 rest (fun y hy => hq y (by simp [hy])) FI
  refine ⟨j, ?_, h4⟩
  rw [List.length_cons, Ad]
  simp only [h1,h3]
theorem E4 (s : ByteArray) : from_ s 0 = bp s := by unfold from_ bp; rw [List.drop_zero]
theorem E5 {s : ByteArray} {j : Nat} (h : from_ s j = []) : pY s j 0 = 0 := by
 have h1 := congrArg List.length h
 rw [jh] at h1
 unfold pY
 rw [if_neg]
 intro h2
 simp at h1
 omega
theorem Ic {r : Rl} (h : dK [r] = 0) (hb : Jm r) (hs : (qa r).length ≤ 1048576) : lY (bs (qa r)) = .bT [ag r, num 0] := by
 have hw := HT (BI r ▸ h)
 have hv := rM hw.aC
 have ka : (bs (qa r)).size ≤ 1048576 := by rw [o7]; exact hs
 have h0 : from_ (bs (qa r)) 0 = qa r := by rw [E4, jS]
 generalize hS : bs (qa r) = s at *
 obtain ⟨k1, e1, u1⟩ := tE (n := r.aC.mn) (by omega)
 obtain ⟨k2, e2, u2⟩ := tE (n := r.aC.pt) (by omega)
 obtain ⟨k3, e3, u3⟩ := tE (n := xw r) (nO r).1
 have hk3 := nO r
 have FL := h0
 unfold qa FJ at h0
 rw [u1, u2, u3, Dj] at h0
 simp only [List.append_assoc] at h0
 have s1 := fN hw.ar
 have s2 := fN hw.gg
 have s3 := fN hw.ce
 obtain ⟨j1, p1, q1⟩ := tD (by have := hb.1; omega) h0
 obtain ⟨j2, p2, q2⟩ := xd (by omega) q1
 obtain ⟨j3, p3, q3⟩ := xd (by omega) q2
 obtain ⟨j4, p4, q4⟩ := BM (m := 1) (by omega) (by omega) q3
 obtain ⟨j5, p5, q5⟩ := tD (by omega) q4
 obtain ⟨j6, p6, q6⟩ := tD (by omega) q5
 obtain ⟨j7, p7, q7⟩ := tD (by omega) q6
 obtain ⟨j8, p8, q8⟩ := BM (m := 16) (by have := hw.len; omega) (by have := hw.len; omega) q7
 obtain ⟨j9, p9, q9⟩ := Ib ka r.reqs j8 [] (fun q hq => ⟨hw.reqs q hq, (hb.2.2 q hq).1⟩) (by rw [List.append_nil]; exact q8)
 have Ls : decide ((k3 : Int) = 1) = r.yk := by
  rw [← e3]
  unfold xw
  cases r.yk <;> simp
 have W1 : xb s = (⟨r.path, ⟨bQ r.path, r.aC.mn, r.aC.pt⟩, [], r.ar, r.gg, r.ce, r.yk⟩, r.reqs.length, j8, 0) := by
  unfold xb
  simp only [p1,p2,p3,p4,p5,p6,p7,p8,Ls,← e1,← e2]
 have jq : zu s = (r, j9, 0) := by
  unfold zu
  rw [W1]
  simp only [p9,Prod.mk.injEq,and_true]
  rw [← hw.mj]
 have bM : nU s = true := by
  unfold nU
  rw [jq, p1]
  simp only [E5 q9,hw.path,h,decide_true,Bool.and_self]
 unfold lY
 rw [if_pos bM, jq]
end Go.Proofs.YtnfeacnbgbggfaaGreatDoor
end

section
namespace Go.Proofs.YtnfeacnbgbggfaaGreatDoor
open Go.Eng
open Nat renaming reduceAdd → zA, reduceLT → zB, reduceLeDiff → zC, reduceMul → zD, reduceEqDiff → zE, reduceSub → zF
variable [aG]
set_option maxHeartbeats 4000000
set_option maxRecDepth 100000
theorem Rq.ext' {a b : Rq} (h1 : a.path = b.path) (h2 : a.set = b.set) : a = b := by cases a; cases b; simp_all
instance : DecidableEq Rq := fun a b => if h : a.path = b.path ∧ a.set = b.set then .isTrue (Rq.ext' h.1 h.2) else .isFalse fun e => h (by subst e; exact ⟨rfl, rfl⟩)
theorem Rl.ext' {a b : Rl} (h1 : a.path = b.path) (h2 : a.aC = b.aC) (h3 : a.reqs = b.reqs) (h4 : a.ar = b.ar) (h5 : a.gg = b.gg) (h6 : a.ce = b.ce) (h7 : a.yk = b.yk) : a = b := by cases a; cases b; simp_all
instance : DecidableEq Rl := fun a b => if h : a.path = b.path ∧ a.aC = b.aC ∧ a.reqs = b.reqs ∧ a.ar = b.ar ∧ a.gg = b.gg ∧ a.ce = b.ce ∧ a.yk = b.yk then .isTrue (Rl.ext' h.1 h.2.1 h.2.2.1 h.2.2.2.1 h.2.2.2.2.1 h.2.2.2.2.2.1 h.2.2.2.2.2.2) else .isFalse fun e => h (by subst e; exact ⟨rfl, rfl, rfl, rfl, rfl, rfl, rfl⟩)
theorem bool_beq (p q : Bool) : (p == q) = decide (p = q) := by cases p <;> cases q <;> rfl
theorem BN (s t : List Rq) (hl : s.length ≤ 1048576) (hb : ∀ q ∈ s, qS q) : ∃ r_, (fun w => w = bl (decide (s = t))) r_ ∧ aP Tryz.prog 74 [ah s, ah t] r_ := by
 refine dI tt_ok [] 42 [.tmp 4] (fn := Tryz.f74) Tryz.func74 rfl Tryz.call74 ⟨rfl, rfl, by simp⟩ fun K hK => ?_
 simp only [ah]
 simp only [List.length_map,go_sem,reduceIte,zA,zB,zC,zD,zE,zF,reduceCtorEq]
 refine aL (fun cE => ?_) (fun cE => ?_)
 ·have aw : false = decide (s = t) := by
   refine (decide_eq_false fun e => ?_).symm
   subst e; simp at cE
  simp only [List.length_map,go_sem,reduceIte,zA,zB,zC,zD,zE,zF,reduceCtorEq]
  exact hK _ (congrArg bl aw)
 ·have gG : s.length = t.length := by have := cE; simp at this; omega
  simp only [List.length_map,go_sem,reduceIte,zA,zB,zC,zD,zE,zF,reduceCtorEq]
  refine bA tt_ok [] [5] 0 [0,1,10] (fun vs => ((s.length : Int) - Go.Eng.intOf (vs.headD .undef)).toNat) (fun vs => ∃ i : Nat, vs = [num i] ∧ i ≤ s.length ∧ ∀ j < i, s[j]? = t[j]?) (by omega) (by simp only [List.length_map,go_sem,reduceIte,zA,zB,zC,zD,zE,zF,reduceCtorEq]) (⟨0, rfl, Nat.zero_le _, fun j hj => absurd hj (Nat.not_lt_zero j)⟩) fun vs hI Z1 bP => ?_
  obtain ⟨i, rfl, hi, aS⟩ := hI
  simp only [List.length_map,go_sem,reduceIte,zA,zB,zC,zD,zE,zF,reduceCtorEq]
  refine aL (fun cq => ?_) (fun cq => ?_)
  ·have aB : i < s.length := by simpa using cq
   have hw := ax i (by omega)
   obtain ⟨x, hx⟩ : ∃ x, s[i]? = some x := ⟨_, List.getElem?_eq_getElem aB⟩
   obtain ⟨y, hy⟩ : ∃ y, t[i]? = some y := ⟨_, List.getElem?_eq_getElem (by omega)⟩
   simp only [hw,List.getElem?_map,hx,hy,al,ak,Option.map_some,List.length_map,go_sem,reduceIte,zA,zB,zC,zD,zE,zF,reduceCtorEq]
   refine bu tt_ok aD [⟨.n, 0, [], [], []⟩, ⟨.n, 0, [], [], []⟩, ⟨.r, 0, [], [], []⟩, ⟨.n, 0, [], [], []⟩, ⟨.r, 0, [], [], []⟩, ⟨.n, 0, [], [], []⟩, ⟨.n, 0, [], [], []⟩, ⟨.r, 0, [], [], []⟩, ⟨.n, 0, [], [], []⟩, ⟨.r, 0, [], [], []⟩, ⟨.n, 0, [], [], []⟩, ⟨.n, 0, [], [], []⟩, ⟨.n, 0, [], [], []⟩, ⟨.n, 0, [], [], []⟩, ⟨.r, 0, [], [], []⟩, ⟨.n, 0, [], [], []⟩, ⟨.r, 0, [], [], []⟩, ⟨.n, 0, [], [], []⟩, ⟨.n, 0, [], [], []⟩, ⟨.r, 0, [], [], []⟩, ⟨.n, 0, [], [], []⟩, ⟨.r, 0, [], [], []⟩, ⟨.n, 0, [], [], []⟩, ⟨.n, 0, [], [], []⟩, ⟨.n, 0, [], [], []⟩] 0 (by kernel_rfl) ?_
   simp only [hw,List.getElem?_map,hx,hy,al,ak,Option.map_some,List.length_map,go_sem,reduceIte,zA,zB,zC,zD,zE,zF,reduceCtorEq]
   refine aL (fun BO => ?_) (fun BO => ?_)
   ·have aw : false = decide (s = t) := by
     refine (decide_eq_false fun e => ?_).symm
     subst e; rw [hx] at hy; cases hy; simp [ao] at BO
    simp only [hw,List.getElem?_map,hx,hy,al,ak,Option.map_some,List.length_map,go_sem,reduceIte,zA,zB,zC,zD,zE,zF,reduceCtorEq]
    exact hK _ (congrArg bl aw)
   ·simp only [hw,List.getElem?_map,hx,hy,al,ak,Option.map_some,List.length_map,go_sem,reduceIte,zA,zB,zC,zD,zE,zF,reduceCtorEq]
    refine cG (by have h := wO x.set y.set (hb x (List.mem_of_getElem? hx)).2; simp only [ak] at h; exact h) ?_
    rintro _ rfl
    simp only [hw,List.getElem?_map,hx,hy,al,ak,Option.map_some,List.length_map,go_sem,reduceIte,zA,zB,zC,zD,zE,zF,reduceCtorEq]
    refine aL (fun mO => ?_) (fun mO => ?_)
    ·have aw : false = decide (s = t) := by
      first
      | exact aw
      | (refine (decide_eq_false fun e => ?_).symm; subst e; rw [hx] at hy; cases hy; simp at mO)
     simp only [hw,List.getElem?_map,hx,hy,al,ak,Option.map_some,List.length_map,go_sem,reduceIte,zA,zB,zC,zD,zE,zF,reduceCtorEq]
     exact hK _ (congrArg bl aw)
    ·simp only [hw,List.getElem?_map,hx,hy,al,ak,Option.map_some,List.length_map,go_sem,reduceIte,zA,zB,zC,zD,zE,zF,reduceCtorEq]
     refine bP _ (cA (by omega) (by simp only [hw,List.getElem?_map,hx,hy,al,ak,Option.map_some,List.length_map,go_sem,reduceIte,zA,zB,zC,zD,zE,zF,reduceCtorEq]) ?_ ?_) <;> simp only [fa,lk,reduceIte,zE]
     ·refine ⟨i + 1, rfl, aB, fun j hj => ?_⟩
      rcases Nat.lt_or_ge j i with h | h
      ·exact aS j h
      ·obtain rfl : j = i := by omega
       rw [hx, hy]
       have h9 := mO
       have Ui : x.path = y.path := by simpa [ao] using BO
       have Vi : x.set = y.set := by simpa using h9
       rw [Rq.ext' Ui Vi]
     ·simp only [Go.Eng.intOf,List.headD_cons]; omega
  ·have cB : ¬ i < s.length := by simpa using cq
   have aw : true = decide (s = t) := (decide_eq_true (gk gG fun j hj => aS j (by omega))).symm
   simp only [List.length_map,go_sem,reduceIte,zA,zB,zC,zD,zE,zF,reduceCtorEq]
   exact hK _ (congrArg bl aw)
theorem E6 (a b : Rl) (hb : Jm a) : ∃ r_, (fun w => w = bl (decide (a = b))) r_ ∧ aP Tryz.prog 21 [ag a, ag b] r_ := by
 refine dI tt_ok [] 52 [.tmp 4] (fn := Tryz.f21) Tryz.func21 rfl Tryz.call21 ⟨rfl, rfl, by simp⟩ fun K hK => ?_
 simp only [ag,ab,ah]
 have ZZ : Tryz.prog.underlying 4 = some .bool := by kernel_rfl
 have Dk := fun x y => JO (P := Tryz.prog) x y ZZ a.yk b.yk
 simp only [cV,Dk,go_sem,reduceIte,zA,zB,zC,zD,zE,zF,reduceCtorEq]
 refine aL (fun tq => ?_) (fun tq => ?_)
 ·simp only [cV,Dk,go_sem,reduceIte,zA,zB,zC,zD,zE,zF,reduceCtorEq]
  refine aL (fun Bn => ?_) (fun Bn => ?_)
  ·simp only [cV,Dk,go_sem,reduceIte,zA,zB,zC,zD,zE,zF,reduceCtorEq]
   refine aL (fun PN => ?_) (fun PN => ?_)
   ·simp only [cV,Dk,go_sem,reduceIte,zA,zB,zC,zD,zE,zF,reduceCtorEq]
    refine aL (fun PO => ?_) (fun PO => ?_)
    ·simp only [cV,Dk,go_sem,reduceIte,zA,zB,zC,zD,zE,zF,reduceCtorEq]
     refine aL (fun PQ => ?_) (fun PQ => ?_)
     ·simp only [cV,Dk,go_sem,reduceIte,zA,zB,zC,zD,zE,zF,reduceCtorEq]
      refine aL (fun PR => ?_) (fun PR => ?_)
      ·simp only [cV,Dk,go_sem,reduceIte,zA,zB,zC,zD,zE,zF,reduceCtorEq]
       refine cF (by have h := BN a.reqs b.reqs hb.2.1 hb.2.2; simp only [ah] at h; exact h) ?_
       rintro _ rfl
       simp only [cV,Dk,go_sem,reduceIte,zA,zB,zC,zD,zE,zF,reduceCtorEq]
       refine hK _ (congrArg bl ?_)
       obtain ⟨a1, a2, a3, a4, a5, a6, a7⟩ := a
       obtain ⟨b1, b2, b3, b4, b5, b6, b7⟩ := b
       simp_all [ao, bool_beq]
      ·simp only [cV,Dk,go_sem,reduceIte,zA,zB,zC,zD,zE,zF,reduceCtorEq]
       refine hK _ (congrArg bl ?_)
       obtain ⟨a1, a2, a3, a4, a5, a6, a7⟩ := a
       obtain ⟨b1, b2, b3, b4, b5, b6, b7⟩ := b
       simp_all [ao, bool_beq]
     ·simp only [cV,Dk,go_sem,reduceIte,zA,zB,zC,zD,zE,zF,reduceCtorEq]
      refine hK _ (congrArg bl ?_)
      obtain ⟨a1, a2, a3, a4, a5, a6, a7⟩ := a
      obtain ⟨b1, b2, b3, b4, b5, b6, b7⟩ := b
      simp_all [ao, bool_beq]
    ·simp only [cV,Dk,go_sem,reduceIte,zA,zB,zC,zD,zE,zF,reduceCtorEq]
     refine hK _ (congrArg bl ?_)
     obtain ⟨a1, a2, a3, a4, a5, a6, a7⟩ := a
     obtain ⟨b1, b2, b3, b4, b5, b6, b7⟩ := b
     simp_all [ao, bool_beq]
   ·simp only [cV,Dk,go_sem,reduceIte,zA,zB,zC,zD,zE,zF,reduceCtorEq]
    refine hK _ (congrArg bl ?_)
    obtain ⟨a1, a2, a3, a4, a5, a6, a7⟩ := a
    obtain ⟨b1, b2, b3, b4, b5, b6, b7⟩ := b
    simp_all [ao, bool_beq]
  ·simp only [cV,Dk,go_sem,reduceIte,zA,zB,zC,zD,zE,zF,reduceCtorEq]
   refine hK _ (congrArg bl ?_)
   obtain ⟨a1, a2, a3, a4, a5, a6, a7⟩ := a
   obtain ⟨b1, b2, b3, b4, b5, b6, b7⟩ := b
   simp_all [ao, bool_beq]
 ·simp only [cV,Dk,go_sem,reduceIte,zA,zB,zC,zD,zE,zF,reduceCtorEq]
  refine hK _ (congrArg bl ?_)
  obtain ⟨a1, a2, a3, a4, a5, a6, a7⟩ := a
  obtain ⟨b1, b2, b3, b4, b5, b6, b7⟩ := b
  simp_all [ao, bool_beq]
end Go.Proofs.YtnfeacnbgbggfaaGreatDoor
end

section
namespace Go.Proofs.YtnfeacnbgbggfaaGreatDoor
open Go.Eng
variable [aG]
structure RI (g : List Rl) (roots : List Rq) (S : List Rl) (P : List Rq) (X : Rq → Prop) : Prop where
 sub : ∀ r ∈ S, oY g roots r
 UI : ∀ q ∈ P, q ∈ roots ∨ ∃ a ∈ S, q ∈ a.reqs
 fS : ∀ q, (q ∈ roots ∨ ∃ a ∈ S, q ∈ a.reqs) → X q ∨ q ∈ P ∨ ∀ r ∈ g, ek q r = true → r ∈ S
theorem RI.start (g : List Rl) (roots : List Rq) : RI g roots [] roots fun _ => False :=
 ⟨fun r hr => by simp at hr, fun q hq => .inl hq, fun q hq => by
  rcases hq with hq | ⟨a, ha, -⟩
  ·exact .inr (.inl hq)
  ·simp at ha⟩
variable {g : List Rl} {roots : List Rq} {S : List Rl} {P : List Rq}
theorem RI.fin (h : RI g roots S [] fun _ => False) {r : Rl} : r ∈ S ↔ oY g roots r := by
 refine ⟨h.sub r, fun hr => ?_⟩
 induction hr with
 | root q r hq hr hh =>
  rcases h.fS q (.inl hq) with h1 | h1 | h1
  ·exact h1.elim
  ·simp at h1
  ·exact h1 r hr hh
 | step a q r _ hq hr hh ih =>
  rcases h.fS q (.inr ⟨a, ih, hq⟩) with h1 | h1 | h1
  ·exact h1.elim
  ·simp at h1
  ·exact h1 r hr hh
theorem RI.pop {q : Rq} (h : RI g roots S (q :: P) fun _ => False) : RI g roots S P (fun x => x = q) ∧ (q ∈ roots ∨ ∃ a ∈ S, q ∈ a.reqs) :=
 ⟨⟨h.sub, fun x hx => h.UI x (by simp [hx]), fun x hx => by
  rcases h.fS x hx with h1 | h1 | h1
  ·exact h1.elim
  ·rcases List.mem_cons.1 h1 with h1 | h1
   ·exact .inl h1
   ·exact .inr (.inl h1)
  ·exact .inr (.inr h1)⟩, h.UI q (by simp)⟩
theorem RI.W4 {q : Rq} {r : Rl} (h : RI g roots S P fun x => x = q) (hq : q ∈ roots ∨ ∃ a ∈ S, q ∈ a.reqs) (hr : r ∈ g) (hh : ek q r = true) : RI g roots (S ++ [r]) (P ++ r.reqs) fun x => x = q := by
 refine ⟨fun x hx => ?_, fun x hx => ?_, fun x hx => ?_⟩
 ·rcases List.mem_append.1 hx with hx | hx
  ·exact h.sub x hx
  ·rw [List.mem_singleton] at hx; subst hx
   rcases hq with hq | ⟨a, ha, hq⟩
   ·exact .root q x hq hr hh
   ·exact .step a q x (h.sub a ha) hq hr hh
 ·rcases List.mem_append.1 hx with hx | hx
  ·rcases h.UI x hx with h1 | ⟨a, ha, h1⟩
   ·exact .inl h1
   ·exact .inr ⟨a, List.mem_append_left _ ha, h1⟩
  ·exact .inr ⟨r, List.mem_append_right _ (List.mem_singleton.2 rfl), hx⟩
 ·have : (x ∈ roots ∨ ∃ a ∈ S, x ∈ a.reqs) ∨ x ∈ r.reqs := by
   rcases hx with hx | ⟨a, ha, hx⟩
   ·exact .inl (.inl hx)
   ·rcases List.mem_append.1 ha with ha | ha
    ·exact .inl (.inr ⟨a, ha, hx⟩)
    ·rw [List.mem_singleton] at ha; subst ha; exact .inr hx
  rcases this with hx | hx
  ·rcases h.fS x hx with h1 | h1 | h1
   ·exact .inl h1
   ·exact .inr (.inl (List.mem_append_left _ h1))
   ·exact .inr (.inr fun y hy Vr => List.mem_append_left _ (h1 y hy Vr))
  ·exact .inr (.inl (List.mem_append_right _ hx))
theorem RI.close {q : Rq} (h : RI g roots S P fun x => x = q) (hc : ∀ r ∈ g, ek q r = true → r ∈ S) : RI g roots S P fun _ => False :=
 ⟨h.sub, h.UI, fun x hx => by
  rcases h.fS x hx with rfl | h1 | h1
  ·exact .inr (.inr hc)
  ·exact .inr (.inl h1)
  ·exact .inr (.inr h1)⟩
def seen (S : List Rl) (k : dD) : Bool := S.any fun r => decide (r.key = k)
theorem tF {S : List Rl} {k : dD} : seen S k = true ↔ ∃ r ∈ S, r.key = k := by unfold seen; rw [List.any_eq_true]; simp
theorem lZ (hs : g.Pairwise jT) (hS : ∀ r ∈ S, r ∈ g) {r : Rl} (hr : r ∈ g) : seen S r.key = true ↔ r ∈ S := by
 rw [tF]
 constructor
 ·rintro ⟨x, hx, he⟩
  have Z0 := hS x hx
  obtain ⟨i, hi, rfl⟩ := List.getElem_of_mem Z0
  obtain ⟨j, hj, rfl⟩ := List.getElem_of_mem hr
  rcases Nat.lt_trichotomy i j with h | h | h
  ·exact absurd he (jU (List.pairwise_iff_getElem.1 hs i j hi hj h))
  ·subst h; exact hx
  ·exact absurd he.symm (jU (List.pairwise_iff_getElem.1 hs j i hj hi h))
 ·exact fun h => ⟨r, h, rfl⟩
def cH (g S : List Rl) : Nat := ((g.filter fun r => !seen S r.key).map fun r => r.reqs.length).sum
theorem zv (g S : List Rl) : cH g S ≤ (g.map fun r => r.reqs.length).sum := by
 unfold cH
 induction g with
 | nil => simp
 | cons a r ih =>
  rw [List.filter_cons]
  split <;> simp <;> omega
theorem vn (S : List Rl) (r : Rl) (k : dD) : seen (S ++ [r]) k = (seen S k || decide (r.key = k)) := by simp [seen]
theorem qg (hs : g.Pairwise jT) {r : Rl} (hr : r ∈ g) (hn : seen S r.key = false) : cH g (S ++ [r]) + r.reqs.length = cH g S := by
 unfold cH
 induction g with
 | nil => simp at hr
 | cons a t ih =>
  rw [List.pairwise_cons] at hs
  simp only [List.filter_cons,vn]
  rcases List.mem_cons.1 hr with rfl | hr
  ·have h2 : (t.filter fun x => !(seen S x.key || decide (r.key = x.key))) = t.filter fun x => !seen S x.key := by
    refine List.filter_congr fun x hx => ?_
    have := jU (hs.1 x hx)
    simp [this]
   simp only [hn,decide_true,Bool.or_true,Bool.not_true,Bool.not_false,if_true,Bool.false_eq_true,if_false,h2,List.map_cons,List.sum_cons]
   omega
  ·have bO : ¬ r.key = a.key := fun e => jU (hs.1 r hr) e.symm
   have := ih hs.2 hr
   simp only [vn] at this
   simp only [bO,decide_false,Bool.or_false]
   split
   ·simp only [List.map_cons,List.sum_cons]; omega
   ·exact this
def gS (S : List Rl) : List (dD × V) := S.map fun r => (r.key, bl true)
theorem az (n : Nat) (S : List Rl) : ((bL aM 0 (gS S)).all fun e => ai n e.2.2) = true := by
 rw [kM aM (ai n)]
 unfold gS
 simp [ai]
theorem Dl (k : dD) : ∀ S : List Rl, (getM k (gS S)).getD (bl false) = bl (seen S k)
 | [] => rfl
 | r :: t => by
  show (if r.key = k then some (bl true) else getM k (gS t)).getD _ = _
  unfold seen
  rw [List.any_cons]
  by_cases h : r.key = k
  ·simp [h]
  ·have := Dl k t
   unfold seen at this
   simp [h, this]
theorem tG (S : List Rl) (k : dD) {mem : List ay} {b : Nat} (hm : mem[b]? = some (.map (bL aM 0 (gS S)) (gS S).length)) : di Tryz.prog mem 85 (.mp b) (mR k) false = some (bl (seen S k)) := by
 rw [Tx.get k (gS S) hm MX, Dl]; rfl
theorem zw {S : List Rl} {r : Rl} (h : seen S r.key = false) {mem : List ay} {b : Nat} (hm : mem[b]? = some (.map (bL aM 0 (gS S)) (gS S).length)) : cp Tryz.prog mem 85 (.mp b) (mR r.key) (bl true) = some (mem.set b (.map (bL aM 0 (gS (S ++ [r]))) (gS (S ++ [r])).length)) := by
 have hp : k9 r.key (bl true) (gS S) = gS (S ++ [r]) := by
  unfold k9 gS
  rw [nQ (fun e he => by
   obtain ⟨x, hx, rfl⟩ := List.mem_map.1 he
   exact fun e => by rw [tF.2 ⟨x, hx, e⟩] at h; cases h), List.map_append]
  rfl
 rw [Tx.put r.key (bl true) (gS S) hm, hp]
theorem rO {l : List Rl} {p : ByteArray} {r : Rl} : r ∈ bS l p ↔ r ∈ l ∧ r.path = p := by unfold bS; simp
theorem mF (l : List Rl) (q : ByteArray) {mem : List ay} {b : Nat} (hm : mem[b]? = some (.map (bL strVal 0 (gP l)) (aO l).length)) :
  di Tryz.prog mem 80 (.mp b) (str q) false = some (if q ∈ aO l then .slice (bW l q) else .sc (.slice none 0 0)) := by
 rw [← qd] at hm
 rw [PH.get q (gP l) hm HZ]
 unfold gP
 rw [tv]
 split <;> rfl
theorem tH (h : RI g roots S [] fun _ => False) (hs : g.Pairwise jT) : bX g roots = g.filter fun r => seen S r.key := by
 unfold bX
 refine List.filter_congr fun r hr => ?_
 have hS : ∀ x ∈ S, x ∈ g := fun x hx => (h.sub x hx).mem
 rw [Bool.eq_iff_iff, @decide_eq_true_iff _ (Classical.propDecidable _), ← h.fin, lZ hs hS hr]
end Go.Proofs.YtnfeacnbgbggfaaGreatDoor
end

section
namespace Go.Proofs.YtnfeacnbgbggfaaGreatDoor
open Go.Eng
open Nat renaming reduceAdd → zA, reduceLT → zB, reduceLeDiff → zC, reduceMul → zD, reduceEqDiff → zE, reduceSub → zF
variable [aG]
set_option maxHeartbeats 4000000
set_option maxRecDepth 100000
theorem uy (l : List Rq) (hl : l.length ≤ 34359738368) : aU Tryz.prog 23 [.slice (l.map al)] [] (.ms 0 1 0 l.length) [.rows 1 2 (l.map al)] := by
 have h1 := bN l
 have Nk : (l.map al).length ≤ 34359738368 := by rw [List.length_map]; exact hl
 rw [← List.length_map (f := al)]
 generalize l.map al = rows at h1 Nk
 refine Gc tt_ok (fn := Tryz.f23) 1 (by simp) Tryz.func23 rfl Tryz.call23 ?_
 simp only [Ev,ew,Tryz.ntmps23,List.length_cons,List.length_nil,zA,zF,List.replicate_succ,List.replicate_zero]
 refine fK tt_ok fun K hK => ?_
 simp only [go_sem,reduceIte,zA,zB,zC,zD,zE,zF,reduceCtorEq]
 refine hK _ ?_
 refine kp ?_
 refine fK tt_ok fun K hK => ?_
 simp only [go_sem,reduceIte,zA,zB,zC,zD,zE,zF,reduceCtorEq]
 intro b hb
 refine hK _ ?_
 cases b with
 | true =>
  have h0 : rows = [] := by
   cases rows with
   | nil => rfl
   | cons a r => have := hb (by simp); cases this
  subst h0
  refine lB rfl ?_
  refine fK tt_ok fun K hK => ?_
  simp only [go_sem,reduceIte,zA,zB,zC,zD,zE,zF,reduceCtorEq]
  refine hK _ ?_
  refine Ed 2 1 2 rfl ?_
  exact oB ⟨.inl rfl, rfl, rfl, rfl, rfl⟩
 | false =>
  refine lB rfl (lA ?_)
  show gD _ _ _ _ _ _
  refine fK tt_ok fun K hK => ?_
  simp only [h1,Nk,go_sem,reduceIte,zA,zB,zC,zD,zE,zF,reduceCtorEq]
  refine hK _ ?_
  refine oB ⟨.inl rfl, ?_⟩
  simp [iE, lC, oC, Tryz.f23, ai, aA, dp]
theorem qW (l : List Rq) (hl : l.length ≤ 34359738368) (M : List ay) : ∃ r_ m_, (fun r m => r = V.ms M.length 1 0 l.length ∧ m = M ++ [.rows 1 2 (l.map al)]) r_ m_ ∧ aU Tryz.prog 23 [.slice (l.map al)] M r_ m_ := by
 have h2 := (uy l hl).yI M (fun j => M.length + j) 0 rfl rfl rfl (by simp [ai]) rfl (Nat.zero_le _) (fun i B hi => by simp at hi) (fun i j hi => by omega) (fun j _ => by omega)
 exact ⟨_, _, ⟨rfl, rfl⟩, h2⟩
theorem tI {l : List Rl} {r : Rl} (h : r ∈ aq l) : r ∈ l := by
 unfold aq at h
 split at h
 ·exact h
 ·simp at h
theorem eK (l : List Rl) : (aq l).Pairwise jT := by
 unfold aq
 split
 ·exact vl ‹_›
 ·exact List.Pairwise.nil
theorem vo : ∀ (l : List Rl) (b : Option Rl), c8 b l = 0 → ∀ r ∈ l, gr r = 0
 | [], _, _, r, hr => by simp at hr
 | a :: t, b, h, r, hr => by
  rw [eI] at h
  by_cases h0 : gr a = 0
  ·rcases List.mem_cons.1 hr with rfl | hr
   ·exact h0
   ·rw [if_neg (by simp [h0])] at h
    refine vo t (some a) ?_ r hr
    cases b with
    | none => exact h
    | some p =>
     dsimp only at h
     split at h
     ·omega
     ·split at h
      ·omega
      ·exact h
  ·rw [if_pos h0] at h; exact absurd h h0
theorem rP {l : List Rl} {r : Rl} (h : r ∈ aq l) : gr r = 0 := by
 unfold aq at h
 split at h
 ·rename_i h0
  unfold dK at h0
  split at h0
  ·omega
  ·exact vo l none h0 r h
 ·simp at h
theorem l0 {l : List Rl} {r : Rl} (h : r ∈ aq l) : r.aC.ok = true := by
 have h1 := rP h
 unfold gr at h1
 split at h1
 ·omega
 ·split at h1
  ·omega
  ·rename_i h2
   revert h2
   cases r.aC.ok <;> simp
theorem gu {l : List Rl} {r : Rl} (h : r ∈ aq l) : r.reqs.length ≤ 16 := by
 have h1 := rP h
 unfold gr at h1
 split at h1
 ·omega
 ·split at h1
  ·omega
  ·split at h1
   ·rename_i h2; exact absurd h1 h2
   ·rename_i h2
    simp only [ne_eq,Decidable.not_not] at h2
    unfold fw at h2
    split at h2 <;> omega
theorem eY (l : List Rl) : (aq l).length ≤ 256 := by
 unfold aq
 split
 ·exact PD ‹_›
 ·simp
theorem BP (l S : List Rl) : cH (aq l) S ≤ 4096 := by
 refine Nat.le_trans (zv _ _) ?_
 have h1 : ∀ g : List Rl, (∀ r ∈ g, r.reqs.length ≤ 16) → (g.map fun r => r.reqs.length).sum ≤ 16 * g.length := fun g => by
  induction g with
  | nil => simp
  | cons a t ih =>
   intro h
   have := ih fun r hr => h r (by simp [hr])
   have := h a (by simp)
   simp only [List.map_cons,List.sum_cons,List.length_cons]; omega
 have := h1 (aq l) fun r hr => gu hr
 have := eY l
 omega
end Go.Proofs.YtnfeacnbgbggfaaGreatDoor
end

section
namespace Go.Proofs.YtnfeacnbgbggfaaGreatDoor
open Go.Eng
open Nat renaming reduceAdd → zA, reduceLT → zB, reduceLeDiff → zC, reduceMul → zD, reduceEqDiff → zE, reduceSub → zF
variable [aG]
set_option maxHeartbeats 4000000
set_option maxRecDepth 100000
theorem zx (hG : aG.g = some 0) (l : List Rl) (I : List V) (hb : tY l) (roots : List Rq) (hr : roots.length ≤ 1048576) (E7 : ∀ q ∈ roots, qS q) : aP Tryz.prog 13 [bm l I, ah roots] (aZ ((bX (aq l) roots).map Rl.key)) := by
 refine QN tt_ok [] 79 [.tmp 4] (fn := Tryz.f13) Tryz.func13 rfl Tryz.call13 ⟨rfl, rfl, by simp⟩ fun K hK => ?_
 simp only [bm,aY,ah]
 have w6 := hb.1
 simp only [ae,af,az,List.length_map,go_sem,reduceIte,zA,zB,zC,zD,zE,zF,reduceCtorEq]
 refine cW (by have h := jj hG l I hb; simp only [bm,aY] at h; exact h _) ?_
 rintro _ _ ⟨rfl, rfl⟩
 simp only [Ev,Q3,List.length_cons,List.length_nil,zA]
 simp only [ae,af,az,List.length_map,go_sem,reduceIte,zA,zB,zC,zD,zE,zF,reduceCtorEq]
 refine cW (qW roots (by omega) _) ?_
 rintro _ _ ⟨rfl, rfl⟩
 try simp only [Ev,List.length_cons,List.length_nil,zA]
 simp only [ae,af,az,List.length_map,go_sem,reduceIte,zA,zB,zC,zD,zE,zF,reduceCtorEq]
 refine ct tt_ok [] (fun a : List Rl × List Rq × Nat × Nat × List V => [(2, .ptr 0 0), (5, .ptr 5 0), (7, .mp 6), (8, .ms 7 a.2.2.1 a.2.2.2.1 a.2.1.length)]) (fun a : List Rl × List Rq × Nat × Nat × List V => [.box [.slice (l.map ag), .slice I], .box [.slice (l.map ag), .slice I], .box [.mp 3, .mp 4], .map (bL aM 0 (gK (aq l))) (gK (aq l)).length, .map (bL strVal 0 (gP (aq l))) (aO (aq l)).length, .box [.mp 3, .mp 4], .map (bL aM 0 (gS a.1)) (gS a.1).length, .rows a.2.2.1 2 a.2.2.2.2]) (fun a => a.2.1.length + cH (aq l) a.1) (fun a => RI (aq l) roots a.1 a.2.1 (fun _ => False) ∧ a.2.2.2.2.drop a.2.2.2.1 = a.2.1.map al ∧ a.2.2.2.1 + a.2.1.length = a.2.2.2.2.length ∧ a.2.1.length + cH (aq l) a.1 ≤ roots.length + 4096) (([], roots, 1, 0, roots.map al)) 8 (ba (by omega) (by simp only [ae,af,az,List.length_map,gS,List.map_nil,bL,List.length_nil,Int.cast_ofNat_Int,go_sem,reduceIte,zA,zB,zC,zD,zE,zF,reduceCtorEq] <;> rfl)) (⟨RI.start _ _, rfl, by simp, by have := BP l []; dsimp only; omega⟩) ?_
 rintro ⟨S, P, v, o, rs⟩ ⟨Ie, z7, Nz, hW⟩
 try dsimp only at Ie z7 Nz hW ⊢
 intro Z1 bP
 simp only [ae,af,az,List.length_map,go_sem,reduceIte,zA,zB,zC,zD,zE,zF,reduceCtorEq]
 refine aL (fun fu => ?_) (fun fu => ?_)
 ·obtain ⟨q, P, rfl⟩ : ∃ q P2, P = q :: P2 := by
   cases P with
   | nil => simp at fu
   | cons q r => exact ⟨q, r, rfl⟩
  simp only [List.length_cons] at fu ⊢
  rw [fu]
  obtain ⟨Ig, hq⟩ := Ie.pop
  have cd : rs[o]? = some (al q) := by
   have h := congrArg (fun x => x[0]?) z7
   simpa using h
  have kO : rs.drop (o + 1) = P.map al := by
   rw [← List.drop_drop, z7]; rfl
  have jV : o + 1 + P.length = rs.length := by rw [List.length_cons] at Nz; omega
  rw [List.length_cons] at hW
  have h0 : (0 : Int) < ((P.length + 1 : Nat) : Int) := by omega
  have h1 : (1 : Int) ≤ ((P.length + 1 : Nat) : Int) := by omega
  have dV : (((P.length + 1 : Nat) : Int) - 1).toNat = P.length := by omega
  have da : ∀ mem : List ay, mem[7]? = some (.rows v 2 rs) → cutAt mem 2 1 none (.ms 7 v o (P.length + 1)) = some (.ms 7 v (o + 1) P.length) := fun mem hm => by
   unfold cutAt
   simp [eL, hm] <;> omega
  have FR : qS q := by
   rcases hq with hq | ⟨a, ha, hq⟩
   ·exact E7 q hq
   ·exact (hb.2 a (tI (Ie.sub a ha).mem)).2.2 q hq
  by_cases fF : q.path ∈ aO (aq l)
  ·have cM := fun (mem : List ay) (b : Nat) hm => mF (aq l) q.path (mem := mem) (b := b) hm
   simp only [if_pos fF,bW] at cM
   simp only [ae,af,az,cd,h0,h1,dV,da,List.length_cons,al,ak,Nat.add_zero,Int.le_refl,Int.toNat_one,Int.toNat_zero,cM,List.length_map,go_sem,reduceIte,zA,zB,zC,zD,zE,zF,reduceCtorEq]
   refine ct tt_ok [] (fun b : List Rl × List Rq × Nat × Nat × List V × Nat => [(2, .ptr 0 0), (5, .ptr 5 0), (7, .mp 6), (8, .ms 7 b.2.2.1 b.2.2.2.1 b.2.1.length), (9, .ptr 8 0), (35, .slice ((bS (aq l) q.path).map ag)), (36, num (bS (aq l) q.path).length), (37, num b.2.2.2.2.2)]) (fun b : List Rl × List Rq × Nat × Nat × List V × Nat => [.box [.slice (l.map ag), .slice I], .box [.slice (l.map ag), .slice I], .box [.mp 3, .mp 4], .map (bL aM 0 (gK (aq l))) (gK (aq l)).length, .map (bL strVal 0 (gP (aq l))) (aO (aq l)).length, .box [.mp 3, .mp 4], .map (bL aM 0 (gS b.1)) (gS b.1).length, .rows b.2.2.1 2 b.2.2.2.2.1, .box [str q.path, .slice (q.set.map aj)]]) (fun b => (bS (aq l) q.path).length - b.2.2.2.2.2) (fun b => RI (aq l) roots b.1 b.2.1 (fun x => x = q) ∧ (q ∈ roots ∨ ∃ a ∈ b.1, q ∈ a.reqs) ∧ b.2.2.2.2.1.drop b.2.2.2.1 = b.2.1.map al ∧ b.2.2.2.1 + b.2.1.length = b.2.2.2.2.1.length ∧ b.2.1.length + cH (aq l) b.1 + 1 ≤ P.length + 1 + cH (aq l) S ∧ b.2.2.2.2.2 ≤ (bS (aq l) q.path).length ∧ ∀ r ∈ (bS (aq l) q.path).take b.2.2.2.2.2, has q.set r.aC.place = true → r ∈ b.1) ((S, P, v, o + 1, rs, 0)) 9 (ba (by omega) (by simp only [ae,af,az,cd,h0,h1,dV,da,List.length_cons,al,ak,Nat.add_zero,Int.le_refl,Int.toNat_one,Int.toNat_zero,cM,List.length_map,Int.cast_ofNat_Int,go_sem,reduceIte,zA,zB,zC,zD,zE,zF,reduceCtorEq] <;> rfl)) (⟨Ig, hq, kO, jV, by dsimp only; omega, Nat.zero_le _, fun r hr => by simp at hr⟩) ?_
   rintro ⟨S1, P1, v1, o1, od, j⟩ ⟨qh, xx, kO, jV, PS, hj, jW⟩
   try dsimp only at qh xx kO jV PS hj jW ⊢
   intro Z2 mP
   simp only [ae,af,az,cd,h0,h1,dV,da,List.length_cons,al,ak,Nat.add_zero,Int.le_refl,Int.toNat_one,Int.toNat_zero,cM,List.length_map,go_sem,reduceIte,zA,zB,zC,zD,zE,zF,reduceCtorEq]
   refine aL (fun jy => ?_) (fun jy => ?_)
   ·have aB : j < (bS (aq l) q.path).length := by simpa using jy
    have zy : (bS (aq l) q.path).length ≤ 256 := Nat.le_trans (List.length_filter_le _ _) (eY l)
    have hw := ax j (by omega)
    obtain ⟨x, hx⟩ : ∃ x, (bS (aq l) q.path)[j]? = some x := ⟨_, List.getElem?_eq_getElem aB⟩
    have rI := rO.1 (List.mem_of_getElem? hx)
    have Ab : x.aC.pl = x.aC.place := by unfold dr.pl; rw [if_pos (l0 rI.1)]
    have mG := fun (mem : List ay) (b : Nat) hm => tG S1 x.key (mem := mem) (b := b) hm
    simp only [mR] at mG
    have tZ : (bS (aq l) q.path).take (j + 1) = (bS (aq l) q.path).take j ++ [x] := ij hx
    have TB : ∀ r ∈ S1, r ∈ aq l := fun r hr => (qh.sub r hr).mem
    simp only [ae,af,az,cd,h0,h1,dV,da,List.length_cons,al,ak,Nat.add_zero,Int.le_refl,Int.toNat_one,Int.toNat_zero,cM,hw,List.getElem?_map,hx,ag,ab,ah,mG,List.length_map,go_sem,reduceIte,zA,zB,zC,zD,zE,zF,reduceCtorEq]
    refine bu tt_ok aD [⟨.n, 0, [], [], []⟩, ⟨.r, 0, [], [], []⟩, ⟨.n, 0, [], [], []⟩, ⟨.r, 0, [], [], []⟩, ⟨.n, 0, [], [], []⟩, ⟨.n, 0, [], [], []⟩, ⟨.n, 0, [], [], []⟩, ⟨.r, 0, [], [], []⟩, ⟨.r, 0, [], [], []⟩, ⟨.n, 0, [], [], []⟩, ⟨.n, 0, [], [], []⟩, ⟨.n, 0, [], [], []⟩] 0 (by kernel_rfl) ?_
    simp only [ae,af,az,cd,h0,h1,dV,da,List.length_cons,al,ak,Nat.add_zero,Int.le_refl,Int.toNat_one,Int.toNat_zero,cM,hw,List.getElem?_map,hx,ag,ab,ah,mG,List.length_map,go_sem,reduceIte,zA,zB,zC,zD,zE,zF,reduceCtorEq]
    refine cG (by have h := kH x; simp only [ag,ab,ah,aI] at h; exact h) ?_
    rintro _ rfl
    simp only [ae,af,az,cd,h0,h1,dV,da,List.length_cons,al,ak,Nat.add_zero,Int.le_refl,Int.toNat_one,Int.toNat_zero,cM,hw,List.getElem?_map,hx,ag,ab,ah,mG,List.length_map,go_sem,reduceIte,zA,zB,zC,zD,zE,zF,reduceCtorEq]
    refine aL (fun nV => ?_) (fun nV => ?_)
    ·simp only [ae,af,az,cd,h0,h1,dV,da,List.length_cons,al,ak,Nat.add_zero,Int.le_refl,Int.toNat_one,Int.toNat_zero,cM,hw,List.getElem?_map,hx,ag,ab,ah,mG,List.length_map,go_sem,reduceIte,zA,zB,zC,zD,zE,zF,reduceCtorEq]
     refine cG (by have h := iJ x; simp only [ag,ab,ah] at h; exact h) ?_
     rintro _ rfl
     simp only [ae,af,az,cd,h0,h1,dV,da,List.length_cons,al,ak,Nat.add_zero,Int.le_refl,Int.toNat_one,Int.toNat_zero,cM,hw,List.getElem?_map,hx,ag,ab,ah,mG,List.length_map,go_sem,reduceIte,zA,zB,zC,zD,zE,zF,reduceCtorEq]
     refine cG (by have h := Bl q.set x.aC.pl FR.2; simp only [ak] at h; exact h) ?_
     rintro _ rfl
     simp only [ae,af,az,cd,h0,h1,dV,da,List.length_cons,al,ak,Nat.add_zero,Int.le_refl,Int.toNat_one,Int.toNat_zero,cM,hw,List.getElem?_map,hx,ag,ab,ah,mG,List.length_map,go_sem,reduceIte,zA,zB,zC,zD,zE,zF,reduceCtorEq]
     refine aL (fun qi => ?_) (fun qi => ?_)
     ·have TC : seen S1 x.key = false := by simpa using nV
      have PT : has q.set x.aC.place = true := by rw [← Ab]; simpa using qi
      have Ih : ek q x = true := by unfold ek; rw [PT, rI.2]; simp
      have xe := qh.W4 xx rI.1 Ih
      have Yg := qg (eK l) rI.1 TC
      have Yh := gu rI.1
      have xy := fun (mem : List ay) (b : Nat) hm => zw TC (mem := mem) (b := b) hm
      simp only [mR] at xy
      simp only [ae,af,az,cd,h0,h1,dV,da,List.length_cons,al,ak,Nat.add_zero,Int.le_refl,Int.toNat_one,Int.toNat_zero,cM,hw,List.getElem?_map,hx,ag,ab,ah,mG,xy,List.length_map,go_sem,reduceIte,zA,zB,zC,zD,zE,zF,reduceCtorEq]
      refine cF (by have h := kH x; simp only [ag,ab,ah,aI] at h; exact h) ?_
      rintro _ rfl
      rcases Nat.eq_zero_or_pos o1 with rfl | kd
      ·have jX : od.length = P1.length := by omega
       have fp := bN x.reqs
       have dE : P1.length + x.reqs.length ≤ 34359738368 := by omega
       have D2 : (od ++ x.reqs.map al).drop 0 = od.drop 0 ++ x.reqs.map al := rfl
       have Aa : 0 + (P1.length + x.reqs.length) = (od ++ x.reqs.map al).length := by rw [List.length_append, List.length_map, jX, Nat.zero_add]
       let nv : List Rl × List Rq × Nat × Nat × List V × Nat := (S1 ++ [x], P1 ++ x.reqs, v1 + 1, 0, (od ++ x.reqs.map al), j + 1)
       have xg : RI (aq l) roots (S1 ++ [x]) (P1 ++ x.reqs) (fun y => y = q) ∧ (q ∈ roots ∨ ∃ a ∈ S1 ++ [x], q ∈ a.reqs) ∧ (od ++ x.reqs.map al).drop 0 = (P1 ++ x.reqs).map al ∧ 0 + (P1 ++ x.reqs).length = (od ++ x.reqs.map al).length ∧ (P1 ++ x.reqs).length + cH (aq l) (S1 ++ [x]) + 1 ≤ P.length + 1 + cH (aq l) S ∧ j + 1 ≤ (bS (aq l) q.path).length ∧ ∀ r ∈ (bS (aq l) q.path).take (j + 1), has q.set r.aC.place = true → r ∈ S1 ++ [x] := by
        refine ⟨xe, ?_, by rw [D2, kO, List.map_append], by rw [List.length_append]; omega, by rw [List.length_append]; omega, aB, fun r hr hh => ?_⟩
        ·rcases xx with h | ⟨a, ha, h⟩
         ·exact .inl h
         ·exact .inr ⟨a, List.mem_append_left _ ha, h⟩
        ·rw [tZ] at hr
         rcases List.mem_append.1 hr with hr | hr
         ·exact List.mem_append_left _ (jW r hr hh)
         ·exact List.mem_append_right _ hr
       simp only [ae,af,az,cd,h0,h1,dV,da,List.length_cons,al,ak,Nat.add_zero,Int.le_refl,Int.toNat_one,Int.toNat_zero,cM,hw,List.getElem?_map,hx,ag,ab,ah,mG,xy,jX,fp,dE,List.length_map,go_sem,reduceIte,zA,zB,zC,zD,zE,zF,reduceCtorEq]
       refine mP _ ⟨nv, ?_, ?_, ba (by omega) (by (first | (simp only [nv,hw,List.length_append,List.length_map,ae,af,az,go_sem,reduceIte,zA,zB,zC,zD,zE,zF,reduceCtorEq]; done) | (simp only [nv,hw,List.length_append,List.length_map,jX,ae,af,az,go_sem,reduceIte,zA,zB,zC,zD,zE,zF,reduceCtorEq]; done)))⟩
       ·exact xg
       ·dsimp only [nv]; omega
      ·obtain ⟨o0, rfl⟩ : ∃ k, o1 = k + 1 := ⟨o1 - 1, by omega⟩
       have fp := bN x.reqs
       have dE : P1.length + x.reqs.length ≤ 34359738368 := by omega
       simp only [ae,af,az,cd,h0,h1,dV,da,List.length_cons,al,ak,Nat.add_zero,Int.le_refl,Int.toNat_one,Int.toNat_zero,cM,hw,List.getElem?_map,hx,ag,ab,ah,mG,xy,jV,fp,dE,List.length_map,go_sem,reduceIte,zA,zB,zC,zD,zE,zF,reduceCtorEq]
       refine V1 ?_
       intro o2 Dm D2 Aa
       try rw [List.length_map] at Aa
       let nv : List Rl × List Rq × Nat × Nat × List V × Nat := (S1 ++ [x], P1 ++ x.reqs, v1 + 1, o2, Dm, j + 1)
       have xg : RI (aq l) roots (S1 ++ [x]) (P1 ++ x.reqs) (fun y => y = q) ∧ (q ∈ roots ∨ ∃ a ∈ S1 ++ [x], q ∈ a.reqs) ∧ Dm.drop o2 = (P1 ++ x.reqs).map al ∧ o2 + (P1 ++ x.reqs).length = Dm.length ∧ (P1 ++ x.reqs).length + cH (aq l) (S1 ++ [x]) + 1 ≤ P.length + 1 + cH (aq l) S ∧ j + 1 ≤ (bS (aq l) q.path).length ∧ ∀ r ∈ (bS (aq l) q.path).take (j + 1), has q.set r.aC.place = true → r ∈ S1 ++ [x] := by
        refine ⟨xe, ?_, by rw [D2, kO, List.map_append], by rw [List.length_append]; omega, by rw [List.length_append]; omega, aB, fun r hr hh => ?_⟩
        ·rcases xx with h | ⟨a, ha, h⟩
         ·exact .inl h
         ·exact .inr ⟨a, List.mem_append_left _ ha, h⟩
        ·rw [tZ] at hr
         rcases List.mem_append.1 hr with hr | hr
         ·exact List.mem_append_left _ (jW r hr hh)
         ·exact List.mem_append_right _ hr
       simp only [ae,af,az,cd,h0,h1,dV,da,List.length_cons,al,ak,Nat.add_zero,Int.le_refl,Int.toNat_one,Int.toNat_zero,cM,hw,List.getElem?_map,hx,ag,ab,ah,mG,xy,jV,fp,dE,List.length_map,go_sem,reduceIte,zA,zB,zC,zD,zE,zF,reduceCtorEq]
       refine mP _ ⟨nv, ?_, ?_, ba (by omega) (by (first | (simp only [nv,hw,List.length_append,List.length_map,ae,af,az,go_sem,reduceIte,zA,zB,zC,zD,zE,zF,reduceCtorEq]; done) | (simp only [nv,hw,List.length_append,List.length_map,jX,ae,af,az,go_sem,reduceIte,zA,zB,zC,zD,zE,zF,reduceCtorEq]; done)))⟩
       ·exact xg
       ·dsimp only [nv]; omega
     ·let nv : List Rl × List Rq × Nat × Nat × List V × Nat := (S1, P1, v1, o1, od, j + 1)
      have xg : RI (aq l) roots S1 P1 (fun y => y = q) ∧ (q ∈ roots ∨ ∃ a ∈ S1, q ∈ a.reqs) ∧ od.drop o1 = P1.map al ∧ o1 + P1.length = od.length ∧ P1.length + cH (aq l) S1 + 1 ≤ P.length + 1 + cH (aq l) S ∧ j + 1 ≤ (bS (aq l) q.path).length ∧ ∀ r ∈ (bS (aq l) q.path).take (j + 1), has q.set r.aC.place = true → r ∈ S1 := by
       refine ⟨qh, xx, kO, jV, PS, aB, fun r hr hh => ?_⟩
       rw [tZ] at hr
       rcases List.mem_append.1 hr with hr | hr
       ·exact jW r hr hh
       ·rw [List.mem_singleton] at hr; subst hr
        refine (lZ (eK l) TB rI.1).1 ?_
        first | exact na | (rw [Ab, hh] at qi; cases qi)
      simp only [ae,af,az,cd,h0,h1,dV,da,List.length_cons,al,ak,Nat.add_zero,Int.le_refl,Int.toNat_one,Int.toNat_zero,cM,hw,List.getElem?_map,hx,ag,ab,ah,mG,List.length_map,go_sem,reduceIte,zA,zB,zC,zD,zE,zF,reduceCtorEq]
      refine mP _ ⟨nv, ?_, ?_, ba (by omega) (by (first | (simp only [nv,hw,List.length_append,List.length_map,ae,af,az,go_sem,reduceIte,zA,zB,zC,zD,zE,zF,reduceCtorEq]; done) | (simp only [nv,hw,List.length_append,List.length_map,jX,ae,af,az,go_sem,reduceIte,zA,zB,zC,zD,zE,zF,reduceCtorEq]; done)))⟩
      ·exact xg
      ·dsimp only [nv]; omega
    ·have na : seen S1 x.key = true := by simpa using nV
     let nv : List Rl × List Rq × Nat × Nat × List V × Nat := (S1, P1, v1, o1, od, j + 1)
     have xg : RI (aq l) roots S1 P1 (fun y => y = q) ∧ (q ∈ roots ∨ ∃ a ∈ S1, q ∈ a.reqs) ∧ od.drop o1 = P1.map al ∧ o1 + P1.length = od.length ∧ P1.length + cH (aq l) S1 + 1 ≤ P.length + 1 + cH (aq l) S ∧ j + 1 ≤ (bS (aq l) q.path).length ∧ ∀ r ∈ (bS (aq l) q.path).take (j + 1), has q.set r.aC.place = true → r ∈ S1 := by
      refine ⟨qh, xx, kO, jV, PS, aB, fun r hr hh => ?_⟩
      rw [tZ] at hr
      rcases List.mem_append.1 hr with hr | hr
      ·exact jW r hr hh
      ·rw [List.mem_singleton] at hr; subst hr
       refine (lZ (eK l) TB rI.1).1 ?_
       first | exact na | (rw [Ab, hh] at qi; cases qi)
     simp only [ae,af,az,cd,h0,h1,dV,da,List.length_cons,al,ak,Nat.add_zero,Int.le_refl,Int.toNat_one,Int.toNat_zero,cM,hw,List.getElem?_map,hx,ag,ab,ah,mG,List.length_map,go_sem,reduceIte,zA,zB,zC,zD,zE,zF,reduceCtorEq]
     refine mP _ ⟨nv, ?_, ?_, ba (by omega) (by (first | (simp only [nv,hw,List.length_append,List.length_map,ae,af,az,go_sem,reduceIte,zA,zB,zC,zD,zE,zF,reduceCtorEq]; done) | (simp only [nv,hw,List.length_append,List.length_map,jX,ae,af,az,go_sem,reduceIte,zA,zB,zC,zD,zE,zF,reduceCtorEq]; done)))⟩
     ·exact xg
     ·dsimp only [nv]; omega
   ·have cB : ¬ j < (bS (aq l) q.path).length := by simpa using jy
    have xe := qh.close fun r hr hh => jW r (by rw [List.take_of_length_le (by omega)]; exact rO.2 ⟨hr, (mv hh).symm⟩) (by unfold ek at hh; simp at hh; exact hh.2)
    simp only [ae,af,az,cd,h0,h1,dV,da,List.length_cons,al,ak,Nat.add_zero,Int.le_refl,Int.toNat_one,Int.toNat_zero,cM,List.length_map,go_sem,reduceIte,zA,zB,zC,zD,zE,zF,reduceCtorEq]
    refine bP _ ⟨(S1, P1, v1, o1, od), ?_, ?_, ba (by omega) (by (simp only [ae,af,az,go_sem,reduceIte,zA,zB,zC,zD,zE,zF,reduceCtorEq]))⟩
    ·exact ⟨xe, kO, jV, by dsimp only; omega⟩
    ·dsimp only; omega
  ·have cM := fun (mem : List ay) (b : Nat) hm => mF (aq l) q.path (mem := mem) (b := b) hm
   simp only [if_neg fF] at cM
   have zH : bS (aq l) q.path = [] := by have h := kN fF; unfold bW at h; simpa using h
   simp only [ae,af,az,cd,h0,h1,dV,da,List.length_cons,al,ak,Nat.add_zero,Int.le_refl,Int.toNat_one,Int.toNat_zero,cM,List.length_map,go_sem,reduceIte,zA,zB,zC,zD,zE,zF,reduceCtorEq]
   refine rl (v' := .slice ((bS (aq l) q.path).map ag)) 35 (by decide) rfl (by rw [zH]; rfl) ?_
   refine Hd (v' := num ((bS (aq l) q.path).length : Int)) 36 (by rw [zH]; rfl) ?_
   refine ct tt_ok [] (fun b : List Rl × List Rq × Nat × Nat × List V × Nat => [(2, .ptr 0 0), (5, .ptr 5 0), (7, .mp 6), (8, .ms 7 b.2.2.1 b.2.2.2.1 b.2.1.length), (9, .ptr 8 0), (35, .slice ((bS (aq l) q.path).map ag)), (36, num (bS (aq l) q.path).length), (37, num b.2.2.2.2.2)]) (fun b : List Rl × List Rq × Nat × Nat × List V × Nat => [.box [.slice (l.map ag), .slice I], .box [.slice (l.map ag), .slice I], .box [.mp 3, .mp 4], .map (bL aM 0 (gK (aq l))) (gK (aq l)).length, .map (bL strVal 0 (gP (aq l))) (aO (aq l)).length, .box [.mp 3, .mp 4], .map (bL aM 0 (gS b.1)) (gS b.1).length, .rows b.2.2.1 2 b.2.2.2.2.1, .box [str q.path, .slice (q.set.map aj)]]) (fun b => (bS (aq l) q.path).length - b.2.2.2.2.2) (fun b => RI (aq l) roots b.1 b.2.1 (fun x => x = q) ∧ (q ∈ roots ∨ ∃ a ∈ b.1, q ∈ a.reqs) ∧ b.2.2.2.2.1.drop b.2.2.2.1 = b.2.1.map al ∧ b.2.2.2.1 + b.2.1.length = b.2.2.2.2.1.length ∧ b.2.1.length + cH (aq l) b.1 + 1 ≤ P.length + 1 + cH (aq l) S ∧ b.2.2.2.2.2 ≤ (bS (aq l) q.path).length ∧ ∀ r ∈ (bS (aq l) q.path).take b.2.2.2.2.2, has q.set r.aC.place = true → r ∈ b.1) ((S, P, v, o + 1, rs, 0)) 9 (ba (by omega) (by simp only [ae,af,az,cd,h0,h1,dV,da,List.length_cons,al,ak,Nat.add_zero,Int.le_refl,Int.toNat_one,Int.toNat_zero,cM,List.length_map,Int.cast_ofNat_Int,go_sem,reduceIte,zA,zB,zC,zD,zE,zF,reduceCtorEq] <;> rfl)) (⟨Ig, hq, kO, jV, by dsimp only; omega, Nat.zero_le _, fun r hr => by simp at hr⟩) ?_
   rintro ⟨S1, P1, v1, o1, od, j⟩ ⟨qh, xx, kO, jV, PS, hj, jW⟩
   try dsimp only at qh xx kO jV PS hj jW ⊢
   intro Z3 w4
   simp only [ae,af,az,cd,h0,h1,dV,da,List.length_cons,al,ak,Nat.add_zero,Int.le_refl,Int.toNat_one,Int.toNat_zero,cM,List.length_map,go_sem,reduceIte,zA,zB,zC,zD,zE,zF,reduceCtorEq]
   refine aL (fun jy => ?_) (fun jy => ?_)
   ·have aB : j < (bS (aq l) q.path).length := by simpa using jy
    have zy : (bS (aq l) q.path).length ≤ 256 := Nat.le_trans (List.length_filter_le _ _) (eY l)
    have hw := ax j (by omega)
    obtain ⟨x, hx⟩ : ∃ x, (bS (aq l) q.path)[j]? = some x := ⟨_, List.getElem?_eq_getElem aB⟩
    have rI := rO.1 (List.mem_of_getElem? hx)
    have Ab : x.aC.pl = x.aC.place := by unfold dr.pl; rw [if_pos (l0 rI.1)]
    have mG := fun (mem : List ay) (b : Nat) hm => tG S1 x.key (mem := mem) (b := b) hm
    simp only [mR] at mG
    have tZ : (bS (aq l) q.path).take (j + 1) = (bS (aq l) q.path).take j ++ [x] := ij hx
    have TB : ∀ r ∈ S1, r ∈ aq l := fun r hr => (qh.sub r hr).mem
    simp only [ae,af,az,cd,h0,h1,dV,da,List.length_cons,al,ak,Nat.add_zero,Int.le_refl,Int.toNat_one,Int.toNat_zero,cM,hw,List.getElem?_map,hx,ag,ab,ah,mG,List.length_map,go_sem,reduceIte,zA,zB,zC,zD,zE,zF,reduceCtorEq]
    refine bu tt_ok aD [⟨.n, 0, [], [], []⟩, ⟨.r, 0, [], [], []⟩, ⟨.n, 0, [], [], []⟩, ⟨.r, 0, [], [], []⟩, ⟨.n, 0, [], [], []⟩, ⟨.n, 0, [], [], []⟩, ⟨.n, 0, [], [], []⟩, ⟨.r, 0, [], [], []⟩, ⟨.r, 0, [], [], []⟩, ⟨.n, 0, [], [], []⟩, ⟨.n, 0, [], [], []⟩, ⟨.n, 0, [], [], []⟩] 0 (by kernel_rfl) ?_
    simp only [ae,af,az,cd,h0,h1,dV,da,List.length_cons,al,ak,Nat.add_zero,Int.le_refl,Int.toNat_one,Int.toNat_zero,cM,hw,List.getElem?_map,hx,ag,ab,ah,mG,List.length_map,go_sem,reduceIte,zA,zB,zC,zD,zE,zF,reduceCtorEq]
    refine cG (by have h := kH x; simp only [ag,ab,ah,aI] at h; exact h) ?_
    rintro _ rfl
    simp only [ae,af,az,cd,h0,h1,dV,da,List.length_cons,al,ak,Nat.add_zero,Int.le_refl,Int.toNat_one,Int.toNat_zero,cM,hw,List.getElem?_map,hx,ag,ab,ah,mG,List.length_map,go_sem,reduceIte,zA,zB,zC,zD,zE,zF,reduceCtorEq]
    refine aL (fun nV => ?_) (fun nV => ?_)
    ·simp only [ae,af,az,cd,h0,h1,dV,da,List.length_cons,al,ak,Nat.add_zero,Int.le_refl,Int.toNat_one,Int.toNat_zero,cM,hw,List.getElem?_map,hx,ag,ab,ah,mG,List.length_map,go_sem,reduceIte,zA,zB,zC,zD,zE,zF,reduceCtorEq]
     refine cG (by have h := iJ x; simp only [ag,ab,ah] at h; exact h) ?_
     rintro _ rfl
     simp only [ae,af,az,cd,h0,h1,dV,da,List.length_cons,al,ak,Nat.add_zero,Int.le_refl,Int.toNat_one,Int.toNat_zero,cM,hw,List.getElem?_map,hx,ag,ab,ah,mG,List.length_map,go_sem,reduceIte,zA,zB,zC,zD,zE,zF,reduceCtorEq]
     refine cG (by have h := Bl q.set x.aC.pl FR.2; simp only [ak] at h; exact h) ?_
     rintro _ rfl
     simp only [ae,af,az,cd,h0,h1,dV,da,List.length_cons,al,ak,Nat.add_zero,Int.le_refl,Int.toNat_one,Int.toNat_zero,cM,hw,List.getElem?_map,hx,ag,ab,ah,mG,List.length_map,go_sem,reduceIte,zA,zB,zC,zD,zE,zF,reduceCtorEq]
     refine aL (fun qi => ?_) (fun qi => ?_)
     ·have TC : seen S1 x.key = false := by simpa using nV
      have PT : has q.set x.aC.place = true := by rw [← Ab]; simpa using qi
      have Ih : ek q x = true := by unfold ek; rw [PT, rI.2]; simp
      have xe := qh.W4 xx rI.1 Ih
      have Yg := qg (eK l) rI.1 TC
      have Yh := gu rI.1
      have xy := fun (mem : List ay) (b : Nat) hm => zw TC (mem := mem) (b := b) hm
      simp only [mR] at xy
      simp only [ae,af,az,cd,h0,h1,dV,da,List.length_cons,al,ak,Nat.add_zero,Int.le_refl,Int.toNat_one,Int.toNat_zero,cM,hw,List.getElem?_map,hx,ag,ab,ah,mG,xy,List.length_map,go_sem,reduceIte,zA,zB,zC,zD,zE,zF,reduceCtorEq]
      refine cF (by have h := kH x; simp only [ag,ab,ah,aI] at h; exact h) ?_
      rintro _ rfl
      rcases Nat.eq_zero_or_pos o1 with rfl | kd
      ·have jX : od.length = P1.length := by omega
       have fp := bN x.reqs
       have dE : P1.length + x.reqs.length ≤ 34359738368 := by omega
       have D2 : (od ++ x.reqs.map al).drop 0 = od.drop 0 ++ x.reqs.map al := rfl
       have Aa : 0 + (P1.length + x.reqs.length) = (od ++ x.reqs.map al).length := by rw [List.length_append, List.length_map, jX, Nat.zero_add]
       let nv : List Rl × List Rq × Nat × Nat × List V × Nat := (S1 ++ [x], P1 ++ x.reqs, v1 + 1, 0, (od ++ x.reqs.map al), j + 1)
       have xg : RI (aq l) roots (S1 ++ [x]) (P1 ++ x.reqs) (fun y => y = q) ∧ (q ∈ roots ∨ ∃ a ∈ S1 ++ [x], q ∈ a.reqs) ∧ (od ++ x.reqs.map al).drop 0 = (P1 ++ x.reqs).map al ∧ 0 + (P1 ++ x.reqs).length = (od ++ x.reqs.map al).length ∧ (P1 ++ x.reqs).length + cH (aq l) (S1 ++ [x]) + 1 ≤ P.length + 1 + cH (aq l) S ∧ j + 1 ≤ (bS (aq l) q.path).length ∧ ∀ r ∈ (bS (aq l) q.path).take (j + 1), has q.set r.aC.place = true → r ∈ S1 ++ [x] := by
        refine ⟨xe, ?_, by rw [D2, kO, List.map_append], by rw [List.length_append]; omega, by rw [List.length_append]; omega, aB, fun r hr hh => ?_⟩
        ·rcases xx with h | ⟨a, ha, h⟩
         ·exact .inl h
         ·exact .inr ⟨a, List.mem_append_left _ ha, h⟩
        ·rw [tZ] at hr
         rcases List.mem_append.1 hr with hr | hr
         ·exact List.mem_append_left _ (jW r hr hh)
         ·exact List.mem_append_right _ hr
       simp only [ae,af,az,cd,h0,h1,dV,da,List.length_cons,al,ak,Nat.add_zero,Int.le_refl,Int.toNat_one,Int.toNat_zero,cM,hw,List.getElem?_map,hx,ag,ab,ah,mG,xy,jX,fp,dE,List.length_map,go_sem,reduceIte,zA,zB,zC,zD,zE,zF,reduceCtorEq]
       refine w4 _ ⟨nv, ?_, ?_, ba (by omega) (by (first | (simp only [nv,hw,List.length_append,List.length_map,ae,af,az,go_sem,reduceIte,zA,zB,zC,zD,zE,zF,reduceCtorEq]; done) | (simp only [nv,hw,List.length_append,List.length_map,jX,ae,af,az,go_sem,reduceIte,zA,zB,zC,zD,zE,zF,reduceCtorEq]; done)))⟩
       ·exact xg
       ·dsimp only [nv]; omega
      ·obtain ⟨o0, rfl⟩ : ∃ k, o1 = k + 1 := ⟨o1 - 1, by omega⟩
       have fp := bN x.reqs
       have dE : P1.length + x.reqs.length ≤ 34359738368 := by omega
       simp only [ae,af,az,cd,h0,h1,dV,da,List.length_cons,al,ak,Nat.add_zero,Int.le_refl,Int.toNat_one,Int.toNat_zero,cM,hw,List.getElem?_map,hx,ag,ab,ah,mG,xy,jV,fp,dE,List.length_map,go_sem,reduceIte,zA,zB,zC,zD,zE,zF,reduceCtorEq]
       refine V1 ?_
       intro o2 Dm D2 Aa
       try rw [List.length_map] at Aa
       let nv : List Rl × List Rq × Nat × Nat × List V × Nat := (S1 ++ [x], P1 ++ x.reqs, v1 + 1, o2, Dm, j + 1)
       have xg : RI (aq l) roots (S1 ++ [x]) (P1 ++ x.reqs) (fun y => y = q) ∧ (q ∈ roots ∨ ∃ a ∈ S1 ++ [x], q ∈ a.reqs) ∧ Dm.drop o2 = (P1 ++ x.reqs).map al ∧ o2 + (P1 ++ x.reqs).length = Dm.length ∧ (P1 ++ x.reqs).length + cH (aq l) (S1 ++ [x]) + 1 ≤ P.length + 1 + cH (aq l) S ∧ j + 1 ≤ (bS (aq l) q.path).length ∧ ∀ r ∈ (bS (aq l) q.path).take (j + 1), has q.set r.aC.place = true → r ∈ S1 ++ [x] := by
        refine ⟨xe, ?_, by rw [D2, kO, List.map_append], by rw [List.length_append]; omega, by rw [List.length_append]; omega, aB, fun r hr hh => ?_⟩
        ·rcases xx with h | ⟨a, ha, h⟩
         ·exact .inl h
         ·exact .inr ⟨a, List.mem_append_left _ ha, h⟩
        ·rw [tZ] at hr
         rcases List.mem_append.1 hr with hr | hr
         ·exact List.mem_append_left _ (jW r hr hh)
         ·exact List.mem_append_right _ hr
       simp only [ae,af,az,cd,h0,h1,dV,da,List.length_cons,al,ak,Nat.add_zero,Int.le_refl,Int.toNat_one,Int.toNat_zero,cM,hw,List.getElem?_map,hx,ag,ab,ah,mG,xy,jV,fp,dE,List.length_map,go_sem,reduceIte,zA,zB,zC,zD,zE,zF,reduceCtorEq]
       refine w4 _ ⟨nv, ?_, ?_, ba (by omega) (by (first | (simp only [nv,hw,List.length_append,List.length_map,ae,af,az,go_sem,reduceIte,zA,zB,zC,zD,zE,zF,reduceCtorEq]; done) | (simp only [nv,hw,List.length_append,List.length_map,jX,ae,af,az,go_sem,reduceIte,zA,zB,zC,zD,zE,zF,reduceCtorEq]; done)))⟩
       ·exact xg
       ·dsimp only [nv]; omega
     ·let nv : List Rl × List Rq × Nat × Nat × List V × Nat := (S1, P1, v1, o1, od, j + 1)
      have xg : RI (aq l) roots S1 P1 (fun y => y = q) ∧ (q ∈ roots ∨ ∃ a ∈ S1, q ∈ a.reqs) ∧ od.drop o1 = P1.map al ∧ o1 + P1.length = od.length ∧ P1.length + cH (aq l) S1 + 1 ≤ P.length + 1 + cH (aq l) S ∧ j + 1 ≤ (bS (aq l) q.path).length ∧ ∀ r ∈ (bS (aq l) q.path).take (j + 1), has q.set r.aC.place = true → r ∈ S1 := by
       refine ⟨qh, xx, kO, jV, PS, aB, fun r hr hh => ?_⟩
       rw [tZ] at hr
       rcases List.mem_append.1 hr with hr | hr
       ·exact jW r hr hh
       ·rw [List.mem_singleton] at hr; subst hr
        refine (lZ (eK l) TB rI.1).1 ?_
        first | exact na | (rw [Ab, hh] at qi; cases qi)
      simp only [ae,af,az,cd,h0,h1,dV,da,List.length_cons,al,ak,Nat.add_zero,Int.le_refl,Int.toNat_one,Int.toNat_zero,cM,hw,List.getElem?_map,hx,ag,ab,ah,mG,List.length_map,go_sem,reduceIte,zA,zB,zC,zD,zE,zF,reduceCtorEq]
      refine w4 _ ⟨nv, ?_, ?_, ba (by omega) (by (first | (simp only [nv,hw,List.length_append,List.length_map,ae,af,az,go_sem,reduceIte,zA,zB,zC,zD,zE,zF,reduceCtorEq]; done) | (simp only [nv,hw,List.length_append,List.length_map,jX,ae,af,az,go_sem,reduceIte,zA,zB,zC,zD,zE,zF,reduceCtorEq]; done)))⟩
      ·exact xg
      ·dsimp only [nv]; omega
    ·have na : seen S1 x.key = true := by simpa using nV
     let nv : List Rl × List Rq × Nat × Nat × List V × Nat := (S1, P1, v1, o1, od, j + 1)
     have xg : RI (aq l) roots S1 P1 (fun y => y = q) ∧ (q ∈ roots ∨ ∃ a ∈ S1, q ∈ a.reqs) ∧ od.drop o1 = P1.map al ∧ o1 + P1.length = od.length ∧ P1.length + cH (aq l) S1 + 1 ≤ P.length + 1 + cH (aq l) S ∧ j + 1 ≤ (bS (aq l) q.path).length ∧ ∀ r ∈ (bS (aq l) q.path).take (j + 1), has q.set r.aC.place = true → r ∈ S1 := by
      refine ⟨qh, xx, kO, jV, PS, aB, fun r hr hh => ?_⟩
      rw [tZ] at hr
      rcases List.mem_append.1 hr with hr | hr
      ·exact jW r hr hh
      ·rw [List.mem_singleton] at hr; subst hr
       refine (lZ (eK l) TB rI.1).1 ?_
       first | exact na | (rw [Ab, hh] at qi; cases qi)
     simp only [ae,af,az,cd,h0,h1,dV,da,List.length_cons,al,ak,Nat.add_zero,Int.le_refl,Int.toNat_one,Int.toNat_zero,cM,hw,List.getElem?_map,hx,ag,ab,ah,mG,List.length_map,go_sem,reduceIte,zA,zB,zC,zD,zE,zF,reduceCtorEq]
     refine w4 _ ⟨nv, ?_, ?_, ba (by omega) (by (first | (simp only [nv,hw,List.length_append,List.length_map,ae,af,az,go_sem,reduceIte,zA,zB,zC,zD,zE,zF,reduceCtorEq]; done) | (simp only [nv,hw,List.length_append,List.length_map,jX,ae,af,az,go_sem,reduceIte,zA,zB,zC,zD,zE,zF,reduceCtorEq]; done)))⟩
     ·exact xg
     ·dsimp only [nv]; omega
   ·have cB : ¬ j < (bS (aq l) q.path).length := by simpa using jy
    have xe := qh.close fun r hr hh => jW r (by rw [List.take_of_length_le (by omega)]; exact rO.2 ⟨hr, (mv hh).symm⟩) (by unfold ek at hh; simp at hh; exact hh.2)
    simp only [ae,af,az,cd,h0,h1,dV,da,List.length_cons,al,ak,Nat.add_zero,Int.le_refl,Int.toNat_one,Int.toNat_zero,cM,List.length_map,go_sem,reduceIte,zA,zB,zC,zD,zE,zF,reduceCtorEq]
    refine bP _ ⟨(S1, P1, v1, o1, od), ?_, ?_, ba (by omega) (by (simp only [ae,af,az,go_sem,reduceIte,zA,zB,zC,zD,zE,zF,reduceCtorEq]))⟩
    ·exact ⟨xe, kO, jV, by dsimp only; omega⟩
    ·dsimp only; omega
 ·obtain rfl : P = [] := by
   cases P with
   | nil => rfl
   | cons q r => simp at fu
  obtain ⟨ks, MA⟩ : ∃ ks : Nat → List dD, ks = fun i => ((l.take i).filter fun r => seen S r.key).map Rl.key := ⟨_, rfl⟩
  have W5 : ks 0 = [] := by rw [MA]; rfl
  simp only [ae,af,az,List.length_map,go_sem,reduceIte,zA,zB,zC,zD,zE,zF,reduceCtorEq]
  refine yK 12 0 4 (by decide) rfl ?_
  refine ct tt_ok [] (fun i : Nat => [(7, .mp 6), (12, .ms 8 (ks i).length 0 (ks i).length), (62, .slice (l.map ag)), (63, num l.length), (64, num i)]) (fun i : Nat => [.box [.slice (l.map ag), .slice I], .box [.slice (l.map ag), .slice I], .box [.mp 3, .mp 4], .map (bL aM 0 (gK (aq l))) (gK (aq l)).length, .map (bL strVal 0 (gP (aq l))) (aO (aq l)).length, .box [.mp 3, .mp 4], .map (bL aM 0 (gS S)) (gS S).length, .rows v 2 rs, .rows (ks i).length 4 ((ks i).map aI)]) (fun i => l.length - i) (fun i => i ≤ l.length) (0) 9 (ba (by omega) (by simp only [ae,af,az,List.length_map,W5,List.map_nil,List.length_nil,Int.cast_ofNat_Int,go_sem,reduceIte,zA,zB,zC,zD,zE,zF,reduceCtorEq] <;> rfl)) (Nat.zero_le _) ?_
  intro i hi
  try dsimp only at hi ⊢
  intro Z4 TD
  simp only [ae,af,az,List.length_map,go_sem,reduceIte,zA,zB,zC,zD,zE,zF,reduceCtorEq]
  refine aL (fun PU => ?_) (fun PU => ?_)
  ·have aB : i < l.length := by simpa using PU
   have hw := ax i (by omega)
   obtain ⟨x, hx⟩ : ∃ x, l[i]? = some x := ⟨_, List.getElem?_eq_getElem aB⟩
   have Lt : ks (i + 1) = ks i ++ (if seen S x.key = true then [x.key] else []) := by
    rw [MA]
    dsimp only
    rw [ij hx, List.filter_append, List.map_append]
    by_cases JH : seen S x.key = true <;> simp [JH]
   have mG := fun (mem : List ay) (b : Nat) hm => tG S x.key (mem := mem) (b := b) hm
   simp only [mR] at mG
   have RU : (ks i).length ≤ 1048576 := by
    rw [MA]
    dsimp only
    rw [List.length_map]
    exact Nat.le_trans (List.length_filter_le _ _) (by rw [List.length_take]; have := hb.1; omega)
   have dG : (ks i).length + 1 ≤ 34359738368 := by omega
   simp only [ae,af,az,hw,List.getElem?_map,hx,ag,ab,ah,mG,dG,List.length_cons,List.length_nil,Nat.zero_add,List.length_map,go_sem,reduceIte,zA,zB,zC,zD,zE,zF,reduceCtorEq]
   refine cF (by have h := kH x; simp only [ag,ab,ah,aI] at h; exact h) ?_
   rintro _ rfl
   simp only [ae,af,az,hw,List.getElem?_map,hx,ag,ab,ah,mG,dG,List.length_cons,List.length_nil,Nat.zero_add,List.length_map,go_sem,reduceIte,zA,zB,zC,zD,zE,zF,reduceCtorEq]
   refine aL (fun PV => ?_) (fun PV => ?_)
   ·rw [if_pos (by simpa using PV)] at Lt
    have fp : ca [V.agg [str x.key.path, num x.key.aC.mj, num x.key.aC.mn, num x.key.aC.pt]] 0 4 = true := rfl
    simp only [ae,af,az,hw,List.getElem?_map,hx,ag,ab,ah,mG,dG,List.length_cons,List.length_nil,Nat.zero_add,fp,List.length_map,go_sem,reduceIte,zA,zB,zC,zD,zE,zF,reduceCtorEq]
    refine cF (by have h := kH x; simp only [ag,ab,ah,aI] at h; exact h) ?_
    rintro _ rfl
    simp only [ae,af,az,hw,List.getElem?_map,hx,ag,ab,ah,mG,dG,List.length_cons,List.length_nil,Nat.zero_add,fp,List.length_map,go_sem,reduceIte,zA,zB,zC,zD,zE,zF,reduceCtorEq]
    refine TD _ ⟨i + 1, ?_, ?_, ba (by omega) (by (simp only [Lt,hw,List.map_append,List.map_cons,List.map_nil,List.length_append,List.length_map,List.length_cons,List.length_nil,Nat.zero_add,aI,ae,af,az,go_sem,reduceIte,zA,zB,zC,zD,zE,zF,reduceCtorEq]))⟩
    ·exact aB
    ·omega
   ·rw [if_neg (by simpa using PV), List.append_nil] at Lt
    simp only [ae,af,az,hw,List.getElem?_map,hx,ag,ab,ah,mG,dG,List.length_cons,List.length_nil,Nat.zero_add,List.length_map,go_sem,reduceIte,zA,zB,zC,zD,zE,zF,reduceCtorEq]
    refine TD _ ⟨i + 1, ?_, ?_, ba (by omega) (by (simp only [Lt,hw,List.map_append,List.map_cons,List.map_nil,List.length_append,List.length_map,List.length_cons,List.length_nil,Nat.zero_add,aI,ae,af,az,go_sem,reduceIte,zA,zB,zC,zD,zE,zF,reduceCtorEq]))⟩
    ·exact aB
    ·omega
  ·have cB : ¬ i < l.length := by simpa using PU
   have rZ : i = l.length := by omega
   subst rZ
   have aw : ks l.length = (bX (aq l) roots).map Rl.key := by
    rw [MA]
    dsimp only
    rw [List.take_length, tH Ie (eK l)]
    unfold aq
    split
    ·rfl
    ·rename_i W6
     have Z5 : S = [] := by
      cases S with
      | nil => rfl
      | cons a t => have h := (Ie.sub a (by simp)).mem; unfold aq at h; rw [if_neg W6] at h; simp at h
     subst Z5
     simp [seen]
   simp only [ae,af,az,List.length_map,go_sem,reduceIte,zA,zB,zC,zD,zE,zF,reduceCtorEq]
   refine hK _ ?_
   try simp only [mK,Tryz.f13,iE,lC,oC,Cr,List.length_map,List.take_length,← aw,aZ,go_sem,reduceIte,zA,zB,zC,zD,zE,zF,reduceCtorEq]
   simp [eA, bD]
   exact List.take_of_length_le (by simp)
end Go.Proofs.YtnfeacnbgbggfaaGreatDoor
end

section
namespace Go.Proofs.YtnfeacnbgbggfaaGreatDoor
open Go.Eng
open Nat renaming reduceAdd → zA, reduceLT → zB, reduceLeDiff → zC, reduceMul → zD, reduceEqDiff → zE, reduceSub → zF
variable [aG]
set_option maxHeartbeats 4000000
set_option maxRecDepth 100000
def qX (q : Rq) : Bool := !(decide (100 < q.path.size) || decide (8 < q.set.length))
def tJ (l : List Rq) : Bool := l.all qX && decide (l.length ≤ 20)
def jk (r : Rl) : Bool := !(decide (100 < r.path.size) || decide (100 < r.ar.size) || decide (100 < r.gg.size) || decide (100 < r.ce.size) || !tJ r.reqs)
def mS (l : List Rl) (n : Nat) : Bool := l.all jk && decide (l.length ≤ n)
theorem nW {α : Type} {l : List α} {p : α → Bool} {i : Nat} {x : α} (h : l[i]? = some x) (hx : p x = false) : l.all p = false := by
 rw [List.all_eq_false]
 exact ⟨x, List.mem_of_getElem? h, by simp [hx]⟩
theorem Dn {α : Type} {l : List α} {p : α → Bool} {i : Nat} (hi : ¬ i < l.length) (h : ∀ j < i, ∀ x, l[j]? = some x → p x = true) : l.all p = true := by
 rw [List.all_eq_true]
 intro x hx
 obtain ⟨j, hj, rfl⟩ := List.getElem_of_mem hx
 exact h j (by omega) _ (List.getElem?_eq_getElem hj)
theorem Dp (l : List Rq) (hl : l.length ≤ 1048576) : ∃ r_, (fun w => w = bl (tJ l)) r_ ∧ aP Tryz.prog 11 [ah l] r_ := by
 refine dI tt_ok [] 29 [.tmp 2] (fn := Tryz.f11) Tryz.func11 rfl Tryz.call11 ⟨rfl, rfl, by simp⟩ fun K hK => ?_
 have fR : Tryz.prog.underlying 9 = some .string := by kernel_rfl
 have sl : ∀ (a : ByteArray) (ty : TypeId), cN Tryz.prog (Builtin.len_ #[9] ty) [.sc (.string a)] = some (num a.size) := fun a ty => cx (P := Tryz.prog) (tt := tt) (T := 9) a fR ty
 simp only [ah]
 simp only [sl,List.length_map,go_sem,reduceIte,zA,zB,zC,zD,zE,zF,reduceCtorEq]
 refine bA tt_ok [] [3] 0 [0] (fun vs => ((l.length : Int) - Go.Eng.intOf (vs.headD .undef)).toNat) (fun vs => ∃ i : Nat, vs = [num i] ∧ i ≤ l.length ∧ ∀ j < i, ∀ x, l[j]? = some x → qX x = true) (by omega) (by simp only [sl,List.length_map,go_sem,reduceIte,zA,zB,zC,zD,zE,zF,reduceCtorEq]) (⟨0, rfl, Nat.zero_le _, fun j hj => absurd hj (Nat.not_lt_zero j)⟩) fun vs hI Z1 bP => ?_
 obtain ⟨i, rfl, hi, aS⟩ := hI
 simp only [sl,List.length_map,go_sem,reduceIte,zA,zB,zC,zD,zE,zF,reduceCtorEq]
 refine aL (fun Bh => ?_) (fun Bh => ?_)
 ·have aB : i < l.length := by simpa using Bh
  have hw := ax i (by omega)
  obtain ⟨x, hx⟩ : ∃ x, l[i]? = some x := ⟨_, List.getElem?_eq_getElem aB⟩
  simp only [hw,List.getElem?_map,hx,al,ak,sl,List.length_map,go_sem,reduceIte,zA,zB,zC,zD,zE,zF,reduceCtorEq]
  refine aL (fun Ii => ?_) (fun Ii => ?_)
  ·have jr : qX x = false := by unfold qX; simp_all <;> omega
   have aw : false = tJ l := by unfold tJ; rw [nW hx jr]; rfl
   simp only [hw,List.getElem?_map,hx,al,ak,sl,List.length_map,go_sem,reduceIte,zA,zB,zC,zD,zE,zF,reduceCtorEq]
   exact hK _ (congrArg bl aw)
  ·simp only [hw,List.getElem?_map,hx,al,ak,sl,List.length_map,go_sem,reduceIte,zA,zB,zC,zD,zE,zF,reduceCtorEq]
   refine aL (fun fu => ?_) (fun fu => ?_)
   ·have jr : qX x = false := by unfold qX; simp_all <;> omega
    have aw : false = tJ l := by unfold tJ; rw [nW hx jr]; rfl
    simp only [hw,List.getElem?_map,hx,al,ak,sl,List.length_map,go_sem,reduceIte,zA,zB,zC,zD,zE,zF,reduceCtorEq]
    exact hK _ (congrArg bl aw)
   ·simp only [hw,List.getElem?_map,hx,al,ak,sl,List.length_map,go_sem,reduceIte,zA,zB,zC,zD,zE,zF,reduceCtorEq]
    refine bP _ (cA (by omega) (by simp only [hw,List.getElem?_map,hx,al,ak,sl,List.length_map,go_sem,reduceIte,zA,zB,zC,zD,zE,zF,reduceCtorEq]) ?_ ?_) <;> simp only [fa,lk,reduceIte,zE]
    ·refine ⟨i + 1, rfl, aB, fun j hj => ?_⟩
     rcases Nat.lt_or_ge j i with h | h
     ·exact aS j h
     ·obtain rfl : j = i := by omega
      intro y hy
      rw [hx] at hy; cases hy; unfold qX; simp_all <;> omega
    ·simp only [Go.Eng.intOf,List.headD_cons]; omega
 ·have cB : ¬ i < l.length := by simpa using Bh
  have hlen : decide ((l.length : Int) ≤ 20) = decide (l.length ≤ 20) := by rw [Bool.eq_iff_iff, decide_eq_true_eq, decide_eq_true_eq]; omega
  have aw : decide ((l.length : Int) ≤ 20) = tJ l := by rw [hlen]; unfold tJ; rw [Dn cB aS]; rfl
  simp only [sl,List.length_map,go_sem,reduceIte,zA,zB,zC,zD,zE,zF,reduceCtorEq]
  exact hK _ (congrArg bl aw)
theorem Lu (l : List Rl) (n : Nat) (hb : tY l) : ∃ r_, (fun w => w = bl (mS l n)) r_ ∧ aP Tryz.prog 10 [aY l, num (n : Nat)] r_ := by
 refine dI tt_ok [] 59 [.tmp 4] (fn := Tryz.f10) Tryz.func10 rfl Tryz.call10 ⟨rfl, rfl, by simp⟩ fun K hK => ?_
 have w6 := hb.1
 have fR : Tryz.prog.underlying 9 = some .string := by kernel_rfl
 have sl : ∀ (a : ByteArray) (ty : TypeId), cN Tryz.prog (Builtin.len_ #[9] ty) [.sc (.string a)] = some (num a.size) := fun a ty => cx (P := Tryz.prog) (tt := tt) (T := 9) a fR ty
 simp only [aY]
 simp only [sl,List.length_map,go_sem,reduceIte,zA,zB,zC,zD,zE,zF,reduceCtorEq]
 refine bA tt_ok [] [5] 0 [0,1] (fun vs => ((l.length : Int) - Go.Eng.intOf (vs.headD .undef)).toNat) (fun vs => ∃ i : Nat, vs = [num i] ∧ i ≤ l.length ∧ ∀ j < i, ∀ x, l[j]? = some x → jk x = true) (by omega) (by simp only [sl,List.length_map,go_sem,reduceIte,zA,zB,zC,zD,zE,zF,reduceCtorEq]) (⟨0, rfl, Nat.zero_le _, fun j hj => absurd hj (Nat.not_lt_zero j)⟩) fun vs hI Z1 bP => ?_
 obtain ⟨i, rfl, hi, aS⟩ := hI
 simp only [sl,List.length_map,go_sem,reduceIte,zA,zB,zC,zD,zE,zF,reduceCtorEq]
 refine aL (fun gi => ?_) (fun gi => ?_)
 ·have aB : i < l.length := by simpa using gi
  have hw := ax i (by omega)
  obtain ⟨x, hx⟩ : ∃ x, l[i]? = some x := ⟨_, List.getElem?_eq_getElem aB⟩
  simp only [hw,List.getElem?_map,hx,ag,ab,ah,sl,List.length_map,go_sem,reduceIte,zA,zB,zC,zD,zE,zF,reduceCtorEq]
  refine aL (fun Ii => ?_) (fun Ii => ?_)
  ·have jr : jk x = false := by unfold jk; simp_all <;> omega
   have aw : false = mS l n := by unfold mS; rw [nW hx jr]; rfl
   simp only [hw,List.getElem?_map,hx,ag,ab,ah,sl,List.length_map,go_sem,reduceIte,zA,zB,zC,zD,zE,zF,reduceCtorEq]
   exact hK _ (congrArg bl aw)
  ·simp only [hw,List.getElem?_map,hx,ag,ab,ah,sl,List.length_map,go_sem,reduceIte,zA,zB,zC,zD,zE,zF,reduceCtorEq]
   refine aL (fun PW => ?_) (fun PW => ?_)
   ·have jr : jk x = false := by unfold jk; simp_all <;> omega
    have aw : false = mS l n := by unfold mS; rw [nW hx jr]; rfl
    simp only [hw,List.getElem?_map,hx,ag,ab,ah,sl,List.length_map,go_sem,reduceIte,zA,zB,zC,zD,zE,zF,reduceCtorEq]
    exact hK _ (congrArg bl aw)
   ·simp only [hw,List.getElem?_map,hx,ag,ab,ah,sl,List.length_map,go_sem,reduceIte,zA,zB,zC,zD,zE,zF,reduceCtorEq]
    refine aL (fun PX => ?_) (fun PX => ?_)
    ·have jr : jk x = false := by unfold jk; simp_all <;> omega
     have aw : false = mS l n := by unfold mS; rw [nW hx jr]; rfl
     simp only [hw,List.getElem?_map,hx,ag,ab,ah,sl,List.length_map,go_sem,reduceIte,zA,zB,zC,zD,zE,zF,reduceCtorEq]
     exact hK _ (congrArg bl aw)
    ·simp only [hw,List.getElem?_map,hx,ag,ab,ah,sl,List.length_map,go_sem,reduceIte,zA,zB,zC,zD,zE,zF,reduceCtorEq]
     refine aL (fun PY => ?_) (fun PY => ?_)
     ·have jr : jk x = false := by unfold jk; simp_all <;> omega
      have aw : false = mS l n := by unfold mS; rw [nW hx jr]; rfl
      simp only [hw,List.getElem?_map,hx,ag,ab,ah,sl,List.length_map,go_sem,reduceIte,zA,zB,zC,zD,zE,zF,reduceCtorEq]
      exact hK _ (congrArg bl aw)
     ·simp only [hw,List.getElem?_map,hx,ag,ab,ah,sl,List.length_map,go_sem,reduceIte,zA,zB,zC,zD,zE,zF,reduceCtorEq]
      refine cF (by have h := Dp x.reqs (hb.2 x (List.mem_of_getElem? hx)).2.1; simp only [ah] at h; exact h) ?_
      rintro _ rfl
      simp only [hw,List.getElem?_map,hx,ag,ab,ah,sl,List.length_map,go_sem,reduceIte,zA,zB,zC,zD,zE,zF,reduceCtorEq]
      refine aL (fun pX => ?_) (fun pX => ?_)
      ·have jr : jk x = false := by unfold jk; simp_all <;> omega
       have aw : false = mS l n := by unfold mS; rw [nW hx jr]; rfl
       simp only [hw,List.getElem?_map,hx,ag,ab,ah,sl,List.length_map,go_sem,reduceIte,zA,zB,zC,zD,zE,zF,reduceCtorEq]
       exact hK _ (congrArg bl aw)
      ·simp only [hw,List.getElem?_map,hx,ag,ab,ah,sl,List.length_map,go_sem,reduceIte,zA,zB,zC,zD,zE,zF,reduceCtorEq]
       refine bP _ (cA (by omega) (by simp only [hw,List.getElem?_map,hx,ag,ab,ah,sl,List.length_map,go_sem,reduceIte,zA,zB,zC,zD,zE,zF,reduceCtorEq]) ?_ ?_) <;> simp only [fa,lk,reduceIte,zE]
       ·refine ⟨i + 1, rfl, aB, fun j hj => ?_⟩
        rcases Nat.lt_or_ge j i with h | h
        ·exact aS j h
        ·obtain rfl : j = i := by omega
         intro y hy
         rw [hx] at hy; cases hy; unfold jk; simp_all <;> omega
       ·simp only [Go.Eng.intOf,List.headD_cons]; omega
 ·have cB : ¬ i < l.length := by simpa using gi
  have hlen : decide ((l.length : Int) ≤ (n : Int)) = decide (l.length ≤ n) := by rw [Bool.eq_iff_iff, decide_eq_true_eq, decide_eq_true_eq]; omega
  have aw : decide ((l.length : Int) ≤ (n : Int)) = mS l n := by rw [hlen]; unfold mS; rw [Dn cB aS]; rfl
  simp only [sl,List.length_map,go_sem,reduceIte,zA,zB,zC,zD,zE,zF,reduceCtorEq]
  exact hK _ (congrArg bl aw)
end Go.Proofs.YtnfeacnbgbggfaaGreatDoor
end

section
namespace Go.Proofs.YtnfeacnbgbggfaaGreatDoor
open Go.Eng
variable [aG]
set_option maxHeartbeats 4000000
set_option maxRecDepth 100000
theorem Lv {l : List Rq} (h : tJ l = true) : l.length ≤ 20 ∧ ∀ q ∈ l, q.path.size ≤ 100 ∧ q.set.length ≤ 8 := by
 unfold tJ at h
 rw [Bool.and_eq_true, decide_eq_true_eq, List.all_eq_true] at h
 refine ⟨h.2, fun q hq => ?_⟩
 have := h.1 q hq
 unfold qX at this
 simp only [Bool.not_eq_true',Bool.or_eq_false_iff,decide_eq_false_iff_not] at this
 omega
theorem Lw {l : List Rl} {n : Nat} (h : mS l n = true) : l.length ≤ n ∧ ∀ r ∈ l, r.path.size ≤ 100 ∧ r.ar.size ≤ 100 ∧ r.gg.size ≤ 100 ∧ r.ce.size ≤ 100 ∧ tJ r.reqs = true := by
 unfold mS at h
 rw [Bool.and_eq_true, decide_eq_true_eq, List.all_eq_true] at h
 refine ⟨h.2, fun r hr => ?_⟩
 have := h.1 r hr
 unfold jk at this
 simp only [Bool.not_eq_true',Bool.or_eq_false_iff,decide_eq_false_iff_not,Bool.not_eq_false'] at this
 refine ⟨by omega, by omega, by omega, by omega, by simpa using this.2⟩
theorem pb (t : ByteArray) (k : Nat) (h : t.size ≤ k) (hk : k ≤ 1048576) : (eT t).length ≤ k + 10 := by
 unfold eT; rw [List.length_append, eV]
 have := lR (n := t.size) (by omega)
 omega
theorem Lx {r : Rl} (hw : UC r) (h : mS [r] 1 = true) : (qa r).length ≤ 10000 := by
 obtain ⟨h1, h2, h3, h4, h5⟩ := (Lw h).2 r (by simp)
 obtain ⟨h6, h7⟩ := Lv h5
 have hv := rM hw.aC
 have a1 := pb r.path 100 h1 (by decide)
 have a2 := pb r.ar 100 h2 (by decide)
 have a3 := pb r.gg 100 h3 (by decide)
 have a4 := pb r.ce 100 h4 (by decide)
 have a5 := dx (n := r.aC.mn) (by omega) (by omega)
 have a6 := dx (n := r.aC.pt) (by omega) (by omega)
 have a7 := dx (n := xw r) (by have := nO r; omega) (by have := nO r; omega)
 have a8 := dx (n := (r.reqs.length : Int)) (by omega) (by omega)
 have a9 := fM (g := vk) (l := r.reqs) (k := 280) fun q hq => by
  obtain ⟨b1, b2⟩ := h7 q hq
  have c1 := pb q.path 100 b1 (by decide)
  have c2 := dx (n := (q.set.length : Int)) (by omega) (by omega)
  have c3 := wZ (kL (hw.reqs q hq))
  unfold vk
  simp only [List.length_append]
  omega
 unfold qa FJ
 simp only [List.length_append]
 omega
theorem Ly {r : Rl} (h : dK [r] = 0) : EW r = .bT [str (bs (qa r)), num 0] := if_pos h
end Go.Proofs.YtnfeacnbgbggfaaGreatDoor
end

section
namespace Go.Proofs.YtnfeacnbgbggfaaGreatDoor
open Go.Eng
open Nat renaming reduceAdd → zA, reduceLT → zB, reduceLeDiff → zC, reduceMul → zD, reduceEqDiff → zE, reduceSub → zF
variable [aG]
set_option maxHeartbeats 4000000
set_option maxRecDepth 100000
def ua (r : Rl) : bG := ⟨r.aC.pl, r.aC.pl + 1⟩
def nX (t : List Rl) : List bG := (t.filter fun r => !r.yk).map ua
theorem zI {G : List Rl} {i : Nat} {x : Rl} (h : G[i]? = some x) : nX (G.take (i + 1)) = nX (G.take i) ++ (if x.yk = true then [] else [ua x]) := by
 unfold nX
 rw [List.take_add_one, h, List.filter_append, List.map_append]
 cases hx : x.yk <;> simp [hx]
theorem MY (v : dr) : 0 ≤ v.pl ∧ v.pl < 1000000 := by
 unfold dr.pl
 split
 ·rename_i h; exact ⟨(iI h).2.2.1, (iI h).2.2.2⟩
 ·omega
theorem Ij (hG : aG.g = some 0) (l : List Rl) (I : List V) (hb : tY l) (p : ByteArray) : aP Tryz.prog 43 [bm l I, str p] (ak (canon (nX (bS (aq l) p)))) := by
 refine QN tt_ok [] 39 [.tmp 4] (fn := Tryz.f43) Tryz.func43 rfl Tryz.call43 ⟨rfl, rfl, by simp⟩ fun K hK => ?_
 simp only [bm,aY]
 have w6 := hb.1
 simp only [ae,af,List.length_map,go_sem,reduceIte,zA,zB,zC,zD,zE,zF,reduceCtorEq]
 refine cW (by have h := jj hG l I hb; simp only [bm,aY] at h; exact h _) ?_
 rintro _ _ ⟨rfl, rfl⟩
 try simp only [Ev,Q3,List.length_cons,List.length_nil,zA]
 by_cases fF : p ∈ aO (aq l)
 ·have cM := fun (mem : List ay) (b : Nat) hm => mF (aq l) p (mem := mem) (b := b) hm
  simp only [if_pos fF,bW] at cM
  simp only [ae,af,cM,List.length_map,go_sem,reduceIte,zA,zB,zC,zD,zE,zF,reduceCtorEq]
  refine yK 7 0 2 (by decide) rfl ?_
  refine ct tt_ok [] (fun a : Nat × List bG => [(7, .ms 6 a.2.length 0 a.2.length), (18, .slice ((bS (aq l) p).map ag)), (19, num (bS (aq l) p).length), (20, num a.1)]) (fun a : Nat × List bG => [.box [.slice (l.map ag), .slice I], .box [.slice (l.map ag), .slice I], .box [.mp 3, .mp 4], .map (bL aM 0 (gK (aq l))) (gK (aq l)).length, .map (bL strVal 0 (gP (aq l))) (aO (aq l)).length, .box [.mp 3, .mp 4], .rows a.2.length 2 (a.2.map aj)]) (fun a => (bS (aq l) p).length - a.1) (fun a => a.1 ≤ (bS (aq l) p).length ∧ a.2 = nX ((bS (aq l) p).take a.1)) ((0, [])) 7 (ba (by omega) (by simp only [ae,af,cM,List.length_map,List.map_nil,List.length_nil,Int.cast_ofNat_Int,go_sem,reduceIte,zA,zB,zC,zD,zE,zF,reduceCtorEq] <;> rfl)) (⟨Nat.zero_le _, rfl⟩) ?_
  rintro ⟨i, L⟩ ⟨hi, hL⟩
  try dsimp only at hi hL ⊢
  intro Z1 bP
  simp only [ae,af,cM,List.length_map,go_sem,reduceIte,zA,zB,zC,zD,zE,zF,reduceCtorEq]
  refine aL (fun eW => ?_) (fun eW => ?_)
  ·have aB : i < (bS (aq l) p).length := by simpa using eW
   have zy : (bS (aq l) p).length ≤ 256 := Nat.le_trans (List.length_filter_le _ _) (eY l)
   have hw := ax i (by omega)
   obtain ⟨x, hx⟩ : ∃ x, (bS (aq l) p)[i]? = some x := ⟨_, List.getElem?_eq_getElem aB⟩
   have na := zI hx
   have Z6 := MY x.aC
   have Dq : IntKind.i64.wrap (x.aC.pl + 1) = x.aC.pl + 1 := IntWalk.i64_in _ (by omega)
   have fp : ∀ a b : Int, ca [V.agg [num a, num b]] 0 2 = true := fun _ _ => rfl
   have Bw : L.length ≤ 256 := by
    rw [hL]; unfold nX
    rw [List.length_map]
    exact Nat.le_trans (List.length_filter_le _ _) (by rw [List.length_take]; omega)
   have dE : L.length + 1 ≤ 34359738368 := by omega
   simp only [ae,af,cM,hw,List.getElem?_map,hx,ag,ab,ah,Option.map_some,List.length_map,go_sem,reduceIte,zA,zB,zC,zD,zE,zF,reduceCtorEq]
   refine aL (fun gq => ?_) (fun gq => ?_)
   ·have Ls : x.yk = false := by simpa using gq
    rw [if_neg (by simp [Ls])] at na
    let nv : Nat × List bG := (i + 1, L ++ [ua x])
    have Ik : L ++ [ua x] = nX ((bS (aq l) p).take (i + 1)) := by rw [na, hL]
    simp only [ae,af,cM,hw,List.getElem?_map,hx,ag,ab,ah,Option.map_some,Dq,fp,dE,List.length_cons,List.length_nil,Nat.zero_add,List.length_map,go_sem,reduceIte,zA,zB,zC,zD,zE,zF,reduceCtorEq]
    refine bu tt_ok aD [⟨.n, 0, [], [], []⟩, ⟨.r, 0, [], [], []⟩, ⟨.n, 0, [], [1], []⟩, ⟨.r, 0, [], [], []⟩, ⟨.n, 0, [], [1,2,3], []⟩, ⟨.n, 0, [], [1,2,3,4], []⟩, ⟨.n, 0, [], [1,2,3,4,5], []⟩, ⟨.n, 0, [], [1,2,3,4,5,6], []⟩, ⟨.w, 0, [], [0,1,2,3,4,5,6,7], []⟩, ⟨.n, 0, [], [0,1,2,3,4,5,6,7,8], []⟩] 1 (by kernel_rfl) ?_
    simp only [ae,af,cM,hw,List.getElem?_map,hx,ag,ab,ah,Option.map_some,Dq,fp,dE,List.length_cons,List.length_nil,Nat.zero_add,List.length_map,go_sem,reduceIte,zA,zB,zC,zD,zE,zF,reduceCtorEq]
    refine cG (by have h := iJ x; simp only [ag,ab,ah] at h; exact h) ?_
    rintro _ rfl
    simp only [ae,af,cM,hw,List.getElem?_map,hx,ag,ab,ah,Option.map_some,Dq,fp,dE,List.length_cons,List.length_nil,Nat.zero_add,List.length_map,go_sem,reduceIte,zA,zB,zC,zD,zE,zF,reduceCtorEq]
    refine cG (by have h := iJ x; simp only [ag,ab,ah] at h; exact h) ?_
    rintro _ rfl
    simp only [ae,af,cM,hw,List.getElem?_map,hx,ag,ab,ah,Option.map_some,Dq,fp,dE,List.length_cons,List.length_nil,Nat.zero_add,List.length_map,go_sem,reduceIte,zA,zB,zC,zD,zE,zF,reduceCtorEq]
    refine bP _ ⟨nv, ?_, ?_, ba (by omega) (by (simp only [nv,hw,List.map_append,List.map_cons,List.map_nil,List.length_append,List.length_map,List.length_cons,List.length_nil,Nat.zero_add,aj,ua,ae,af,go_sem,reduceIte,zA,zB,zC,zD,zE,zF,reduceCtorEq]))⟩
    ·exact ⟨aB, Ik⟩
    ·dsimp only [nv]; omega
   ·have Ls : x.yk = true := by simpa using gq
    rw [if_pos Ls] at na
    let nv : Nat × List bG := (i + 1, L)
    have Ik : L = nX ((bS (aq l) p).take (i + 1)) := by rw [na, hL, List.append_nil]
    simp only [ae,af,cM,hw,List.getElem?_map,hx,ag,ab,ah,Option.map_some,List.length_map,go_sem,reduceIte,zA,zB,zC,zD,zE,zF,reduceCtorEq]
    refine bP _ ⟨nv, ?_, ?_, ba (by omega) (by (simp only [nv,hw,List.map_append,List.map_cons,List.map_nil,List.length_append,List.length_map,List.length_cons,List.length_nil,Nat.zero_add,aj,ua,ae,af,go_sem,reduceIte,zA,zB,zC,zD,zE,zF,reduceCtorEq]))⟩
    ·exact ⟨aB, Ik⟩
    ·dsimp only [nv]; omega
  ·have cB : ¬ i < (bS (aq l) p).length := by simpa using eW
   have rZ : i = (bS (aq l) p).length := by omega
   have Lz : L = nX (bS (aq l) p) := by rw [hL, rZ, List.take_length]
   have Bw : L.length ≤ 1048576 := by
    rw [Lz]; unfold nX
    rw [List.length_map]
    exact Nat.le_trans (List.length_filter_le _ _) (Nat.le_trans (List.length_filter_le _ _) (by have := eY l; omega))
   have tK : List.take L.length (L.map aj) = L.map aj := List.take_of_length_le (by simp)
   have Il : L.length ≤ (L.map aj).length := by simp
   have fk : some (.slice ((canon L).map aj)) = some (ak (canon (nX (bS (aq l) p)))) := by rw [Lz]; rfl
   simp only [ae,af,cM,tK,Il,List.length_map,go_sem,reduceIte,zA,zB,zC,zD,zE,zF,reduceCtorEq]
   refine cF (⟨_, rfl, by have h := o6 L (by omega); simp only [ak] at h; exact h⟩) ?_
   rintro _ rfl
   simp only [ae,af,cM,tK,Il,List.length_map,go_sem,reduceIte,zA,zB,zC,zD,zE,zF,reduceCtorEq]
   exact hK _ (Option.some.inj (fk))
 ·have cM := fun (mem : List ay) (b : Nat) hm => mF (aq l) p (mem := mem) (b := b) hm
  simp only [if_neg fF] at cM
  have zH : bS (aq l) p = [] := by have h := kN fF; unfold bW at h; simpa using h
  simp only [ae,af,cM,List.length_map,go_sem,reduceIte,zA,zB,zC,zD,zE,zF,reduceCtorEq]
  refine rl (v' := .slice ((bS (aq l) p).map ag)) 18 (by decide) rfl (by rw [zH]; rfl) ?_
  refine Hd (v' := num ((bS (aq l) p).length : Int)) 19 (by rw [zH]; rfl) ?_
  refine yK 7 0 2 (by decide) rfl ?_
  refine ct tt_ok [] (fun a : Nat × List bG => [(7, .ms 6 a.2.length 0 a.2.length), (18, .slice ((bS (aq l) p).map ag)), (19, num (bS (aq l) p).length), (20, num a.1)]) (fun a : Nat × List bG => [.box [.slice (l.map ag), .slice I], .box [.slice (l.map ag), .slice I], .box [.mp 3, .mp 4], .map (bL aM 0 (gK (aq l))) (gK (aq l)).length, .map (bL strVal 0 (gP (aq l))) (aO (aq l)).length, .box [.mp 3, .mp 4], .rows a.2.length 2 (a.2.map aj)]) (fun a => (bS (aq l) p).length - a.1) (fun a => a.1 ≤ (bS (aq l) p).length ∧ a.2 = nX ((bS (aq l) p).take a.1)) ((0, [])) 7 (ba (by omega) (by simp only [ae,af,cM,List.length_map,List.map_nil,List.length_nil,Int.cast_ofNat_Int,go_sem,reduceIte,zA,zB,zC,zD,zE,zF,reduceCtorEq] <;> rfl)) (⟨Nat.zero_le _, rfl⟩) ?_
  rintro ⟨i, L⟩ ⟨hi, hL⟩
  try dsimp only at hi hL ⊢
  intro Z2 mP
  simp only [ae,af,cM,List.length_map,go_sem,reduceIte,zA,zB,zC,zD,zE,zF,reduceCtorEq]
  refine aL (fun eW => ?_) (fun eW => ?_)
  ·have aB : i < (bS (aq l) p).length := by simpa using eW
   have zy : (bS (aq l) p).length ≤ 256 := Nat.le_trans (List.length_filter_le _ _) (eY l)
   have hw := ax i (by omega)
   obtain ⟨x, hx⟩ : ∃ x, (bS (aq l) p)[i]? = some x := ⟨_, List.getElem?_eq_getElem aB⟩
   have na := zI hx
   have Z6 := MY x.aC
   have Dq : IntKind.i64.wrap (x.aC.pl + 1) = x.aC.pl + 1 := IntWalk.i64_in _ (by omega)
   have fp : ∀ a b : Int, ca [V.agg [num a, num b]] 0 2 = true := fun _ _ => rfl
   have Bw : L.length ≤ 256 := by
    rw [hL]; unfold nX
    rw [List.length_map]
    exact Nat.le_trans (List.length_filter_le _ _) (by rw [List.length_take]; omega)
   have dE : L.length + 1 ≤ 34359738368 := by omega
   simp only [ae,af,cM,hw,List.getElem?_map,hx,ag,ab,ah,Option.map_some,List.length_map,go_sem,reduceIte,zA,zB,zC,zD,zE,zF,reduceCtorEq]
   refine aL (fun gq => ?_) (fun gq => ?_)
   ·have Ls : x.yk = false := by simpa using gq
    rw [if_neg (by simp [Ls])] at na
    let nv : Nat × List bG := (i + 1, L ++ [ua x])
    have Ik : L ++ [ua x] = nX ((bS (aq l) p).take (i + 1)) := by rw [na, hL]
    simp only [ae,af,cM,hw,List.getElem?_map,hx,ag,ab,ah,Option.map_some,Dq,fp,dE,List.length_cons,List.length_nil,Nat.zero_add,List.length_map,go_sem,reduceIte,zA,zB,zC,zD,zE,zF,reduceCtorEq]
    refine bu tt_ok aD [⟨.n, 0, [], [], []⟩, ⟨.r, 0, [], [], []⟩, ⟨.n, 0, [], [1], []⟩, ⟨.r, 0, [], [], []⟩, ⟨.n, 0, [], [1,2,3], []⟩, ⟨.n, 0, [], [1,2,3,4], []⟩, ⟨.n, 0, [], [1,2,3,4,5], []⟩, ⟨.n, 0, [], [1,2,3,4,5,6], []⟩, ⟨.w, 0, [], [0,1,2,3,4,5,6,7], []⟩, ⟨.n, 0, [], [0,1,2,3,4,5,6,7,8], []⟩] 1 (by kernel_rfl) ?_
    simp only [ae,af,cM,hw,List.getElem?_map,hx,ag,ab,ah,Option.map_some,Dq,fp,dE,List.length_cons,List.length_nil,Nat.zero_add,List.length_map,go_sem,reduceIte,zA,zB,zC,zD,zE,zF,reduceCtorEq]
    refine cG (by have h := iJ x; simp only [ag,ab,ah] at h; exact h) ?_
    rintro _ rfl
    simp only [ae,af,cM,hw,List.getElem?_map,hx,ag,ab,ah,Option.map_some,Dq,fp,dE,List.length_cons,List.length_nil,Nat.zero_add,List.length_map,go_sem,reduceIte,zA,zB,zC,zD,zE,zF,reduceCtorEq]
    refine cG (by have h := iJ x; simp only [ag,ab,ah] at h; exact h) ?_
    rintro _ rfl
    simp only [ae,af,cM,hw,List.getElem?_map,hx,ag,ab,ah,Option.map_some,Dq,fp,dE,List.length_cons,List.length_nil,Nat.zero_add,List.length_map,go_sem,reduceIte,zA,zB,zC,zD,zE,zF,reduceCtorEq]
    refine mP _ ⟨nv, ?_, ?_, ba (by omega) (by (simp only [nv,hw,List.map_append,List.map_cons,List.map_nil,List.length_append,List.length_map,List.length_cons,List.length_nil,Nat.zero_add,aj,ua,ae,af,go_sem,reduceIte,zA,zB,zC,zD,zE,zF,reduceCtorEq]))⟩
    ·exact ⟨aB, Ik⟩
    ·dsimp only [nv]; omega
   ·have Ls : x.yk = true := by simpa using gq
    rw [if_pos Ls] at na
    let nv : Nat × List bG := (i + 1, L)
    have Ik : L = nX ((bS (aq l) p).take (i + 1)) := by rw [na, hL, List.append_nil]
    simp only [ae,af,cM,hw,List.getElem?_map,hx,ag,ab,ah,Option.map_some,List.length_map,go_sem,reduceIte,zA,zB,zC,zD,zE,zF,reduceCtorEq]
    refine mP _ ⟨nv, ?_, ?_, ba (by omega) (by (simp only [nv,hw,List.map_append,List.map_cons,List.map_nil,List.length_append,List.length_map,List.length_cons,List.length_nil,Nat.zero_add,aj,ua,ae,af,go_sem,reduceIte,zA,zB,zC,zD,zE,zF,reduceCtorEq]))⟩
    ·exact ⟨aB, Ik⟩
    ·dsimp only [nv]; omega
  ·have cB : ¬ i < (bS (aq l) p).length := by simpa using eW
   have rZ : i = (bS (aq l) p).length := by omega
   have Lz : L = nX (bS (aq l) p) := by rw [hL, rZ, List.take_length]
   have Bw : L.length ≤ 1048576 := by
    rw [Lz]; unfold nX
    rw [List.length_map]
    exact Nat.le_trans (List.length_filter_le _ _) (Nat.le_trans (List.length_filter_le _ _) (by have := eY l; omega))
   have tK : List.take L.length (L.map aj) = L.map aj := List.take_of_length_le (by simp)
   have Il : L.length ≤ (L.map aj).length := by simp
   have fk : some (.slice ((canon L).map aj)) = some (ak (canon (nX (bS (aq l) p)))) := by rw [Lz]; rfl
   simp only [ae,af,cM,tK,Il,List.length_map,go_sem,reduceIte,zA,zB,zC,zD,zE,zF,reduceCtorEq]
   refine cF (⟨_, rfl, by have h := o6 L (by omega); simp only [ak] at h; exact h⟩) ?_
   rintro _ rfl
   simp only [ae,af,cM,tK,Il,List.length_map,go_sem,reduceIte,zA,zB,zC,zD,zE,zF,reduceCtorEq]
   exact hK _ (Option.some.inj (fk))
end Go.Proofs.YtnfeacnbgbggfaaGreatDoor
end

section
namespace Go.Proofs.YtnfeacnbgbggfaaGreatDoor
open Go.Eng
open Nat renaming reduceAdd → zA, reduceLT → zB, reduceLeDiff → zC, reduceMul → zD, reduceEqDiff → zE, reduceSub → zF
variable [aG]
set_option maxHeartbeats 4000000
set_option maxRecDepth 100000
def hZ (s : List dD) : Bool := (List.range s.length).all fun i => match s[i]?, s[i + 1]? with | some a, some b => ke a.path b.path | _, _ => true
theorem l4 (s : List dD) : hZ s = true ↔ ∀ (i : Nat) (a b : dD), s[i]? = some a → s[i + 1]? = some b → ke a.path b.path = true := by
 unfold hZ
 rw [List.all_eq_true]
 constructor
 ·intro h i a b ha hb
  have h1 := h i (by rw [List.mem_range]; exact (List.getElem?_eq_some_iff.1 ha).1)
  rw [ha, hb] at h1
  exact h1
 ·intro h i hi
  split
  ·rename_i a b ha hb; exact h i a b ha hb
  ·rfl
def gv (l : List Rl) (s : List dD) : Option (List Rl) := s.mapM (rp l)
def mT (l : List Rl) (s : List dD) : V := if hZ s = true then (match gv l s with | some m => .bT [.slice (m.map ag), num 0] | none => .bT [.sc (.slice none 0 0), num 6]) else .bT [.sc (.slice none 0 0), num 1]
theorem vp {l : List Rl} {s : List dD} {i : Nat} {y : dD} {R : List Rl} {r : Rl} (h : gv l (s.take i) = some R) (hy : s[i]? = some y) (hf : rp l y = some r) : gv l (s.take (i + 1)) = some (R ++ [r]) := by
 unfold gv at h ⊢
 rw [List.take_add_one, hy, List.mapM_append, h]
 simp [hf]
theorem vq {l : List Rl} {s : List dD} {i : Nat} {y : dD} (hy : s[i]? = some y) (hf : rp l y = none) : gv l s = none := by
 unfold gv
 have hs : s = s.take i ++ y :: s.drop (i + 1) := by
  obtain ⟨h1, h2⟩ := List.getElem?_eq_some_iff.1 hy
  rw [← h2, List.getElem_cons_drop, List.take_append_drop]
 rw [hs, List.mapM_append]
 cases (s.take i).mapM (rp l) with
 | none => rfl
 | some R => simp [hf]
theorem l5 {l : List Rl} {s : List dD} {R : List Rl} (h : gv l s = some R) : R.length = s.length := by
 unfold gv at h
 induction s generalizing R with
 | nil => simp at h; subst h; rfl
 | cons a t ih =>
  rw [List.mapM_cons] at h
  cases h1 : rp l a with
  | none => rw [h1] at h; simp at h
  | some b =>
   rw [h1] at h
   cases h2 : t.mapM (rp l) with
   | none => rw [h2] at h; simp at h
   | some r' =>
    rw [h2] at h
    simp at h
    subst h
    rw [List.length_cons, List.length_cons, ih h2]
theorem zJ (l : List Rl) (s : List dD) (hs : s.length ≤ 1048576) : ∃ r_ m_, (fun r m => r = mT l s ∧ m = [.map (bL aM 0 (gK (aq l))) (gK (aq l)).length, .map (bL strVal 0 (gP (aq l))) (aO (aq l)).length]) r_ m_ ∧ aU Tryz.prog 51 [.agg [.mp 0, .mp 1], aZ s] ([.map (bL aM 0 (gK (aq l))) (gK (aq l)).length, .map (bL strVal 0 (gP (aq l))) (aO (aq l)).length]) r_ m_ := by
 refine FF tt_ok [15] 51 [.tmp 4, .tmp 5] (2) (by simp) (fn := Tryz.f51) Tryz.func51 rfl Tryz.call51 ⟨rfl, rfl, by simp⟩ fun K hK => ?_
 simp only [aZ]
 simp only [ae,af,List.length_map,dS,go_sem,reduceIte,zA,zB,zC,zD,zE,zF,reduceCtorEq]
 refine bA tt_ok [15] [6] 3 [1,2] (fun vs => ((s.length : Int) - Go.Eng.intOf (vs.headD .undef)).toNat) (fun vs => ∃ i : Nat, vs = [num ((i + 1 : Nat) : Int)] ∧ (i = 0 ∨ i + 1 ≤ s.length) ∧ ∀ j < i, ∀ a b : dD, s[j]? = some a → s[j + 1]? = some b → ke a.path b.path = true) (by omega) (by simp only [ae,af,List.length_map,dS,go_sem,reduceIte,zA,zB,zC,zD,zE,zF,reduceCtorEq]) (⟨0, rfl, .inl rfl, fun j hj => absurd hj (Nat.not_lt_zero j)⟩) fun vs hI Z1 bP => ?_
 obtain ⟨i, rfl, hi, aS⟩ := hI
 simp only [ae,af,List.length_map,dS,go_sem,reduceIte,zA,zB,zC,zD,zE,zF,reduceCtorEq]
 refine aL (fun gJ => ?_) (fun gJ => ?_)
 ·have aB : i + 1 < s.length := by have := of_decide_eq_true gJ; omega
  obtain ⟨x, hx⟩ : ∃ x, s[i]? = some x := ⟨_, List.getElem?_eq_getElem (by omega)⟩
  obtain ⟨y, hy⟩ : ∃ y, s[i + 1]? = some y := ⟨_, List.getElem?_eq_getElem aB⟩
  have hw := ax (i + 1) (by omega)
  have Py : IntKind.i64.wrap (((i + 1 : Nat) : Int) - 1) = (i : Int) := by rw [IntWalk.i64_in _ (by omega)]; omega
  simp only [ae,af,hw,Py,List.getElem?_map,hx,hy,Option.map_some,aI,List.length_map,dS,go_sem,reduceIte,zA,zB,zC,zD,zE,zF,reduceCtorEq]
  refine bu tt_ok aD [⟨.n, 0, [], [], []⟩, ⟨.n, 0, [], [], []⟩, ⟨.n, 0, [], [], []⟩, ⟨.r, 0, [], [], []⟩, ⟨.n, 0, [], [], []⟩, ⟨.r, 0, [], [], []⟩, ⟨.n, 0, [], [], []⟩, ⟨.n, 0, [], [], []⟩, ⟨.r, 0, [], [], []⟩, ⟨.n, 0, [], [], []⟩, ⟨.r, 0, [], [], []⟩, ⟨.n, 0, [], [], []⟩] 0 (by kernel_rfl) ?_
  simp only [ae,af,hw,Py,List.getElem?_map,hx,hy,Option.map_some,aI,List.length_map,dS,go_sem,reduceIte,zA,zB,zC,zD,zE,zF,reduceCtorEq]
  refine aL (fun uw => ?_) (fun uw => ?_)
  ·have TE : ¬ hZ s = true := fun h => by
    have h1 := (l4 s).1 h i x y hx hy
    unfold ke at h1
    rw [h1] at uw; cases uw
   have hV : mT l s = .bT [.sc (.slice none 0 0), num 1] := by unfold mT; rw [if_neg TE]
   simp only [ae,af,hw,Py,List.getElem?_map,hx,hy,Option.map_some,aI,List.length_map,dS,go_sem,reduceIte,zA,zB,zC,zD,zE,zF,reduceCtorEq]
   exact hK _ _ ⟨hV.symm, rfl⟩
  ·simp only [ae,af,hw,Py,List.getElem?_map,hx,hy,Option.map_some,aI,List.length_map,dS,go_sem,reduceIte,zA,zB,zC,zD,zE,zF,reduceCtorEq]
   refine bP _ (cA (by omega) (by simp only [ae,af,hw,Py,List.getElem?_map,hx,hy,Option.map_some,aI,List.length_map,dS,go_sem,reduceIte,zA,zB,zC,zD,zE,zF,reduceCtorEq]) ?_ ?_) <;> simp only [fa,lk,reduceIte,zE]
   ·refine ⟨i + 1, rfl, .inr (by omega), fun j hj a b ha hb => ?_⟩
    rcases Nat.lt_or_ge j i with h | h
    ·exact aS j h a b ha hb
    ·obtain rfl : j = i := by omega
     rw [hx] at ha; rw [hy] at hb; cases ha; cases hb
     unfold ke; simpa using uw
   ·simp only [Go.Eng.intOf,List.headD_cons]; omega
 ·have cB : ¬ i + 1 < s.length := by have := of_decide_eq_false gJ; omega
  have Im : hZ s = true := (l4 s).2 fun j a b ha hb => aS j (by have := (List.getElem?_eq_some_iff.1 hb).1; omega) a b ha hb
  simp only [ae,af,List.length_map,dS,go_sem,reduceIte,zA,zB,zC,zD,zE,zF,reduceCtorEq]
  refine yK 7 0 9 (by decide) rfl ?_
  refine ct tt_ok [15] (fun b : Nat × List Rl => [(2, .ptr 2 0), (7, .ms 3 b.1 0 b.1), (30, .slice (s.map aI)), (31, num s.length), (32, num b.1)]) (fun b : Nat × List Rl => [.map (bL aM 0 (gK (aq l))) (gK (aq l)).length, .map (bL strVal 0 (gP (aq l))) (aO (aq l)).length, .box [.mp 0, .mp 1], .rows b.1 9 (b.2.map ag)]) (fun b => s.length - b.1) (fun b => b.1 ≤ s.length ∧ gv l (s.take b.1) = some b.2 ∧ b.2.length = b.1) ((0, [])) 4 (ba (by omega) (by simp only [ae,af,List.length_map,dS,List.map_nil,Int.cast_ofNat_Int,go_sem,reduceIte,zA,zB,zC,zD,zE,zF,reduceCtorEq] <;> rfl)) (⟨Nat.zero_le _, rfl, rfl⟩) ?_
  rintro ⟨i, R⟩ ⟨hi, hR, E8⟩
  try dsimp only at hi hR E8 ⊢
  intro Z2 mP
  simp only [ae,af,List.length_map,dS,go_sem,reduceIte,zA,zB,zC,zD,zE,zF,reduceCtorEq]
  refine aL (fun zf => ?_) (fun zf => ?_)
  ·have aB : i < s.length := by simpa using zf
   have hw := ax i (by omega)
   obtain ⟨x, hx⟩ : ∃ x, s[i]? = some x := ⟨_, List.getElem?_eq_getElem aB⟩
   have fp : ∀ q : Rl, ca [V.agg [str q.path, num q.aC.mj, num q.aC.mn, num q.aC.pt, V.slice (q.reqs.map al), str q.ar, str q.gg, str q.ce, bl q.yk]] 0 9 = true := fun q => rfl
   have dE : i + 1 ≤ 34359738368 := by omega
   have Yi : (R.map ag).length = i := by rw [List.length_map, E8]
   rcases hf : rp l x with _ | r
   ·have cM := fun (mem : List ay) (b : Nat) hm => H5 hf (mem := mem) (b := b) hm
    simp only [mR] at cM
    have hV : mT l s = .bT [.sc (.slice none 0 0), num 6] := by unfold mT; rw [if_pos Im, vq hx hf]
    simp only [ae,af,hw,List.getElem?_map,hx,Option.map_some,aI,fp,dE,Yi,List.length_append,List.length_cons,List.length_nil,Nat.zero_add,cM,List.length_map,dS,go_sem,reduceIte,zA,zB,zC,zD,zE,zF,reduceCtorEq]
    exact hK _ _ ⟨hV.symm, rfl⟩
   ·have cM := fun (mem : List ay) (b : Nat) hm => Ll hf (mem := mem) (b := b) hm
    simp only [mR,ag,ab,ah] at cM
    simp only [ae,af,hw,List.getElem?_map,hx,Option.map_some,aI,fp,dE,Yi,List.length_append,List.length_cons,List.length_nil,Nat.zero_add,cM,ag,ab,ah,List.length_map,dS,go_sem,reduceIte,zA,zB,zC,zD,zE,zF,reduceCtorEq]
    refine mP _ ⟨(i + 1, R ++ [r]), ?_, ?_, ba (by omega) (by (simp only [hw,List.map_append,List.map_cons,List.map_nil,ag,ab,ah,ae,af,go_sem,reduceIte,zA,zB,zC,zD,zE,zF,reduceCtorEq]))⟩
    ·exact ⟨aB, vp hR hx hf, by dsimp only; rw [List.length_append, E8]; rfl⟩
    ·dsimp only; omega
  ·have K9 : ¬ i < s.length := by simpa using zf
   have rZ : i = s.length := by omega
   subst rZ
   rw [List.take_length] at hR
   have hV : mT l s = .bT [.slice (R.map ag), num 0] := by unfold mT; rw [if_pos Im, hR]
   simp only [ae,af,List.length_map,dS,go_sem,reduceIte,zA,zB,zC,zD,zE,zF,reduceCtorEq]
   refine rl (v' := .slice (R.map ag)) 7 (by decide) rfl (by simp [lk, eA, bD, E8, List.take_of_length_le]) ?_
   refine Uu tt_ok [15] ?_
   simp only [ae,af,List.length_map,dS,go_sem,reduceIte,zA,zB,zC,zD,zE,zF,reduceCtorEq]
   exact hK _ _ ⟨hV.symm, rfl⟩
end Go.Proofs.YtnfeacnbgbggfaaGreatDoor
end

section
namespace Go.Proofs.YtnfeacnbgbggfaaGreatDoor
open Go.Eng
open Nat renaming reduceAdd → zA, reduceLT → zB, reduceLeDiff → zC, reduceMul → zD, reduceEqDiff → zE, reduceSub → zF
variable [aG]
set_option maxHeartbeats 4000000
set_option maxRecDepth 100000
def Dr (m : List Rl) (p : ByteArray) : Option Rl := m.find? fun r => decide (r.path = p)
def gB (m : List Rl) : List (ByteArray × V) := m.map fun r => (r.path, ag r)
theorem rQ (p : ByteArray) : ∀ m : List Rl, getM p (gB m) = (Dr m p).map ag
 | [] => rfl
 | r :: t => by
  show (if r.path = p then some (ag r) else getM p (gB t)) = _
  unfold Dr
  rw [List.find?_cons]
  by_cases h : r.path = p
  ·simp [h]
  ·have := rQ p t
   unfold Dr at this
   simp [h, this]
theorem aE (n : Nat) (m : List Rl) : ((bL strVal 0 (gB m)).all fun e => ai n e.2.2) = true := by
 rw [kM strVal (ai n)]
 unfold gB
 simp [lX]
theorem Ds (σ : Nat → Nat) (m : List Rl) (c : Nat) : cu σ (.map (bL strVal 0 (gB m)) c) = .map (bL strVal 0 (gB m)) c := by
 rw [o9]
 congr 2
 unfold gB
 rw [List.map_map]
 exact List.map_congr_left fun r _ => by simp [Dh]
theorem Io {m : List Rl} {p : ByteArray} (h : Dr m p = none) {mem : List ay} {b : Nat} (hm : mem[b]? = some (.map (bL strVal 0 (gB m)) (gB m).length)) :
  di Tryz.prog mem 92 (.mp b) (str p) true = some (.bT [.agg [str ⟨#[]⟩, num 0, num 0, num 0, .sc (.slice none 0 0), str ⟨#[]⟩, str ⟨#[]⟩, str ⟨#[]⟩, bl false], bl false]) := by
 rw [Lf.get p (gB m) hm tx, rQ, h]; rfl
theorem Ip {m : List Rl} {p : ByteArray} {r : Rl} (h : Dr m p = some r) {mem : List ay} {b : Nat} (hm : mem[b]? = some (.map (bL strVal 0 (gB m)) (gB m).length)) :
  di Tryz.prog mem 92 (.mp b) (str p) true = some (.bT [ag r, bl true]) := by
 rw [Lf.get p (gB m) hm tx, rQ, h]; rfl
theorem LA {m : List Rl} {p : ByteArray} {r : Rl} (h : Dr m p = some r) {mem : List ay} {b : Nat} (hm : mem[b]? = some (.map (bL strVal 0 (gB m)) (gB m).length)) :
  di Tryz.prog mem 92 (.mp b) (str p) false = some (ag r) := by
 rw [Lf.get p (gB m) hm tx, rQ, h]; rfl
def brk (m : List Rl) (q : Rq) : Bool := match Dr m q.path with | none => true | some r => !has q.set r.aC.pl
def σ2 (k k2 n j : Nat) : Nat := if j = 0 then k else if j = 1 then k2 else n + (j - 2)
theorem tL {P : Program} {f : FuncId} {vs : List V} {r : V} {B0 B1 rj : ay} (h : aU P f vs [B0, B1] r [rj, B1]) (M : List ay) (k k2 : Nat) (hv : vs.all (ai 2) = true) (hm : [B0, B1].all (aA 2) = true) (hr : ai 2 r = true) (Gu : [rj, B1].all (aA 2) = true)
  (hk : M[k]? = some (cu (σ2 k k2 M.length) B0)) (jA : M[k2]? = some (cu (σ2 k k2 M.length) B1)) (bO : k ≠ k2) :
  aU P f (cg (σ2 k k2 M.length) vs) M (bw (σ2 k k2 M.length) r) (M.set k (cu (σ2 k k2 M.length) rj)) := by
 have h3 := h.yI M (σ2 k k2 M.length) 2 rfl hv hm hr Gu (by simp) (fun i B hi => by
  match i with
  | 0 => simp at hi; subst hi; exact hk
  | 1 => simp at hi; subst hi; exact jA
  | i + 2 => simp at hi) (fun i j hi hj he => by
  match i, j with
  | 0, 0 => rfl
  | 1, 1 => rfl
  | 0, 1 => exact absurd (by simpa [σ2] using he) bO
  | 1, 0 => exact absurd (by simpa [σ2] using he.symm) bO
  | i + 2, _ => omega
  | _, j + 2 => omega) (fun j hj => by unfold σ2; rw [if_neg (by omega), if_neg (by omega)])
 have hM : mM (σ2 k k2 M.length) 2 [rj, B1] M = M.set k (cu (σ2 k k2 M.length) rj) := by
  unfold mM
  simp only [Ev,List.map_nil,List.append_nil,gf]
  show (M.set k (cu _ rj)).set k2 (cu _ B1) = _
  exact eU (by rw [List.getElem?_set_ne bO]; exact jA)
 rwa [hM] at h3
theorem Iq (m : List Rl) (q : Rq) (hq : qS q) : ∃ r_, (fun w => w = bl (brk m q)) r_ ∧ aU Tryz.prog 52 [al q, .ptr 1 0] ([.map (bL strVal 0 (gB m)) (gB m).length, .box [.mp 0]]) r_ ([.map (bL strVal 0 (gB m)) (gB m).length, .box [.mp 0]]) := by
 refine FG tt_ok [] 23 [.tmp 3] (fn := Tryz.f52) Tryz.func52 rfl Tryz.call52 ⟨rfl, rfl, by simp⟩ fun K hK => ?_
 simp only [al,ak]
 obtain ⟨xx, Fz⟩ := hq
 rcases hf : Dr m q.path with _ | r
 ·have cM := fun (mem : List ay) (b : Nat) hm => Io hf (mem := mem) (b := b) hm
  have hR : true = brk m q := by unfold brk; rw [hf]
  simp only [aE,cM,go_sem,reduceIte,zA,zB,zC,zD,zE,zF,reduceCtorEq]
  refine bu tt_ok aD [⟨.n, 0, [], [], []⟩, ⟨.n, 0, [], [], []⟩, ⟨.n, 0, [], [], []⟩, ⟨.n, 0, [], [], []⟩, ⟨.r, 0, [], [], []⟩, ⟨.r, 0, [], [], []⟩, ⟨.n, 0, [], [], []⟩, ⟨.n, 0, [], [], []⟩, ⟨.n, 0, [], [], []⟩, ⟨.n, 0, [], [], []⟩, ⟨.n, 0, [], [], []⟩] 0 (by kernel_rfl) ?_
  simp only [aE,cM,go_sem,reduceIte,zA,zB,zC,zD,zE,zF,reduceCtorEq]
  exact hK _ _ ⟨congrArg bl hR, rfl⟩
 ·have cM := fun (mem : List ay) (b : Nat) hm => Ip hf (mem := mem) (b := b) hm
  simp only [ag,ab,ah] at cM
  have hR : (!has q.set r.aC.pl) = brk m q := by unfold brk; rw [hf]
  simp only [aE,cM,go_sem,reduceIte,zA,zB,zC,zD,zE,zF,reduceCtorEq]
  refine bu tt_ok aD [⟨.n, 0, [], [], []⟩, ⟨.n, 0, [], [], []⟩, ⟨.n, 0, [], [], []⟩, ⟨.n, 0, [], [], []⟩, ⟨.r, 0, [], [], []⟩, ⟨.r, 0, [], [], []⟩, ⟨.n, 0, [], [], []⟩, ⟨.n, 0, [], [], []⟩, ⟨.n, 0, [], [], []⟩, ⟨.n, 0, [], [], []⟩, ⟨.n, 0, [], [], []⟩] 0 (by kernel_rfl) ?_
  simp only [aE,cM,go_sem,reduceIte,zA,zB,zC,zD,zE,zF,reduceCtorEq]
  refine cG (by have h := iJ r; simp only [ag,ab,ah] at h; exact h) ?_
  rintro _ rfl
  simp only [aE,cM,go_sem,reduceIte,zA,zB,zC,zD,zE,zF,reduceCtorEq]
  refine cG (by have h := Bl q.set r.aC.pl Fz; simp only [ak] at h; exact h) ?_
  rintro _ rfl
  simp only [aE,cM,go_sem,reduceIte,zA,zB,zC,zD,zE,zF,reduceCtorEq]
  exact hK _ _ ⟨congrArg bl hR, rfl⟩
theorem LB (m : List Rl) (l : List Rq) (hl : l.length ≤ 2097152) (w6 : ∀ q ∈ l, qS q) : ∃ r_, (fun w => ∃ k : Int, w = num k ∧ decide (0 ≤ k) = l.any (brk m)) r_ ∧ aU Tryz.prog 79 [ah l, .fS (.func 52) [] [.ptr 1 0]] ([.map (bL strVal 0 (gB m)) (gB m).length, .box [.mp 0]]) r_ ([.map (bL strVal 0 (gB m)) (gB m).length, .box [.mp 0]]) := by
 refine FG tt_ok [] 19 [.tmp 4] (fn := Tryz.f79) Tryz.func79 rfl Tryz.call79 ⟨rfl, rfl, by simp⟩ fun K hK => ?_
 simp only [ah]
 simp only [aE,List.length_map,go_sem,reduceIte,zA,zB,zC,zD,zE,zF,reduceCtorEq]
 refine bA tt_ok [] [8] 2 [0,1,7] (fun vs => ((l.length : Int) - Go.Eng.intOf (vs.headD .undef)).toNat) (fun vs => ∃ i : Nat, vs = [num i] ∧ i ≤ l.length ∧ ∀ j < i, ∀ x, l[j]? = some x → (brk m) x = false) (by omega) (by simp only [aE,List.length_map,go_sem,reduceIte,zA,zB,zC,zD,zE,zF,reduceCtorEq]) (⟨0, rfl, Nat.zero_le _, fun j hj => absurd hj (Nat.not_lt_zero j)⟩) fun vs hI Z1 bP => ?_
 obtain ⟨i, rfl, hi, aS⟩ := hI
 simp only [aE,List.length_map,go_sem,reduceIte,zA,zB,zC,zD,zE,zF,reduceCtorEq]
 refine aL (fun gi => ?_) (fun gi => ?_)
 ·have aB : i < l.length := by simpa using gi
  have hw := ax i (by omega)
  obtain ⟨x, hx⟩ : ∃ x, l[i]? = some x := ⟨_, List.getElem?_eq_getElem aB⟩
  have Jp := w6 x (List.mem_of_getElem? hx)
  simp only [aE,hw,List.getElem?_map,hx,al,ak,List.length_map,go_sem,reduceIte,zA,zB,zC,zD,zE,zF,reduceCtorEq]
  refine cS (by have h := Iq m x Jp; simp only [al,ak] at h; exact h) ?_
  rintro _ rfl
  simp only [aE,hw,List.getElem?_map,hx,al,ak,List.length_map,go_sem,reduceIte,zA,zB,zC,zD,zE,zF,reduceCtorEq]
  refine aL (fun kF => ?_) (fun kF => ?_)
  ·have aw : decide (0 ≤ (i : Int)) = l.any (brk m) := by rw [wN hx kF]; exact decide_eq_true (Int.natCast_nonneg i)
   simp only [aE,hw,List.getElem?_map,hx,al,ak,List.length_map,go_sem,reduceIte,zA,zB,zC,zD,zE,zF,reduceCtorEq]
   exact hK _ _ ⟨⟨_, rfl, aw⟩, rfl⟩
  ·simp only [aE,hw,List.getElem?_map,hx,al,ak,List.length_map,go_sem,reduceIte,zA,zB,zC,zD,zE,zF,reduceCtorEq]
   refine bP _ (cA (by omega) (by simp only [aE,hw,List.getElem?_map,hx,al,ak,List.length_map,go_sem,reduceIte,zA,zB,zC,zD,zE,zF,reduceCtorEq]) ?_ ?_) <;> simp only [fa,lk,reduceIte,zE]
   ·refine ⟨i + 1, rfl, aB, fun j hj => ?_⟩
    rcases Nat.lt_or_ge j i with h | h
    ·exact aS j h
    ·obtain rfl : j = i := by omega
     intro y hy
     rw [hx] at hy; cases hy; exact kF
   ·simp only [Go.Eng.intOf,List.headD_cons]; omega
 ·have cB : ¬ i < l.length := by simpa using gi
  have aw : decide (0 ≤ (-1 : Int)) = l.any (brk m) := (any_none fun j hj => aS j (by omega)).symm ▸ rfl
  simp only [aE,List.length_map,go_sem,reduceIte,zA,zB,zC,zD,zE,zF,reduceCtorEq]
  exact hK _ _ ⟨⟨_, rfl, aw⟩, rfl⟩
theorem LC (m : List Rl) (l : List Rq) (hl : l.length ≤ 2097152) (w6 : ∀ q ∈ l, qS q) : ∃ r_, (fun w => w = bl (l.any (brk m))) r_ ∧ aU Tryz.prog 26 [ah l, .fS (.func 52) [] [.ptr 1 0]] ([.map (bL strVal 0 (gB m)) (gB m).length, .box [.mp 0]]) r_ ([.map (bL strVal 0 (gB m)) (gB m).length, .box [.mp 0]]) := by
 refine FG tt_ok [] 9 [.tmp 4] (fn := Tryz.f26) Tryz.func26 rfl Tryz.call26 ⟨rfl, rfl, by simp⟩ fun K hK => ?_
 simp only [ah]
 simp only [aE,go_sem,reduceIte,zA,zB,zC,zD,zE,zF,reduceCtorEq]
 refine cS (by have h := LB m l hl w6; simp only [ah] at h; exact h) ?_
 rintro _ ⟨k, rfl, hk⟩
 simp only [aE,go_sem,reduceIte,zA,zB,zC,zD,zE,zF,reduceCtorEq]
 exact hK _ _ ⟨congrArg bl hk, rfl⟩
theorem zK (m : List Rl) (l : List Rq) (hl : l.length ≤ 2097152) (w6 : ∀ q ∈ l, qS q) (M : List ay) (k k2 : Nat) (hk : M[k]? = some (.map (bL strVal 0 (gB m)) (gB m).length)) (jA : M[k2]? = some (.box [.mp k])) (bO : k ≠ k2) :
  ∃ r_, (fun w => w = bl (l.any (brk m))) r_ ∧ aU Tryz.prog 26 [.slice (l.map al), .fS (.func 52) [] [.ptr k2 0]] M r_ M := by
 obtain ⟨r, rfl, h⟩ := LC m l hl w6
 have h3 := tL h M k k2 (by simp [ah, ai, dp]) (by simp [pQ, wA, aE, ai]) (by simp [ai]) (by simp [pQ, wA, aE, ai]) (by rw [Ds]; exact hk) (by simpa [cu, cg, bw, σ2] using jA) bO
 rw [Ds, eU hk] at h3
 exact ⟨_, rfl, by simpa [cg, bw, σ2, ah] using h3⟩
end Go.Proofs.YtnfeacnbgbggfaaGreatDoor
end

section
namespace Go.Proofs.YtnfeacnbgbggfaaGreatDoor
open Go.Eng
open Nat renaming reduceAdd → zA, reduceLT → zB, reduceLeDiff → zC, reduceMul → zD, reduceEqDiff → zE, reduceSub → zF
variable [aG]
set_option maxHeartbeats 4000000
set_option maxRecDepth 100000
noncomputable def bJ (l : List Rl) (roots : List Rq) (s : List dD) : Int :=
 if dK l ≠ 0 then 1 else if hZ s = true then (match gv l s with
  | none => 6
  | some m => if (m.any fun r => r.reqs.any (brk m)) = true ∨ roots.any (brk m) = true then 17 else if (bX m roots).length < m.length then 8 else 0) else 1
theorem LD {s : List dD} (h : hZ s = true) : s.Pairwise fun a b => a.path.data.toList < b.path.data.toList := by
 have h1 := (l4 s).1 h
 clear h
 induction s with
 | nil => exact List.Pairwise.nil
 | cons a t ih =>
  have ht := ih fun i x y hx hy => h1 (i + 1) x y (by simpa using hx) (by simpa using hy)
  refine List.pairwise_cons.2 ⟨?_, ht⟩
  cases t with
  | nil => intro b hb; simp at hb
  | cons b t =>
   have h2 : a.path.data.toList < b.path.data.toList := by
    have h3 := h1 0 a b rfl rfl
    rw [nH] at h3
    exact of_decide_eq_true h3
   intro c hc
   rcases List.mem_cons.1 hc with rfl | hc
   ·exact h2
   ·exact List.lt_trans h2 ((List.pairwise_cons.1 ht).1 c hc)
theorem Ir {l : List Rl} {y : dD} {r : Rl} (h : rp l y = some r) : r ∈ aq l ∧ r.key = y := by
 unfold rp at h
 exact ⟨List.mem_of_find?_eq_some h, by simpa using List.find?_some h⟩
theorem ik {l : List Rl} : ∀ {s : List dD} {m : List Rl}, gv l s = some m → m.map Rl.key = s ∧ ∀ r ∈ m, r ∈ aq l
 | [], m, h => by unfold gv at h; simp at h; subst h; simp
 | y :: t, m, h => by
  unfold gv at h
  rw [List.mapM_cons] at h
  cases h1 : rp l y with
  | none => rw [h1] at h; simp at h
  | some r =>
   rw [h1] at h
   cases h2 : t.mapM (rp l) with
   | none => rw [h2] at h; simp at h
   | some m' =>
    rw [h2] at h
    simp at h
    subst h
    obtain ⟨e1, e2⟩ := ik (s := t) h2
    obtain ⟨e3, e4⟩ := Ir h1
    refine ⟨by rw [List.map_cons, e1, e4], fun x hx => ?_⟩
    rcases List.mem_cons.1 hx with rfl | hx
    ·exact e3
    ·exact e2 x hx
theorem nY {l : List Rl} {s : List dD} {m : List Rl} (h : gv l s = some m) (hi : hZ s = true) : m.Pairwise fun a b => a.path.data.toList < b.path.data.toList := by
 have h1 := LD hi
 rw [← (ik h).1, List.pairwise_map] at h1
 exact h1
theorem Is {a b : ByteArray} (h : a.data.toList < b.data.toList) : a ≠ b := fun e => by subst e; exact List.lt_irrefl _ h
theorem tM {m : List Rl} (h : m.Pairwise fun a b => a.path.data.toList < b.path.data.toList) : ∀ a ∈ m, ∀ b ∈ m, a.path = b.path → a = b := by
 intro a ha b hb he
 obtain ⟨i, hi⟩ := List.mem_iff_getElem?.1 ha
 obtain ⟨j, hj⟩ := List.mem_iff_getElem?.1 hb
 rcases Nat.lt_trichotomy i j with sb | sb | sb
 ·exact absurd he (Is (List.pairwise_iff_getElem.1 h i j (List.getElem?_eq_some_iff.1 hi).1 (List.getElem?_eq_some_iff.1 hj).1 sb |> fun h => by rwa [(List.getElem?_eq_some_iff.1 hi).2, (List.getElem?_eq_some_iff.1 hj).2] at h))
 ·subst sb; rw [hi] at hj; cases hj; rfl
 ·exact absurd he.symm (Is (List.pairwise_iff_getElem.1 h j i (List.getElem?_eq_some_iff.1 hj).1 (List.getElem?_eq_some_iff.1 hi).1 sb |> fun h => by rwa [(List.getElem?_eq_some_iff.1 hj).2, (List.getElem?_eq_some_iff.1 hi).2] at h))
theorem PZ {m : List Rl} (h : ∀ a ∈ m, ∀ b ∈ m, a.path = b.path → a = b) {r : Rl} (hr : r ∈ m) : Dr m r.path = some r := by
 unfold Dr
 cases hf : m.find? fun x => decide (x.path = r.path) with
 | none => exact absurd (List.find?_eq_none.1 hf r hr) (by simp)
 | some x =>
  have h1 := List.mem_of_find?_eq_some hf
  have h2 : x.path = r.path := by simpa using List.find?_some hf
  rw [h x h1 r hr h2]
theorem tN {m : List Rl} {p : ByteArray} {r : Rl} (h : Dr m p = some r) : r ∈ m ∧ r.path = p := ⟨List.mem_of_find?_eq_some h, by simpa using List.find?_some h⟩
theorem P0 {m : List Rl} {r : Rl} (h : ∀ x ∈ m, x.path ≠ r.path) : k9 r.path (ag r) (gB m) = gB (m ++ [r]) := by
 have : dF r.path (gB m) 0 = none := by
  have key : ∀ (m : List Rl) (n : Nat), (∀ x ∈ m, x.path ≠ r.path) → dF r.path (gB m) n = none := by
   intro m
   induction m with
   | nil => intro n _; rfl
   | cons a t ih =>
    intro n h
    show (if a.path = r.path then _ else dF r.path (gB t) (n + 1)) = none
    rw [if_neg (h a (by simp))]
    exact ih _ fun x hx => h x (by simp [hx])
  exact key m 0 h
 unfold k9
 rw [this]
 simp [gB]
theorem LF {m : List Rl} {r : Rl} (h : ∀ x ∈ m, x.path ≠ r.path) {mem : List ay} {b : Nat} (hm : mem[b]? = some (.map (bL strVal 0 (gB m)) (gB m).length)) :
  cp Tryz.prog mem 92 (.mp b) (str r.path) (ag r) = some (mem.set b (.map (bL strVal 0 (gB (m ++ [r]))) (gB (m ++ [r])).length)) := by
 rw [Lf.put r.path (ag r) (gB m) hm, P0 h]
def gN (S : List Rl) : List (ByteArray × V) := S.map fun r => (r.path, bl true)
def pc (S : List Rl) (p : ByteArray) : Bool := S.any fun r => decide (r.path = p)
theorem aV (n : Nat) (S : List Rl) : ((bL strVal 0 (gN S)).all fun e => ai n e.2.2) = true := by
 rw [kM strVal (ai n)]
 unfold gN
 simp [ai]
theorem Dt (p : ByteArray) : ∀ S : List Rl, (getM p (gN S)).getD (bl false) = bl (pc S p)
 | [] => rfl
 | r :: t => by
  show (if r.path = p then some (bl true) else getM p (gN t)).getD _ = _
  unfold pc
  rw [List.any_cons]
  by_cases h : r.path = p
  ·simp [h]
  ·have := Dt p t
   unfold pc at this
   simp [h, this]
theorem It (S : List Rl) (p : ByteArray) {mem : List ay} {b : Nat} (hm : mem[b]? = some (.map (bL strVal 0 (gN S)) (gN S).length)) : di Tryz.prog mem 93 (.mp b) (str p) false = some (bl (pc S p)) := by
 rw [Ty.get p (gN S) hm MX, Dt]; rfl
theorem P3 {S : List Rl} {r : Rl} (h : ∀ x ∈ S, x.path ≠ r.path) : k9 r.path (bl true) (gN S) = gN (S ++ [r]) := by
 have : dF r.path (gN S) 0 = none := by
  have key : ∀ (m : List Rl) (n : Nat), (∀ x ∈ m, x.path ≠ r.path) → dF r.path (gN m) n = none := by
   intro m
   induction m with
   | nil => intro n _; rfl
   | cons a t ih =>
    intro n h
    show (if a.path = r.path then _ else dF r.path (gN t) (n + 1)) = none
    rw [if_neg (h a (by simp))]
    exact ih _ fun x hx => h x (by simp [hx])
  exact key S 0 h
 unfold k9
 rw [this]
 simp [gN]
theorem Iu {S : List Rl} {r : Rl} (h : ∀ x ∈ S, x.path ≠ r.path) {mem : List ay} {b : Nat} (hm : mem[b]? = some (.map (bL strVal 0 (gN S)) (gN S).length)) :
  cp Tryz.prog mem 93 (.mp b) (str r.path) (bl true) = some (mem.set b (.map (bL strVal 0 (gN (S ++ [r]))) (gN (S ++ [r])).length)) := by
 rw [Ty.put r.path (bl true) (gN S) hm, P3 h]
theorem P4 {m : List Rl} {q : Rq} (hg : ∀ r ∈ m, r.aC.ok = true) (h : brk m q = false) : ∃ r, Dr m q.path = some r ∧ r ∈ m ∧ ek q r = true := by
 unfold brk at h
 cases hb : Dr m q.path with
 | none => rw [hb] at h; cases h
 | some r =>
  rw [hb] at h
  obtain ⟨h1, h2⟩ := tN hb
  refine ⟨r, rfl, h1, ?_⟩
  have Ab : r.aC.pl = r.aC.place := by unfold dr.pl; rw [if_pos (hg r h1)]
  unfold ek
  have h3 : (!has q.set r.aC.pl) = false := h
  rw [Ab] at h3
  simp only [Bool.not_eq_false'] at h3
  simp [h2, h3]
theorem MZ (a b c d e f g h i : V) : oj Tryz.prog tt 40 2 (.agg [a, b, c, d, e, f, g, h, i]) = some e := by
 simp [oj, Tryz.underlying40, dy, Sd]
theorem LG {S : List Rl} : ((bL strVal 0 (gN S)).length : Int) = S.length := by rw [tr]; simp [gN]
theorem LH {α : Type} [DecidableEq α] {S T : List α} (hS : S.Nodup) (hT : T.Nodup) (h : ∀ x, x ∈ S ↔ x ∈ T) : S.length = T.length :=
 ((List.perm_ext_iff_of_nodup hS hT).2 h).length_eq
theorem LI (l : List Rl) (s : List dD) : (∃ e : Int, mT l s = .bT [.sc (.slice none 0 0), num e] ∧ e ≠ 0 ∧ (dK l = 0 → ∀ roots, bJ l roots s = e)) ∨ (∃ m, gv l s = some m ∧ hZ s = true ∧ mT l s = .bT [.slice (m.map ag), num 0]) := by
 unfold mT bJ
 by_cases hi : hZ s = true
 ·rw [if_pos hi]
  cases hm : gv l s with
  | none => exact .inl ⟨6, rfl, by decide, fun hx roots => by rw [if_neg (by simp [hx]), if_pos hi]⟩
  | some m => exact .inr ⟨m, rfl, hi, rfl⟩
 ·rw [if_neg hi]
  exact .inl ⟨1, rfl, by decide, fun hx roots => by rw [if_neg (by simp [hx]), if_neg hi]⟩
theorem Iv (l : List Rl) (s : List dD) (hs : s.length ≤ 1048576) (M : List ay) (k k2 : Nat) (hk : M[k]? = some (.map (bL aM 0 (gK (aq l))) (gK (aq l)).length)) (jA : M[k2]? = some (.map (bL strVal 0 (gP (aq l))) (aO (aq l)).length)) (bO : k ≠ k2) :
  ∃ r_ m_, (fun r m => r = mT l s ∧ m = M) r_ m_ ∧ aU Tryz.prog 51 [.agg [.mp k, .mp k2], aZ s] M r_ m_ := by
 obtain ⟨r, m, ⟨rfl, rfl⟩, h⟩ := zJ l s hs
 have NW : ai 2 (mT l s) = true := by
  unfold mT
  split
  ·split <;> simp [ai, dp]
  ·simp [ai, dp]
 have Z7 : ∀ σ, bw σ (mT l s) = mT l s := fun σ => by
  unfold mT
  split
  ·split <;> simp [bw, cg]
  ·simp [bw, cg]
 have h3 := tL h M k k2 (by simp [aZ, ai, dp]) (by simp [pQ, ae, af]) NW (by simp [pQ, ae, af]) (by rw [rN]; exact hk) (by rw [Di]; exact jA) bO
 rw [rN, eU hk, Z7] at h3
 exact ⟨_, _, ⟨rfl, rfl⟩, by simpa [cg, bw, σ2, aZ] using h3⟩
theorem qj (hG : aG.g = some 0) (l : List Rl) (I : List V) (hb : tY l) (roots : List Rq) (hr : roots.length ≤ 1048576) (E7 : ∀ q ∈ roots, qS q) (s : List dD) (hs : s.length ≤ 1048576) : aP Tryz.prog 15 [bm l I, ah roots, aZ s] (num (bJ l roots s)) := by
 refine QN tt_ok [] 93 [.tmp 6] (fn := Tryz.f15) Tryz.func15 rfl Tryz.call15 ⟨rfl, rfl, by simp⟩ fun K hK => ?_
 simp only [bm,aY,ah,aZ]
 have w6 := hb.1
 simp only [ae,af,aE,aV,List.length_map,go_sem,reduceIte,zA,zB,zC,zD,zE,zF,reduceCtorEq]
 refine cW (by have h := jj hG l I hb; simp only [bm,aY] at h; exact h _) ?_
 rintro _ _ ⟨rfl, rfl⟩
 simp only [Ev,Q3,List.length_cons,List.length_nil,zA]
 simp only [ae,af,aE,aV,List.length_map,go_sem,reduceIte,zA,zB,zC,zD,zE,zF,reduceCtorEq]
 refine aL (fun fu => ?_) (fun fu => ?_)
 ·have c6 : dK l ≠ 0 := by simpa using fu
  have hR : (1 : Int) = bJ l roots s := by unfold bJ; rw [if_pos c6]
  simp only [ae,af,aE,aV,List.length_map,go_sem,reduceIte,zA,zB,zC,zD,zE,zF,reduceCtorEq]
  exact hK _ (Option.some.inj (congrArg (fun x => some (num x)) hR))
 ·have c6 : dK l = 0 := by simpa using fu
  have hgl : aq l = l := by unfold aq; rw [if_pos c6]
  rcases LI l s with ⟨e, lb, Ji, W7⟩ | ⟨m, C7, Im, lb⟩
  ·simp only [ae,af,aE,aV,List.length_map,go_sem,reduceIte,zA,zB,zC,zD,zE,zF,reduceCtorEq]
   refine cW (by have h := Iv l s hs; simp only [aZ] at h; exact h _ 3 4 rfl rfl (by decide)) ?_
   rintro _ _ ⟨rfl, rfl⟩
   rw [lb]
   simp only [ae,af,aE,aV,List.length_map,go_sem,reduceIte,zA,zB,zC,zD,zE,zF,reduceCtorEq]
   refine aL (fun zf => ?_) (fun zf => ?_)
   ·have hR : e = bJ l roots s := (W7 c6 roots).symm
    simp only [ae,af,aE,aV,List.length_map,go_sem,reduceIte,zA,zB,zC,zD,zE,zF,reduceCtorEq]
    exact hK _ (Option.some.inj (congrArg (fun x => some (num x)) hR))
   ·exact absurd zf (by simp [Ji])
  ·simp only [ae,af,aE,aV,List.length_map,go_sem,reduceIte,zA,zB,zC,zD,zE,zF,reduceCtorEq]
   refine cW (by have h := Iv l s hs; simp only [aZ] at h; exact h _ 3 4 rfl rfl (by decide)) ?_
   rintro _ _ ⟨rfl, rfl⟩
   rw [lb]
   have Z8 : m.length ≤ 1048576 := by have := l5 C7; omega
   obtain ⟨fQ, LJ⟩ := ik C7
   have W8 := nY C7 Im
   have W9 := tM W8
   have zZ : m.Pairwise jT := W8.imp fun h => .inl h
   have Z9 : ∀ r ∈ m, r.aC.ok = true := fun r hr => l0 (LJ r hr)
   have Xa : ∀ r ∈ m, r.reqs.length ≤ 16 := fun r hr => gu (LJ r hr)
   have UJ : ∀ r ∈ m, ∀ q ∈ r.reqs, qS q := fun r hr => (hb.2 r (tI (LJ r hr))).2.2
   have hmt : cH m [] ≤ 16777216 := by
    refine Nat.le_trans (zv _ _) ?_
    have h1 := fM (g := fun r : Rl => r.reqs) (l := m) (k := 16) Xa
    rw [List.length_flatMap] at h1
    omega
   have hS : bJ l roots s = if (m.any fun r => r.reqs.any (brk m)) = true ∨ roots.any (brk m) = true then 17 else if (bX m roots).length < m.length then 8 else 0 := by unfold bJ; rw [if_neg (by simp [c6]), if_pos Im, C7]
   simp only [ae,af,aE,aV,List.length_map,go_sem,reduceIte,zA,zB,zC,zD,zE,zF,reduceCtorEq]
   refine ct tt_ok [] (fun i : Nat => [(1, .slice (roots.map al)), (9, .slice (m.map ag)), (10, .ptr 7 0), (36, .slice (m.map ag)), (37, num m.length), (38, num i)]) (fun i : Nat => [.box [.slice (l.map ag), .slice I], .box [.slice (l.map ag), .slice I], .box [.mp 3, .mp 4], .map (bL aM 0 (gK (aq l))) (gK (aq l)).length, .map (bL strVal 0 (gP (aq l))) (aO (aq l)).length, .box [.mp 3, .mp 4], .map (bL strVal 0 (gB (m.take i))) (gB (m.take i)).length, .box [.mp 6]]) (fun i => m.length - i) (fun i => i ≤ m.length) (0) 8 (ba (by omega) (by simp only [ae,af,aE,aV,List.length_map,List.take_zero,gB,List.map_nil,bL,List.length_nil,Int.cast_ofNat_Int,go_sem,reduceIte,zA,zB,zC,zD,zE,zF,reduceCtorEq] <;> rfl)) (Nat.zero_le _) ?_
   intro i hi
   intro Z1 bP
   simp only [ae,af,aE,aV,List.length_map,go_sem,reduceIte,zA,zB,zC,zD,zE,zF,reduceCtorEq]
   refine aL (fun BQ => ?_) (fun BQ => ?_)
   ·have aB : i < m.length := by simpa using BQ
    have hw := ax i (by omega)
    obtain ⟨x, hx⟩ : ∃ x, m[i]? = some x := ⟨_, List.getElem?_eq_getElem aB⟩
    have rI := List.mem_of_getElem? hx
    have tZ : m.take (i + 1) = m.take i ++ [x] := ij hx
    have iz : ∀ y ∈ m.take i, y.path ≠ x.path := fun y hy => by
     obtain ⟨j, hj⟩ := List.mem_iff_getElem?.1 hy
     have qq := (List.getElem?_eq_some_iff.1 hj).1
     rw [List.length_take] at qq
     rw [List.getElem?_take_of_lt (by omega)] at hj
     have h1 := List.pairwise_iff_getElem.1 W8 j i (by omega) (by omega) (by omega)
     rw [(List.getElem?_eq_some_iff.1 hj).2, (List.getElem?_eq_some_iff.1 hx).2] at h1
     exact Is h1
    have xy := fun (mem : List ay) (b : Nat) hm => LF iz (mem := mem) (b := b) hm
    simp only [ag,ab,ah] at xy
    simp only [ae,af,aE,aV,hw,List.getElem?_map,hx,Option.map_some,ag,ab,ah,xy,List.length_map,go_sem,reduceIte,zA,zB,zC,zD,zE,zF,reduceCtorEq]
    refine bP _ ⟨i + 1, ?_, ?_, ba (by omega) (by (simp only [tZ,hw,ae,af,aE,aV,go_sem,reduceIte,zA,zB,zC,zD,zE,zF,reduceCtorEq]))⟩
    ·exact aB
    ·omega
   ·have cB : ¬ i < m.length := by simpa using BQ
    have rZ : i = m.length := by omega
    subst rZ
    rw [List.take_length]
    simp only [ae,af,aE,aV,List.length_map,go_sem,reduceIte,zA,zB,zC,zD,zE,zF,reduceCtorEq]
    refine ct tt_ok [] (fun i : Nat => [(1, .slice (roots.map al)), (9, .slice (m.map ag)), (10, .ptr 7 0), (13, .fS (.func 52) [] [.ptr 7 0]), (48, .slice (m.map ag)), (49, num m.length), (50, num i)]) (fun i : Nat => [.box [.slice (l.map ag), .slice I], .box [.slice (l.map ag), .slice I], .box [.mp 3, .mp 4], .map (bL aM 0 (gK (aq l))) (gK (aq l)).length, .map (bL strVal 0 (gP (aq l))) (aO (aq l)).length, .box [.mp 3, .mp 4], .map (bL strVal 0 (gB (m))) (gB (m)).length, .box [.mp 6]]) (fun i => m.length - i) (fun i => i ≤ m.length ∧ ∀ j < i, ∀ x, m[j]? = some x → x.reqs.any (brk m) = false) (0) 8 (ba (by omega) (by simp only [ae,af,aE,aV,List.length_map,Int.cast_ofNat_Int,go_sem,reduceIte,zA,zB,zC,zD,zE,zF,reduceCtorEq] <;> rfl)) (⟨Nat.zero_le _, fun j hj => absurd hj (Nat.not_lt_zero j)⟩) ?_
    rintro i ⟨hi, aS⟩
    intro Z2 mP
    simp only [ae,af,aE,aV,List.length_map,go_sem,reduceIte,zA,zB,zC,zD,zE,zF,reduceCtorEq]
    refine aL (fun P5 => ?_) (fun P5 => ?_)
    ·have aB : i < m.length := by simpa using P5
     have hw := ax i (by omega)
     obtain ⟨x, hx⟩ : ∃ x, m[i]? = some x := ⟨_, List.getElem?_eq_getElem aB⟩
     have rI := List.mem_of_getElem? hx
     simp only [ae,af,aE,aV,hw,List.getElem?_map,hx,Option.map_some,ag,ab,ah,List.length_map,go_sem,reduceIte,zA,zB,zC,zD,zE,zF,reduceCtorEq]
     refine cS (zK m x.reqs (by have := Xa x rI; omega) (UJ x rI) _ 6 7 rfl rfl (by decide)) ?_
     rintro _ rfl
     simp only [ae,af,aE,aV,hw,List.getElem?_map,hx,Option.map_some,ag,ab,ah,List.length_map,go_sem,reduceIte,zA,zB,zC,zD,zE,zF,reduceCtorEq]
     refine aL (fun rq => ?_) (fun rq => ?_)
     ·have hR : (17 : Int) = bJ l roots s := by rw [hS, if_pos (.inl (List.any_eq_true.2 ⟨x, rI, rq⟩))]
      simp only [ae,af,aE,aV,hw,List.getElem?_map,hx,Option.map_some,ag,ab,ah,List.length_map,go_sem,reduceIte,zA,zB,zC,zD,zE,zF,reduceCtorEq]
      exact hK _ (Option.some.inj (congrArg (fun x => some (num x)) hR))
     ·simp only [ae,af,aE,aV,hw,List.getElem?_map,hx,Option.map_some,ag,ab,ah,List.length_map,go_sem,reduceIte,zA,zB,zC,zD,zE,zF,reduceCtorEq]
      refine mP _ ⟨i + 1, ?_, ?_, ba (by omega) (by (simp only [hw,ae,af,aE,aV,go_sem,reduceIte,zA,zB,zC,zD,zE,zF,reduceCtorEq]))⟩
      ·refine ⟨aB, fun j hj y hy => ?_⟩
       rcases Nat.lt_or_ge j i with h | h
       ·exact aS j h y hy
       ·obtain rfl : j = i := by omega
        rw [hx] at hy; cases hy; exact rq
      ·omega
    ·have cB : ¬ i < m.length := by simpa using P5
     have QK : ∀ x ∈ m, x.reqs.any (brk m) = false := fun x hx => by
      obtain ⟨j, hj⟩ := List.mem_iff_getElem?.1 hx
      exact aS j (by have := (List.getElem?_eq_some_iff.1 hj).1; omega) x hj
     simp only [ae,af,aE,aV,List.length_map,go_sem,reduceIte,zA,zB,zC,zD,zE,zF,reduceCtorEq]
     refine cS (zK m roots (by omega) E7 _ 6 7 rfl rfl (by decide)) ?_
     rintro _ rfl
     simp only [ae,af,aE,aV,List.length_map,go_sem,reduceIte,zA,zB,zC,zD,zE,zF,reduceCtorEq]
     refine aL (fun LK => ?_) (fun LK => ?_)
     ·have hR : (17 : Int) = bJ l roots s := by rw [hS, if_pos (.inr LK)]
      simp only [ae,af,aE,aV,List.length_map,go_sem,reduceIte,zA,zB,zC,zD,zE,zF,reduceCtorEq]
      exact hK _ (Option.some.inj (congrArg (fun x => some (num x)) hR))
     ·have bM : ∀ q, (q ∈ roots ∨ ∃ a ∈ m, q ∈ a.reqs) → brk m q = false := fun q hq => by
       rcases hq with hq | ⟨a, ha, hq⟩
       ·have := List.any_eq_false.1 LK q hq; simpa using this
       ·have := List.any_eq_false.1 (QK a ha) q hq; simpa using this
      have Jq : bJ l roots s = if (bX m roots).length < m.length then 8 else 0 := by
       rw [hS, if_neg]
       rintro (h | h)
       ·obtain ⟨a, ha, h⟩ := List.any_eq_true.1 h; rw [QK a ha] at h; cases h
       ·rw [LK] at h; cases h
      simp only [ae,af,aE,aV,List.length_map,go_sem,reduceIte,zA,zB,zC,zD,zE,zF,reduceCtorEq]
      refine cW (qW roots (by omega) _) ?_
      rintro _ _ ⟨rfl, rfl⟩
      try simp only [Ev,List.length_cons,List.length_nil,zA]
      simp only [ae,af,aE,aV,List.length_map,go_sem,reduceIte,zA,zB,zC,zD,zE,zF,reduceCtorEq]
      refine ct tt_ok [] (fun a : List Rl × List Rq × Nat × Nat × List V => [(9, .slice (m.map ag)), (10, .ptr 7 0), (16, .mp 8), (17, .ms 9 a.2.2.1 a.2.2.2.1 a.2.1.length)]) (fun a : List Rl × List Rq × Nat × Nat × List V => [.box [.slice (l.map ag), .slice I], .box [.slice (l.map ag), .slice I], .box [.mp 3, .mp 4], .map (bL aM 0 (gK (aq l))) (gK (aq l)).length, .map (bL strVal 0 (gP (aq l))) (aO (aq l)).length, .box [.mp 3, .mp 4], .map (bL strVal 0 (gB (m))) (gB (m)).length, .box [.mp 6], .map (bL strVal 0 (gN a.1)) (gN a.1).length, .rows a.2.2.1 2 a.2.2.2.2]) (fun a => a.2.1.length + cH m a.1) (fun a => RI m roots a.1 a.2.1 (fun _ => False) ∧ a.1.Pairwise (fun x y => x.path ≠ y.path) ∧ a.2.2.2.2.drop a.2.2.2.1 = a.2.1.map al ∧ a.2.2.2.1 + a.2.1.length = a.2.2.2.2.length ∧ a.2.1.length + cH m a.1 ≤ roots.length + 16777216) (([], roots, 1, 0, roots.map al)) 10 (ba (by omega) (by simp only [ae,af,aE,aV,List.length_map,gN,List.map_nil,bL,List.length_nil,Int.cast_ofNat_Int,go_sem,reduceIte,zA,zB,zC,zD,zE,zF,reduceCtorEq] <;> rfl)) (⟨RI.start _ _, List.Pairwise.nil, rfl, by simp, by dsimp only; have := hmt; omega⟩) ?_
      rintro ⟨S, P, v, o, rs⟩ ⟨Ie, UK, z7, Nz, hW⟩
      try dsimp only at Ie UK z7 Nz hW ⊢
      intro Z3 w4
      simp only [ae,af,aE,aV,List.length_map,go_sem,reduceIte,zA,zB,zC,zD,zE,zF,reduceCtorEq]
      refine aL (fun xh => ?_) (fun xh => ?_)
      ·obtain ⟨q, P, rfl⟩ : ∃ q P2, P = q :: P2 := by
        cases P with
        | nil => simp at xh
        | cons q r => exact ⟨q, r, rfl⟩
       simp only [List.length_cons] at xh ⊢
       rw [xh]
       obtain ⟨Ig, hq⟩ := Ie.pop
       have cd : rs[o]? = some (al q) := by
        have h := congrArg (fun x => x[0]?) z7
        simpa using h
       have kO : rs.drop (o + 1) = P.map al := by
        rw [← List.drop_drop, z7]; rfl
       have jV : o + 1 + P.length = rs.length := by rw [List.length_cons] at Nz; omega
       rw [List.length_cons] at hW
       have h0 : (0 : Int) < ((P.length + 1 : Nat) : Int) := by omega
       have h1 : (1 : Int) ≤ ((P.length + 1 : Nat) : Int) := by omega
       have dV : (((P.length + 1 : Nat) : Int) - 1).toNat = P.length := by omega
       have da : ∀ mem : List ay, mem[9]? = some (.rows v 2 rs) → cutAt mem 2 1 none (.ms 9 v o (P.length + 1)) = some (.ms 9 v (o + 1) P.length) := fun mem hm => by
        unfold cutAt
        simp [eL, hm] <;> omega
       have K7 : q ∈ roots ∨ ∃ a ∈ m, q ∈ a.reqs := by
        rcases hq with hq | ⟨a, ha, hq⟩
        ·exact .inl hq
        ·exact .inr ⟨a, (Ie.sub a ha).mem, hq⟩
       obtain ⟨r, Yj, Q5, Ih⟩ := P4 Z9 (bM q K7)
       have TF := (tN Yj).2
       have UL := fun (mem : List ay) (b : Nat) hm => It S q.path (mem := mem) (b := b) hm
       simp only [ae,af,aE,aV,cd,h0,h1,dV,da,List.length_cons,al,ak,Nat.add_zero,Int.le_refl,Int.toNat_one,Int.toNat_zero,UL,List.length_map,go_sem,reduceIte,zA,zB,zC,zD,zE,zF,reduceCtorEq]
       refine aL (fun P6 => ?_) (fun P6 => ?_)
       ·have na : pc S q.path = false := by simpa using P6
        have Iw : ∀ x ∈ S, x.path ≠ r.path := fun x hx he => by
         have : pc S q.path = true := by unfold pc; exact List.any_eq_true.2 ⟨x, hx, by rw [he, TF]; simp⟩
         rw [na] at this; cases this
        have eR : seen S r.key = false := by
         cases hk : seen S r.key with
         | false => rfl
         | true => obtain ⟨x, hx, he⟩ := tF.1 hk; exact absurd (congrArg dD.path he) (Iw x hx)
        have xy := fun (mem : List ay) (b : Nat) hm => Iu Iw (mem := mem) (b := b) hm
        rw [TF] at xy
        have Xb := fun (mem : List ay) (b : Nat) hm => LA Yj (mem := mem) (b := b) hm
        simp only [ag,ab,ah] at Xb
        have Yg := qg zZ Q5 eR
        have Yh := Xa r Q5
        have fp := bN r.reqs
        have dE : P.length + r.reqs.length ≤ 34359738368 := by omega
        simp only [ae,af,aE,aV,cd,h0,h1,dV,da,List.length_cons,al,ak,Nat.add_zero,Int.le_refl,Int.toNat_one,Int.toNat_zero,UL,xy,Xb,jV,fp,dE,MZ,List.length_map,go_sem,reduceIte,zA,zB,zC,zD,zE,zF,reduceCtorEq]
        refine V1 ?_
        intro o2 Dm D2 Aa
        try rw [List.length_map] at Aa
        let nv : List Rl × List Rq × Nat × Nat × List V := (S ++ [r], P ++ r.reqs, v + 1, o2, Dm)
        have xg : RI m roots (S ++ [r]) (P ++ r.reqs) (fun _ => False) ∧ (S ++ [r]).Pairwise (fun x y => x.path ≠ y.path) ∧ Dm.drop o2 = (P ++ r.reqs).map al ∧ o2 + (P ++ r.reqs).length = Dm.length ∧ (P ++ r.reqs).length + cH m (S ++ [r]) ≤ roots.length + 16777216 := by
         refine ⟨(Ig.W4 hq Q5 Ih).close fun y hy hh => ?_, ?_, by rw [D2, kO, List.map_append], by rw [List.length_append]; omega, by rw [List.length_append]; omega⟩
         ·rw [W9 y hy r Q5 (by rw [TF]; exact (mv hh).symm)]; simp
         ·exact List.pairwise_append.2 ⟨UK, List.pairwise_singleton _ _, fun x hx y hy => by rw [List.mem_singleton] at hy; exact hy ▸ Iw x hx⟩
        simp only [ae,af,aE,aV,cd,h0,h1,dV,da,List.length_cons,al,ak,Nat.add_zero,Int.le_refl,Int.toNat_one,Int.toNat_zero,UL,xy,Xb,jV,fp,dE,MZ,List.length_map,go_sem,reduceIte,zA,zB,zC,zD,zE,zF,reduceCtorEq]
        refine w4 _ ⟨nv, ?_, ?_, ba (by omega) (by (simp only [nv,List.length_append,ae,af,aE,aV,go_sem,reduceIte,zA,zB,zC,zD,zE,zF,reduceCtorEq]))⟩
        ·exact xg
        ·dsimp only [nv]; omega
       ·have na : pc S q.path = true := by simpa using P6
        have hrS : r ∈ S := by
         unfold pc at na
         obtain ⟨x, hx, he⟩ := List.any_eq_true.1 na
         have he := of_decide_eq_true he
         rw [← W9 x (Ie.sub x hx).mem r Q5 (by rw [he, TF])]; exact hx
        let nv : List Rl × List Rq × Nat × Nat × List V := (S, P, v, o + 1, rs)
        have xg : RI m roots S P (fun _ => False) ∧ S.Pairwise (fun x y => x.path ≠ y.path) ∧ rs.drop (o + 1) = P.map al ∧ o + 1 + P.length = rs.length ∧ P.length + cH m S ≤ roots.length + 16777216 := by
         refine ⟨Ig.close fun y hy hh => ?_, UK, kO, jV, by omega⟩
         rw [W9 y hy r Q5 (by rw [TF]; exact (mv hh).symm)]; exact hrS
        simp only [ae,af,aE,aV,cd,h0,h1,dV,da,List.length_cons,al,ak,Nat.add_zero,Int.le_refl,Int.toNat_one,Int.toNat_zero,UL,List.length_map,go_sem,reduceIte,zA,zB,zC,zD,zE,zF,reduceCtorEq]
        refine w4 _ ⟨nv, ?_, ?_, ba (by omega) (by (simp only [nv,List.length_append,ae,af,aE,aV,go_sem,reduceIte,zA,zB,zC,zD,zE,zF,reduceCtorEq]))⟩
        ·exact xg
        ·dsimp only [nv]; omega
      ·obtain rfl : P = [] := by
        cases P with
        | nil => rfl
        | cons q r => simp at xh
       have hSl : S.length = (bX m roots).length := by
        classical
        refine LH (S := S) (T := bX m roots) (UK.imp fun h => fun e => h (congrArg Rl.path e)) ?_ fun x => by rw [Ie.fin, yR]
        unfold bX
        exact List.Pairwise.filter _ (zZ.imp fun h => fun e => jU h (congrArg Rl.key e))
       have P7 : ((bL strVal 0 (gN S)).length : Int) = S.length := LG
       simp only [ae,af,aE,aV,P7,oi,ra,List.length_map,go_sem,reduceIte,zA,zB,zC,zD,zE,zF,reduceCtorEq]
       refine aL (fun P8 => ?_) (fun P8 => ?_)
       ·have hR : (8 : Int) = bJ l roots s := by rw [Jq, if_pos (by have := of_decide_eq_true P8; omega)]
        simp only [ae,af,aE,aV,P7,oi,ra,List.length_map,go_sem,reduceIte,zA,zB,zC,zD,zE,zF,reduceCtorEq]
        exact hK _ (Option.some.inj (congrArg (fun x => some (num x)) hR))
       ·have hR : (0 : Int) = bJ l roots s := by rw [Jq, if_neg (by have := of_decide_eq_false P8; omega)]
        simp only [ae,af,aE,aV,P7,oi,ra,List.length_map,go_sem,reduceIte,zA,zB,zC,zD,zE,zF,reduceCtorEq]
        exact hK _ (Option.some.inj (congrArg (fun x => some (num x)) hR))
end Go.Proofs.YtnfeacnbgbggfaaGreatDoor
end

section
namespace Go.Proofs.YtnfeacnbgbggfaaGreatDoor
open Go.Eng
variable [aG]
def pA : ByteArray := ⟨#[97,47,118,49]⟩
def pB : ByteArray := ⟨#[98,47,118,49]⟩
def e0 : ByteArray := ⟨#[]⟩
def ub (p : ByteArray) (b : Int) (q : List Rq) (y : Bool) : Rl := ⟨p, ⟨1, b, 0⟩, q, e0, e0, e0, y⟩
def E9 : List Rq := [⟨pB, [⟨1000, 1000000⟩]⟩]
def xA : Rl := ub pA 0 E9 false
def vr : Rl := ub pB 0 [] false
def rR : Rl := ub pB 1 [] false
def BR : Rl := ub pB 2 [] true
def jY : List Rl := [xA, vr, rR, BR]
def bx : List Rq := [⟨pA, [⟨0, 1000000⟩]⟩]
def Du : List dD := [⟨pA, ⟨1, 0, 0⟩⟩, ⟨pB, ⟨1, 0, 0⟩⟩]
def Dv : List dD := [⟨pA, ⟨1, 0, 0⟩⟩, ⟨pB, ⟨1, 1, 0⟩⟩]
theorem Dw : dK jY = 0 := by kernel_rfl
theorem BS : dK [xA] = 0 := by kernel_rfl
theorem Dx : aq jY = jY := by unfold aq; rw [if_pos Dw]
theorem Fa : tY jY := by
 refine ⟨by decide, fun r hr => ?_⟩
 unfold jY at hr
 simp only [List.mem_cons,List.not_mem_nil,or_false] at hr
 rcases hr with rfl | rfl | rfl | rfl
 ·refine ⟨by decide, by decide, fun q hq => ?_⟩
  unfold xA ub E9 at hq
  simp only [List.mem_cons,List.not_mem_nil,or_false] at hq
  subst hq
  exact ⟨by decide, by decide⟩
 ·exact ⟨by decide, by decide, fun q hq => by simp [vr, ub] at hq⟩
 ·exact ⟨by decide, by decide, fun q hq => by simp [rR, ub] at hq⟩
 ·exact ⟨by decide, by decide, fun q hq => by simp [BR, ub] at hq⟩
theorem Ix : ∀ q ∈ bx, qS q := fun q hq => by
 unfold bx at hq
 simp only [List.mem_cons,List.not_mem_nil,or_false] at hq
 subst hq
 exact ⟨by decide, by decide⟩
theorem P9 {l : List Rl} (h : xA ∈ l) : oY l bx xA := .root _ _ (List.mem_singleton.2 rfl) h (by kernel_rfl)
theorem Qa {l : List Rl} (h : xA ∈ l) {r : Rl} (hr : r ∈ l) (hh : ek ⟨pB, [⟨1000, 1000000⟩]⟩ r = true) : oY l bx r := .step xA _ r (P9 h) (List.mem_singleton.2 rfl) hr hh
theorem TG : ¬ oY jY bx vr := fun h => by
 have key := Kr (l := jY) (roots := bx) (fun r => r ∈ jY ∧ r ≠ vr ∧ oY jY bx r) (fun r h => h.2.2) (fun q hq r hr hh => ?_) (fun a ha q hq r hr hh => ?_) vr
 ·exact ((key.2 h).2.1) rfl
 ·refine ⟨hr, fun e => ?_, .root q r hq hr hh⟩
  subst e
  unfold bx at hq
  rw [List.mem_singleton] at hq
  subst hq
  exact absurd hh (by rw [show ek ⟨pA, [⟨0, 1000000⟩]⟩ vr = false from by kernel_rfl]; decide)
 ·refine ⟨hr, fun e => ?_, .step a q r ha.2.2 hq hr hh⟩
  subst e
  have h1 := ha.1
  unfold jY at h1
  simp only [List.mem_cons,List.not_mem_nil,or_false] at h1
  rcases h1 with rfl | rfl | rfl | rfl
  ·unfold xA ub E9 at hq
   rw [List.mem_singleton] at hq
   subst hq
   exact absurd hh (by rw [show ek ⟨pB, [⟨1000, 1000000⟩]⟩ vr = false from by kernel_rfl]; decide)
  ·simp [vr, ub] at hq
  ·simp [rR, ub] at hq
  ·simp [BR, ub] at hq
theorem Iy : (bX (aq jY) bx).length = 3 := by
 rw [Dx]
 have hA : oY jY bx xA := P9 (by simp [jY])
 have h1 : oY jY bx rR := Qa (by simp [jY]) (by simp [jY]) (by kernel_rfl)
 have h2 : oY jY bx BR := Qa (by simp [jY]) (by simp [jY]) (by kernel_rfl)
 unfold bX
 show (List.filter _ [xA, vr, rR, BR]).length = 3
 rw [List.filter_cons_of_pos (by simpa using hA), List.filter_cons_of_neg (by simpa using TG), List.filter_cons_of_pos (by simpa using h1), List.filter_cons_of_pos (by simpa using h2)]
 rfl
theorem Fb : bJ jY bx Du = 17 := by
 unfold bJ
 rw [if_neg (by rw [Dw]; simp), if_pos (show hZ Du = true by kernel_rfl), show gv jY Du = some [xA, vr] by kernel_rfl]
 exact if_pos (.inl (by kernel_rfl))
theorem Fc : bJ jY bx Dv = 0 := by
 unfold bJ
 rw [if_neg (by rw [Dw]; simp), if_pos (show hZ Dv = true by kernel_rfl), show gv jY Dv = some [xA, rR] by kernel_rfl]
 dsimp only
 rw [if_neg (by rw [show ([xA, rR].any fun r => r.reqs.any (brk [xA, rR])) = false by kernel_rfl, show bx.any (brk [xA, rR]) = false by kernel_rfl]; simp)]
 have hA : oY [xA, rR] bx xA := P9 (by simp)
 have h1 : oY [xA, rR] bx rR := Qa (by simp) (by simp) (by kernel_rfl)
 have : bX [xA, rR] bx = [xA, rR] := by
  unfold bX
  rw [List.filter_cons_of_pos (by simpa using hA), List.filter_cons_of_pos (by simpa using h1)]
  rfl
 rw [this]
 rfl
theorem Iz : canon (nX (bS (aq jY) pB)) = [⟨0, 1⟩, ⟨1000, 1001⟩] := by rw [Dx]; kernel_rfl
theorem BT (hG : aG.g = some 0) : aP Tryz.prog 45 [] (.agg [.slice [.agg [str pA, num 1, num 0, num 0, .slice [.agg [str pB, .slice [.agg [num 1000, num 1000000]]]], str e0, str e0, str e0, bl false], .agg [str pB, num 1, num 0, num 0, .slice [], str e0, str e0, str e0, bl false],
  .agg [str pB, num 1, num 1, num 0, .slice [], str e0, str e0, str e0, bl false], .agg [str pB, num 1, num 2, num 0, .slice [], str e0, str e0, str e0, bl true]], .slice []]) := CK ze (Kb hG) 200 (by kernel_rfl)
end Go.Proofs.YtnfeacnbgbggfaaGreatDoor
end

section
namespace Go.Proofs.YtnfeacnbgbggfaaGreatDoor
open Go.Eng
open Nat renaming reduceAdd → zA, reduceLT → zB, reduceLeDiff → zC, reduceMul → zD, reduceEqDiff → zE, reduceSub → zF
variable [aG]
set_option maxHeartbeats 4000000
set_option maxRecDepth 100000
theorem IA (hG : aG.g = some 0) : ∃ r_, (fun w => w = bl (true)) r_ ∧ aP Tryz.prog 9 [] r_ := by
 refine dI tt_ok [8] 89 [.tmp 0] (fn := Tryz.f9) Tryz.func9 rfl Tryz.call9 ⟨rfl, rfl, by simp⟩ fun K hK => ?_
 obtain ⟨RE, Q6⟩ : ∃ x, x = (bX (aq jY) bx).map Rl.key := ⟨_, rfl⟩
 have BK : ((RE.length : Nat) : Int) = 3 := by rw [Q6, List.length_map, Iy]; rfl
 have bB : ∀ (mem : List ay) (ks : List (Nat × Nat)) (n : Int), cP mem ks (num n) = mem := fun _ _ _ => rfl
 have ru : ∀ (mem : List ay) (ks : List (Nat × Nat)) (b : Bool), cP mem ks (bl b) = mem := fun _ _ _ => rfl
 have Xc : Jm xA := Fa.2 xA (by simp [jY])
 have Yk : (qa xA).length ≤ 1048576 := by have h := Lx (HT (BI xA ▸ BS)) (by kernel_rfl); omega
 obtain ⟨MS, UM⟩ : ∃ x, x = bs (qa xA) := ⟨_, rfl⟩
 have Xd : MS.size ≤ 1048576 := by rw [UM, o7]; exact Yk
 simp only [List.length_map,BK,bB,ru,go_sem,reduceIte,zA,zB,zC,zD,zE,zF,reduceCtorEq]
 refine cF (by have h : ∃ r_, (fun w => w = V.agg _) r_ ∧ aP Tryz.prog 45 [] r_ := ⟨_, rfl, BT hG⟩; simp only [jY,bx,Du,Dv,xA,vr,rR,BR,ub,E9,pA,pB,e0,bm,aY,ah,aZ,List.map_cons,List.map_nil,ag,ab,al,ak,aj,aI] at h; exact h) ?_
 rintro _ rfl
 simp only [ny,Ct,fg,List.length_map,BK,bB,ru,go_sem,reduceIte,zA,zB,zC,zD,zE,zF,reduceCtorEq]
 refine cF (by have h := zi hG xA Xc; rw [Ly BS, ← UM] at h; simp only [jY,bx,Du,Dv,xA,vr,rR,BR,ub,E9,pA,pB,e0,bm,aY,ah,aZ,List.map_cons,List.map_nil,ag,ab,al,ak,aj,aI] at h; exact h) ?_
 rintro _ rfl
 simp only [ny,Ct,fg,List.length_map,BK,bB,ru,go_sem,reduceIte,zA,zB,zC,zD,zE,zF,reduceCtorEq]
 refine cF (by have h := Ln hG MS Xd; rw [UM, Ic BS Xc Yk, ← UM] at h; simp only [jY,bx,Du,Dv,xA,vr,rR,BR,ub,E9,pA,pB,e0,bm,aY,ah,aZ,List.map_cons,List.map_nil,ag,ab,al,ak,aj,aI] at h; exact h) ?_
 rintro _ rfl
 simp only [ny,Ct,fg,List.length_map,BK,bB,ru,go_sem,reduceIte,zA,zB,zC,zD,zE,zF,reduceCtorEq]
 refine rl (v' := .slice [.agg [str ⟨#[97,47,118,49]⟩, .slice [.agg [num 0, num 1000000]]]]) 2 (by decide) rfl rfl ?_
 refine rl (v' := .slice [.agg [str ⟨#[97,47,118,49]⟩, num 1, num 0, num 0], .agg [str ⟨#[98,47,118,49]⟩, num 1, num 0, num 0]]) 5 (by decide) rfl rfl ?_
 refine rl (v' := .slice [.agg [str ⟨#[97,47,118,49]⟩, num 1, num 0, num 0], .agg [str ⟨#[98,47,118,49]⟩, num 1, num 1, num 0]]) 6 (by decide) rfl rfl ?_
 refine Wi tt_ok [8] aD [⟨.r, 0, [], [], []⟩, ⟨.n, 0, [], [], []⟩, ⟨.n, 0, [], [], []⟩, ⟨.n, 0, [], [], []⟩, ⟨.r, 0, [], [], []⟩, ⟨.n, 0, [], [], []⟩, ⟨.n, 0, [], [], []⟩, ⟨.n, 0, [], [], []⟩, ⟨.n, 0, [], [], []⟩, ⟨.n, 0, [], [], []⟩, ⟨.n, 0, [], [], []⟩, ⟨.r, 0, [], [], []⟩, ⟨.n, 0, [], [], []⟩, ⟨.n, 0, [], [], []⟩, ⟨.n, 0, [], [], []⟩, ⟨.n, 0, [], [], []⟩, ⟨.n, 0, [], [], []⟩, ⟨.n, 0, [], [], []⟩, ⟨.n, 0, [], [], []⟩, ⟨.r, 0, [], [], []⟩, ⟨.n, 0, [], [], []⟩, ⟨.n, 0, [], [], []⟩, ⟨.n, 0, [], [], []⟩, ⟨.n, 0, [], [], []⟩, ⟨.n, 0, [], [], []⟩, ⟨.n, 0, [], [], []⟩, ⟨.r, 0, [], [], []⟩, ⟨.n, 0, [], [], []⟩, ⟨.n, 0, [], [], []⟩, ⟨.n, 0, [], [], []⟩, ⟨.n, 0, [], [], []⟩, ⟨.n, 0, [], [], []⟩, ⟨.n, 0, [], [], []⟩, ⟨.n, 0, [], [], []⟩, ⟨.n, 0, [], [], []⟩, ⟨.n, 0, [], [], []⟩, ⟨.n, 0, [], [], []⟩, ⟨.n, 0, [], [], []⟩, ⟨.n, 0, [], [], []⟩, ⟨.n, 0, [], [], []⟩, ⟨.n, 0, [], [], []⟩, ⟨.r, 0, [], [], []⟩, ⟨.n, 0, [], [], []⟩, ⟨.r, 0, [], [], []⟩, ⟨.r, 0, [], [], []⟩, ⟨.r, 0, [], [], []⟩, ⟨.n, 0, [], [], []⟩, ⟨.n, 0, [], [], []⟩, ⟨.n, 0, [], [], []⟩] 0 (by kernel_rfl) ?_
 simp only [ny,Ct,fg,List.length_map,BK,bB,ru,go_sem,reduceIte,zA,zB,zC,zD,zE,zF,reduceCtorEq]
 refine cG (by have h := ti hG jY [] Fa; rw [Dw] at h; simp only [jY,bx,Du,Dv,xA,vr,rR,BR,ub,E9,pA,pB,e0,bm,aY,ah,aZ,List.map_cons,List.map_nil,ag,ab,al,ak,aj,aI] at h; exact h) ?_
 rintro _ rfl
 simp only [ny,Ct,fg,List.length_map,BK,bB,ru,go_sem,reduceIte,zA,zB,zC,zD,zE,zF,reduceCtorEq]
 refine cG (by have h := zx hG jY [] Fa bx (by decide) Ix; rw [← Q6] at h; simp only [jY,bx,Du,Dv,xA,vr,rR,BR,ub,E9,pA,pB,e0,bm,aY,ah,aZ,List.map_cons,List.map_nil,ag,ab,al,ak,aj,aI] at h; exact ⟨_, rfl, h⟩) ?_
 rintro _ rfl
 simp only [ny,Ct,fg,List.length_map,BK,bB,ru,go_sem,reduceIte,zA,zB,zC,zD,zE,zF,reduceCtorEq]
 refine cG (by have h := Ij hG jY [] Fa pB; rw [Iz] at h; simp only [jY,bx,Du,Dv,xA,vr,rR,BR,ub,E9,pA,pB,e0,bm,aY,ah,aZ,List.map_cons,List.map_nil,ag,ab,al,ak,aj,aI] at h; exact ⟨_, rfl, h⟩) ?_
 rintro _ rfl
 simp only [ny,Ct,fg,List.length_map,BK,bB,ru,go_sem,reduceIte,zA,zB,zC,zD,zE,zF,reduceCtorEq]
 refine cG (by have h := wO [⟨0, 1⟩, ⟨1000, 1001⟩] [⟨0, 1⟩, ⟨1000, 1001⟩] (by decide); rw [show decide (([⟨0, 1⟩, ⟨1000, 1001⟩] : List bG) = [⟨0, 1⟩, ⟨1000, 1001⟩]) = true from decide_eq_true rfl] at h; simp only [jY,bx,Du,Dv,xA,vr,rR,BR,ub,E9,pA,pB,e0,bm,aY,ah,aZ,List.map_cons,List.map_nil,ag,ab,al,ak,aj,aI] at h; exact h) ?_
 rintro _ rfl
 simp only [ny,Ct,fg,List.length_map,BK,bB,ru,go_sem,reduceIte,zA,zB,zC,zD,zE,zF,reduceCtorEq]
 refine cG (by have h := qj hG jY [] Fa bx (by decide) Ix Du (by decide); rw [Fb] at h; simp only [jY,bx,Du,Dv,xA,vr,rR,BR,ub,E9,pA,pB,e0,bm,aY,ah,aZ,List.map_cons,List.map_nil,ag,ab,al,ak,aj,aI] at h; exact ⟨_, rfl, h⟩) ?_
 rintro _ rfl
 simp only [ny,Ct,fg,List.length_map,BK,bB,ru,go_sem,reduceIte,zA,zB,zC,zD,zE,zF,reduceCtorEq]
 refine cG (by have h := qj hG jY [] Fa bx (by decide) Ix Dv (by decide); rw [Fc] at h; simp only [jY,bx,Du,Dv,xA,vr,rR,BR,ub,E9,pA,pB,e0,bm,aY,ah,aZ,List.map_cons,List.map_nil,ag,ab,al,ak,aj,aI] at h; exact ⟨_, rfl, h⟩) ?_
 rintro _ rfl
 simp only [ny,Ct,fg,List.length_map,BK,bB,ru,go_sem,reduceIte,zA,zB,zC,zD,zE,zF,reduceCtorEq]
 refine cG (by have h := E6 xA xA Xc; rw [show decide (xA = xA) = true from decide_eq_true rfl] at h; simp only [jY,bx,Du,Dv,xA,vr,rR,BR,ub,E9,pA,pB,e0,bm,aY,ah,aZ,List.map_cons,List.map_nil,ag,ab,al,ak,aj,aI] at h; exact h) ?_
 rintro _ rfl
 simp only [ny,Ct,fg,List.length_map,BK,bB,ru,go_sem,reduceIte,zA,zB,zC,zD,zE,zF,reduceCtorEq]
 exact hK _ rfl
end Go.Proofs.YtnfeacnbgbggfaaGreatDoor
end

section
namespace Go.Proofs.YtnfeacnbgbggfaaGreatDoor
open Go.Eng
set_option maxRecDepth 100000
open Go.ChangeShapes Go.WideShapes Go.ChangeAt Go.RowKit
@[reducible] def Yl (n : Int) : aG := { n := n, κ := fun _ => none, ok := fun j b hb => (by cases hb), g := some 0, Nh := fun _ => none }
theorem IB {W : World} {v : Value} (bM : Cell.ok Tryz.prog W .any 0 3 v) : ∃ n : Int, v = .int .i64 n := by
 unfold Cell.ok at bM
 rw [Tryz.underlying3] at bM
 cases v with
 | int k n => exact ⟨n, by rw [show k = .i64 from bM.1]⟩
 | _ => exact bM.elim
theorem Fe {W : World} (hS : W.ShapedOpen Tryz.prog) : ∃ n : Int, W.cell? ⟨0, 0, none⟩ = some (.int .i64 n) := by
 have h0 : (((begin Tryz.prog (fun _ _ => 0) default).world.heap[0]?).bind Obj.row?) = some (#[.int .i64 0], 3) := by kernel_rfl
 obtain ⟨cs, hc, hz, hr⟩ := hS.1 0 _ _ (of_decide_eq_true (by kernel_rfl)) h0
 obtain ⟨ts, h1, -, h3⟩ := hr (by kernel_rfl)
 obtain rfl : [3] = ts := Option.some.inj ((show Tryz.prog.cellTypes Tryz.prog.depth 3 = some [3] by kernel_rfl).symm.trans h1)
 have hz' : cs.size = 1 := hz
 obtain ⟨v, hv⟩ : ∃ v, cs[0]? = some v := ⟨cs[0], Array.getElem?_eq_getElem (by omega)⟩
 obtain ⟨u, hu, bM⟩ := h3 0 v hv
 obtain rfl : 3 = u := by simpa using hu
 obtain ⟨n, rfl⟩ := IB bM
 exact ⟨n, by simp [World.cell?, hc, hv]⟩
theorem LL {F : Addr → Option Value} [aG] {hg : Gl F} {cs : List V} {v : Value} (bO : cs.length ≠ 1) (h : Rd F hg cs v.cells.toList) : aX ⟨F, fun _ _ => none, hg⟩ (.agg cs) v := by
 cases v with
 | agg xs => exact .agg _ _ _ (by simpa [Value.cells] using h.1.1) fun i c x hc hx => h.1.2 i c x hc (by simpa [Value.cells] using hx)
 | _ => exact absurd h.1.1 (by simpa [Value.cells] using bO)
theorem Ff {H : Type} {enc : TypeId × Value → H} {P : Program} {f : Func} {s : ChangeSpec} {apart fresh handsOn again : Bool} {W W' : World} {args : Array Value} {v : Value} {ds gs : List (DataW H)} {before pa pv : List MemPlace}
  (hW : DataW.Whole enc P f.params.toList s.vars apart W args.toList ds gs before)
  (aw : ∀ (b : Nat) (sp : Nat → Bool) (hd : Bool), DataW.TrodAll enc P W' b sp hd f.resultTypes.toList (v.resultList f.resultTypes.size) (s.fn H (ds ++ gs)).results [])
  (jd : ∀ sp : Nat → Bool, (∀ p ∈ before, sp p.block = true) → DataW.TrodAll enc P W' 0 sp true f.params.toList args.toList (s.fn H (ds ++ gs)).args pa)
  (M0 : ∀ sp : Nat → Bool, (∀ p ∈ before, sp p.block = true) → DataW.TrodVars enc P W' sp s.vars (s.fn H (ds ++ gs)).vars pv)
  (Xe : before = pa ++ pv) (hb : Below W.heap.size W W')
  (bM : ∀ (j : Nat) (t : TypeId) (r : Value), f.resultTypes[j]? = some t → (v.resultList f.resultTypes.size)[j]? = some r → Value.okWide P W' .any 0 t r) :
  s.post enc P f apart fresh handsOn again W args v W' := by
 have aB := hW.lt
 refine ⟨ds, gs, before, [], pa, pv, hW, aw _ _ _, jd _ (fun p hp => by simpa using aB p hp), M0 _ (fun p hp => by simpa using aB p hp), hb.frame _, fun _ => ?_⟩
 obtain ⟨_, _, _, _, _, hz, hn⟩ := hW
 refine ⟨bM, _, _, ([] ++ pa) ++ pv, ⟨[] ++ pa, pv, trodAll_append (jd _ (fun _ _ => rfl)) (aw _ _ _), M0 _ (fun _ _ => rfl), rfl, fun b off hp => ?_, fun ha => ?_⟩, fun p hp _ => ?_⟩
 ·have Mo : MemPlace.cell b off ∈ before := by rw [Xe]; simpa using hp
  rw [hb.frozen (show (⟨b, off, none⟩ : Addr).block < W.heap.size from aB _ Mo)]
  exact hz b off Mo
 ·have := hn ha
  rw [Xe] at this
  simpa using this
 ·rw [Xe]
  simpa using hp
theorem IC {F : Addr → Option Value} [aG] {hg : Gl F} {rows : List V} {a : Option Addr} {l c : Nat} (h : Rd F hg [.slice rows] (Value.slice a l c).cells.toList) : aX ⟨F, fun _ _ => none, hg⟩ (.slice rows) (.slice a l c) := h.1.2 0 _ _ rfl rfl
end Go.Proofs.YtnfeacnbgbggfaaGreatDoor
end
