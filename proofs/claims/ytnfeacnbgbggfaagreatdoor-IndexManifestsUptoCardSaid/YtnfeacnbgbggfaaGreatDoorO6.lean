/-
  MAPS with keys of one kind: what reading and writing come to, as lists of keys and values.
  TABLES: the order of a good index, its groups by path (plain).
  TABLES: the maps' types, and what freezing and changing keys make of the tables.
  CONTRACTS: the table of an index.
  CONTRACTS: clones.
  CONTRACTS: Find.
  CONTRACTS: Read.
  PLAIN LAWS of manifests: what is written is read, what is read is written.
  CONTRACTS: equal releases.
  REACHING: what the loop of Reachable keeps (plain).
  CONTRACTS: what Reachable needs.
  CONTRACTS: Reachable.
  CONTRACTS: few releases; a selection that is contained.
  THE LAW IndexReturns.
  CONTRACTS: Available.
  CONTRACTS: the releases of a selection.
  CONTRACTS: requirements that a selection breaks.
  CONTRACTS: Solves.
  AWAKE: the example of the chapter.
  AWAKE.
  CLOSING: what is common to the laws of chapter 32.
-/
import Derived.Test.YtnfeacnbgbggfaaGreatDoorO5
import Derived.WalkKit
import Derived.ProofKit
import Derived.OpenShut
import Derived.WideKeyArgs
import Derived.Deep.DeepHandedRow
set_option linter.all false
section
namespace Go.Proofs.YtnfeacnbgbggfaaGreatDoor
open Go.Eng
variable [aE]
section
variable {α : Type} [DecidableEq α]
def bC (kv : α → Value) : Nat → List (α × V) → List (Value × Nat × V)
 | _, [] => []
 | n, (k, v) :: r => (kv k, n, v) :: bC kv (n + 1) r
theorem tS (kv : α → Value) : ∀ (g : List (α × V)) (n : Nat), (bC kv n g).length = g.length
 | [], _ => rfl
 | _ :: r, n => by simp [bC, tS kv r (n + 1)]
theorem zY (kv : α → Value) : ∀ (g : List (α × V)) (n : Nat), (bC kv n g).map (fun e => e.2.2) = g.map (·.2)
 | [], _ => rfl
 | _ :: r, n => by simp [bC, zY kv r (n + 1)]
theorem DN (kv : α → Value) : ∀ (g : List (α × V)) (n i : Nat), (bC kv n g)[i]? = g[i]?.map fun e => (kv e.1, n + i, e.2)
 | [], _, _ => rfl
 | e :: r, n, 0 => rfl
 | e :: r, n, i + 1 => by
  show (bC kv (n + 1) r)[i]? = _
  rw [DN kv r (n + 1) i, show n + 1 + i = n + (i + 1) by omega]; rfl
theorem zZ (kv : α → Value) (k : α) (v : V) : ∀ (g : List (α × V)) (n : Nat), bC kv n (g ++ [(k, v)]) = bC kv n g ++ [(kv k, n + g.length, v)]
 | [], _ => rfl
 | e :: r, n => by
  show (kv e.1, n, e.2) :: bC kv (n + 1) (r ++ [(k, v)]) = (kv e.1, n, e.2) :: (bC kv (n + 1) r ++ _)
  rw [zZ kv k v r (n + 1), List.length_cons, show n + 1 + r.length = n + (r.length + 1) by omega]
theorem DO (kv : α → Value) (k : α) (v : V) : ∀ (g : List (α × V)) (n i : Nat), i < g.length → bC kv n (g.set i (k, v)) = (bC kv n g).set i (kv k, n + i, v)
 | [], _, _, h => by simp at h
 | e :: r, n, 0, _ => rfl
 | e :: r, n, i + 1, h => by
  show (kv e.1, n, e.2) :: bC kv (n + 1) (r.set i (k, v)) = (kv e.1, n, e.2) :: (bC kv (n + 1) r).set i _
  rw [DO kv k v r (n + 1) i (by simpa using h), show n + 1 + i = n + (i + 1) by omega]
theorem kP (kv : α → Value) (p : V → Bool) : ∀ (g : List (α × V)) (n : Nat), ((bC kv n g).all fun e => p e.2.2) = g.all fun e => p e.2
 | [], _ => rfl
 | _ :: r, n => by simp [bC, kP kv p r (n + 1)]
theorem DP (kv : α → Value) : ∀ (g : List (α × V)) (vs : List V) (n : Nat), tl (bC kv n g) vs = bC kv n (List.zipWith (fun e v => (e.1, v)) g vs)
 | [], _, _ => rfl
 | e :: r, [], _ => rfl
 | e :: r, v :: vs, n => by
  show _ :: tl (bC kv (n + 1) r) vs = _
  rw [DP kv r vs (n + 1)]; rfl
def dx (a : α) : List (α × V) → Nat → Option (Nat × V)
 | [], _ => none
 | e :: r, i => if e.1 = a then some (i, e.2) else dx a r (i + 1)
def getM (a : α) : List (α × V) → Option V
 | [] => none
 | e :: r => if e.1 = a then some e.2 else getM a r
theorem qh (a : α) : ∀ (g : List (α × V)) (i : Nat), (dx a g i).map (·.2) = getM a g
 | [], _ => rfl
 | e :: r, i => by
  unfold dx getM
  split
  ·rfl
  ·exact qh a r (i + 1)
theorem z6 {a : α} : ∀ {g : List (α × V)} {n i : Nat} {v : V}, dx a g n = some (i, v) → n ≤ i ∧ g[i - n]? = some (a, v)
 | [], _, _, _, h => by simp [dx] at h
 | e :: r, n, i, v, h => by
  unfold dx at h
  split at h
  ·rename_i he; cases h; subst he; simp
  ·obtain ⟨h1, h2⟩ := z6 h
   refine ⟨by omega, ?_⟩
   rw [show i - n = (i - (n + 1)) + 1 by omega]; simpa using h2
structure KT (P : Program) (T kt et : TypeId) (kv : α → Value) (ky : α → V) : Prop where
 map : cN P T = some (kt, et)
 val : ∀ a, bp (ky a) = some (kv a)
 ok : ∀ a, mX P kt (kv a) = true
 bits : ∀ a, Instr.sameBits 10000 (kv a) (kv a) = true
 find : ∀ (a : α) (g : List (α × V)), kT P kt (kv a) (bC kv 0 g) = some (dx a g 0)
theorem KT.now {P : Program} {kt : TypeId} {kv : α → Value} {d : TypeDesc} (hd : P.underlying kt = some d) (h : ∀ a b, Instr.sameNow d (kv a) (kv b) = some (decide (b = a))) (a : α) (g : List (α × V)) : kT P kt (kv a) (bC kv 0 g) = some (dx a g 0) := by
 have key : ∀ (g : List (α × V)) (n i : Nat), dO d (kv a) (bC kv n g) i = some (dx a g i) := by
  intro g
  induction g with
  | nil => intro n i; rfl
  | cons e r ih =>
   intro n i
   obtain ⟨k, v⟩ := e
   simp only [bC,dO,dx,h]
   by_cases hk : k = a
   ·simp [hk]
   ·rw [decide_eq_false hk, if_neg hk]; exact ih _ _
 unfold kT
 rw [hd]
 dsimp only
 rw [key]
theorem KT.ask {P : Program} {kt : TypeId} {kv : α → Value} {d : TypeDesc} (hd : P.underlying kt = some d) (h0 : ∀ a b, Instr.sameNow d (kv a) (kv b) = none) (h : ∀ a b, aD P (Op.equal kt (kv a) (kv b)) = some (decide (a = b))) (a : α) (g : List (α × V)) : kT P kt (kv a) (bC kv 0 g) = some (dx a g 0) := by
 have key : ∀ (g : List (α × V)) (n i : Nat), iC P kt (kv a) (bC kv n g) i = some (dx a g i) := by
  intro g
  induction g with
  | nil => intro n i; rfl
  | cons e r ih =>
   intro n i
   obtain ⟨k, v⟩ := e
   simp only [bC,iC,dx,h]
   by_cases hk : k = a
   ·simp [hk]
   ·rw [decide_eq_false (fun e => hk e.symm), if_neg hk]; exact ih _ _
 unfold kT
 rw [hd]
 dsimp only
 cases g with
 | nil => rfl
 | cons e r =>
  have : dO d (kv a) (bC kv 0 (e :: r)) 0 = none := by
   obtain ⟨k, v⟩ := e
   simp only [bC,dO,h0]
  rw [this]
  dsimp only
  exact key _ _ _
section
variable {P : Program} {T kt et : TypeId} {kv : α → Value} {ky : α → V}
def lj (a : α) (v : V) (g : List (α × V)) : List (α × V) := match dx a g 0 with
 | none => g ++ [(a, v)]
 | some (i, _) => g.set i (a, v)
theorem KT.put (h : KT P T kt et kv ky) (a : α) (v : V) (g : List (α × V)) {mem : List au} {b : Nat} (hm : mem[b]? = some (.map (bC kv 0 g) g.length)) :
  ch P mem T (.mp b) (ky a) v = some (mem.set b (.map (bC kv 0 (lj a v g)) (lj a v g).length)) := by
 unfold ch
 rw [h.map]
 dsimp only
 rw [h.val]
 dsimp only
 rw [if_pos (h.ok a), hm]
 dsimp only
 unfold insertAt
 rw [h.find]
 unfold lj
 cases hf : dx a g 0 with
 | none =>
  dsimp only
  rw [zZ, Nat.zero_add, List.length_append, List.length_singleton]
 | some p =>
  obtain ⟨i, w⟩ := p
  obtain ⟨-, h2⟩ := z6 hf
  rw [Nat.sub_zero] at h2
  dsimp only
  rw [DN, h2]
  dsimp only [Option.map_some]
  rw [if_pos (h.bits a)]
  dsimp only
  rw [DO _ _ _ _ _ _ (List.getElem?_eq_some_iff.1 h2).1, List.length_set]
theorem KT.get (h : KT P T kt et kv ky) (a : α) (g : List (α × V)) {mem : List au} {b : Nat} (hm : mem[b]? = some (.map (bC kv 0 g) g.length)) {z : V} (hz : zeroV P et = some z) (ok : Bool) :
  c7 P mem T (.mp b) (ky a) ok = some (QG ok (getM a g).isSome ((getM a g).getD z)) := by
 unfold c7
 rw [h.map]
 dsimp only
 rw [h.val]
 dsimp only
 rw [if_pos (h.ok a)]
 unfold od
 dsimp only
 rw [hm]
 dsimp only
 rw [h.find, ← qh a g 0]
 cases hf : dx a g 0 with
 | none => dsimp only; rw [hz]; rfl
 | some p => rfl
end
end
end Go.Proofs.YtnfeacnbgbggfaaGreatDoor
end

section
namespace Go.Proofs.YtnfeacnbgbggfaaGreatDoor
open Go.Eng
variable [aE]
instance lawfulBA : LawfulBEq ByteArray where
 eq_of_beq h := (im _ _).1 h
 rfl := (im _ _).2 rfl
def DQ (a b : fA) : Prop := a.mj < b.mj ∨ (a.mj = b.mj ∧ (a.mn < b.mn ∨ (a.mn = b.mn ∧ a.pt < b.pt)))
def jV (a b : Rl) : Prop := a.path.data.toList < b.path.data.toList ∨ (a.path = b.path ∧ DQ a.ay b.ay)
theorem jV.trans {a b c : Rl} (h1 : jV a b) (h2 : jV b c) : jV a c := by
 rcases h1 with h1 | ⟨h1, DI⟩ <;> rcases h2 with h2 | ⟨h2, Rb⟩
 ·exact .inl (List.lt_trans h1 h2)
 ·exact .inl (h2 ▸ h1)
 ·exact .inl (h1 ▸ h2)
 ·refine .inr ⟨h1.trans h2, ?_⟩
  unfold DQ at *
  omega
theorem nN {a b : ByteArray} (h : a.data.toList < b.data.toList) : a ≠ b := fun e => by
 subst e; exact absurd h (List.lt_irrefl _)
theorem PK (a b : ByteArray) : a = b ∨ a.data.toList < b.data.toList ∨ b.data.toList < a.data.toList := by
 by_cases h : a = b
 ·exact .inl h
 ·rcases Decidable.em (a.data.toList < b.data.toList) with h1 | h1
  ·exact .inr (.inl h1)
  ·refine .inr (.inr ?_)
   have h2 : b.data.toList ≤ a.data.toList := h1
   rcases List.le_iff_lt_or_eq.1 h2 with h3 | h3
   ·exact h3
   ·exact absurd (ByteArray.ext (Array.toList_inj.1 h3)).symm h
theorem LA {a b : Rl} (h1 : ¬ 0 < a.cmp b) (h2 : a.key ≠ b.key) : jV a b := by
 unfold Rl.cmp zq at h1
 rw [HK] at h1
 rcases PK a.path b.path with he | hl | hg
 ·right
  refine ⟨he, ?_⟩
  rw [he] at h1
  have hn : ¬ b.path.data.toList < b.path.data.toList := List.lt_irrefl _
  simp only [decide_eq_true_eq,hn,if_false,if_true,ne_eq,not_true_eq_false] at h1
  have hv : a.ay ≠ b.ay := fun e => h2 (gR.ext' he e)
  have rn : ¬ (a.ay.mj = b.ay.mj ∧ a.ay.mn = b.ay.mn ∧ a.ay.pt = b.ay.pt) := fun ⟨p, q, r⟩ => hv (fA.ext' p q r)
  unfold fA.cmp kL at h1
  unfold DQ
  by_cases q1 : a.ay.mj = b.ay.mj
  ·by_cases q2 : a.ay.mn = b.ay.mn
   ·simp [q1, q2] at h1
    have q3 : a.ay.pt ≠ b.ay.pt := fun e => rn ⟨q1, q2, e⟩
    split at h1 <;> (try split at h1) <;> omega
   ·simp [q1] at h1
    split at h1 <;> (try split at h1) <;> omega
  ·split at h1 <;> (try split at h1) <;> omega
 ·exact .inl hl
 ·have bD : a.path ≠ b.path := fun e => nN hg e.symm
  have Dz : ¬ a.path.data.toList < b.path.data.toList := fun h => absurd (List.lt_trans h hg) (List.lt_irrefl _)
  simp [Dz, bD] at h1
theorem nh : ∀ (l : List Rl) (p : Rl), ey (some p) l = 0 → (p :: l).Pairwise jV
 | [], p, _ => List.pairwise_singleton _ _
 | r :: t, p, h => by
  rw [fo] at h
  by_cases h0 : fY r = 0
  ·rw [if_neg (by simp [h0])] at h
   dsimp only at h
   split at h
   ·omega
   ·rename_i hk
    split at h
    ·omega
    ·rename_i hc
     have ih := nh t r h
     have Rc := LA hc hk
     rw [List.pairwise_cons] at ih
     refine List.Pairwise.cons (fun x hx => ?_) (List.pairwise_cons.2 ih)
     rcases List.mem_cons.1 hx with rfl | hx
     ·exact Rc
     ·exact Rc.trans (ih.1 x hx)
  ·rw [if_pos h0] at h; exact absurd h h0
theorem vR {l : List Rl} (h : ir l = 0) : l.Pairwise jV := by
 unfold ir at h
 split at h
 ·omega
 ·cases l with
  | nil => exact List.Pairwise.nil
  | cons r t =>
   rw [fo] at h
   by_cases h0 : fY r = 0
   ·rw [if_neg (by simp [h0])] at h
    exact nh t r h
   ·rw [if_pos h0] at h; exact absurd h h0
theorem PL {l : List Rl} (h : ir l = 0) : l.length ≤ 256 := by
 unfold ir at h
 split at h
 ·omega
 ·omega
theorem jW {a b : Rl} (h : jV a b) : a.key ≠ b.key := fun e => by
 have e1 : a.path = b.path := congrArg gR.path e
 have e2 : a.ay = b.ay := congrArg gR.ay e
 rcases h with h | ⟨-, h⟩
 ·exact nN h e1
 ·rw [e2] at h; unfold DQ at h; omega
def Ch (ps : List ByteArray) (p : ByteArray) : List ByteArray := if p ∈ ps then ps else ps ++ [p]
def aM (l : List Rl) : List ByteArray := l.foldl (fun ps r => Ch ps r.path) []
theorem ic (l : List Rl) (r : Rl) : aM (l ++ [r]) = Ch (aM l) r.path := by unfold aM; rw [List.foldl_append]; rfl
theorem Ij {ps : List ByteArray} {p q : ByteArray} : q ∈ Ch ps p ↔ q ∈ ps ∨ q = p := by
 unfold Ch
 split
 ·exact ⟨.inl, fun h => h.elim id fun e => e ▸ ‹_›⟩
 ·simp
theorem l0 {α : Type} {p : List α → Prop} (h0 : p []) (hs : ∀ l x, p l → p (l ++ [x])) (l : List α) : p l := by
 have : ∀ m : List α, p m.reverse := fun m => by
  induction m with
  | nil => exact h0
  | cons x r ih => rw [List.reverse_cons]; exact hs _ _ ih
 have h := this l.reverse
 rwa [List.reverse_reverse] at h
theorem l4 {l : List Rl} {p : ByteArray} : p ∈ aM l ↔ ∃ r ∈ l, r.path = p := by
 induction l using l0 with
 | h0 => simp [aM]
 | hs l x ih =>
  rw [ic, Ij, ih]
  constructor
  ·rintro (⟨r, hr, h⟩ | rfl)
   ·exact ⟨r, List.mem_append_left _ hr, h⟩
   ·exact ⟨x, by simp, rfl⟩
  ·rintro ⟨r, hr, h⟩
   rcases List.mem_append.1 hr with hr | hr
   ·exact .inl ⟨r, hr, h⟩
   ·rw [List.mem_singleton] at hr; subst hr; exact .inr h.symm
theorem uS (l : List Rl) : (aM l).Nodup := by
 induction l using l0 with
 | h0 => exact List.nodup_nil
 | hs l x ih =>
  rw [ic]
  unfold Ch
  split
  ·exact ih
  ·rename_i h
   rw [List.nodup_append]
   exact ⟨ih, by simp, fun a ha b hb => by rw [List.mem_singleton] at hb; subst hb; exact fun e => h (e ▸ ha)⟩
def dy (l : List Rl) (p : ByteArray) : List Rl := l.filter fun r => decide (r.path = p)
theorem z7 (l : List Rl) (r : Rl) (p : ByteArray) : dy (l ++ [r]) p = if r.path = p then dy l p ++ [r] else dy l p := by
 unfold dy
 rw [List.filter_append]
 by_cases h : r.path = p <;> simp [h]
def bQ (l : List Rl) (p : ByteArray) : List V := (dy l p).map af
theorem ni {l : List Rl} {r : Rl} {p : ByteArray} (h : r.path ≠ p) : bQ (l ++ [r]) p = bQ l p := by unfold bQ; rw [z7, if_neg h]
theorem tT (l : List Rl) (r : Rl) : bQ (l ++ [r]) r.path = bQ l r.path ++ [af r] := by unfold bQ; rw [z7, if_pos rfl, List.map_append]; rfl
theorem nO {l : List Rl} {p : ByteArray} (h : p ∉ aM l) : bQ l p = [] := by
 unfold bQ dy
 rw [List.filter_eq_nil_iff.2, List.map_nil]
 intro r hr
 simp only [decide_eq_true_eq]
 exact fun e => h (l4.2 ⟨r, hr, e⟩)
def gP (l : List Rl) : List (ByteArray × V) := (aM l).map fun p => (p, .slice (bQ l p))
def gL (q : ByteArray) (x : V) (l : List Rl) : List (ByteArray × V) := (aM l).map fun p => (p, if p = q then x else .slice (bQ l p))
theorem mI (f : ByteArray → V) (q : ByteArray) : ∀ (ps : List ByteArray) (n : Nat), dx q (ps.map fun p => (p, f p)) n = if q ∈ ps then some (n + ps.idxOf q, f q) else none
 | [], _ => by simp [dx]
 | p :: r, n => by
  simp only [List.map_cons,dx]
  by_cases h : p = q
  ·subst h; simp
  ·rw [if_neg h, mI f q r (n + 1)]
   by_cases h2 : q ∈ r
   ·rw [if_pos h2, if_pos (List.mem_cons_of_mem _ h2), List.idxOf_cons, show (p == q) = false by simpa using h]
    simp only [cond_false]
    rw [show n + 1 + r.idxOf q = n + (r.idxOf q + 1) by omega]
   ·rw [if_neg h2, if_neg (by simp [h2]; exact fun e => h e.symm)]
theorem tU (f : ByteArray → V) (q : ByteArray) (ps : List ByteArray) : getM q (ps.map fun p => (p, f p)) = if q ∈ ps then some (f q) else none := by
 rw [← qh q _ 0, mI]
 split <;> rfl
theorem z8 (f : ByteArray → V) {q : ByteArray} {ps : List ByteArray} (hn : ps.Nodup) (h : q ∈ ps) (v : V) : lj q v (ps.map fun p => (p, f p)) = ps.map fun p => (p, if p = q then v else f p) := by
 unfold lj
 rw [mI, if_pos h]
 dsimp only
 apply List.ext_getElem?
 intro i
 rw [List.getElem?_set, List.getElem?_map, List.getElem?_map, Nat.zero_add, List.length_map]
 by_cases hi : ps.idxOf q = i
 ·rw [if_pos hi]
  have aF := List.idxOf_lt_length_of_mem h
  have hq : ps[i]? = some q := by rw [← hi, List.getElem?_eq_getElem aF, List.getElem_idxOf aF]
  rw [if_pos (by omega), hq]; simp
 ·rw [if_neg hi]
  cases hp : ps[i]? with
  | none => rfl
  | some p =>
   have : p ≠ q := fun e => by
    subst e
    have h1 := (List.getElem?_eq_some_iff.1 hp)
    obtain ⟨h2, h3⟩ := h1
    have := hn.idxOf_getElem i h2
    rw [h3] at this
    exact hi this
   simp [this]
theorem xx (f : ByteArray → V) {q : ByteArray} {ps : List ByteArray} (h : q ∉ ps) (v : V) : lj q v (ps.map fun p => (p, f p)) = ps.map (fun p => (p, f p)) ++ [(q, v)] := by
 unfold lj
 rw [mI, if_neg h]
theorem LB {q : ByteArray} {l : List Rl} {r : Rl} (hq : r.path = q) (hl : q ∈ aM l) (x y : V) : lj q y (gL q x l) = gL q y (l ++ [r]) := by
 unfold gL
 rw [z8 _ (uS l) hl, ic, hq, show Ch (aM l) q = aM l from if_pos hl]
 refine List.map_congr_left fun p _ => ?_
 by_cases hp : p = q
 ·simp [hp]
 ·rw [if_neg hp, if_neg hp, if_neg hp, ni (fun e => hp (e.symm.trans hq))]
theorem PM {l : List Rl} {r : Rl} (h : r.path ∉ aM l) (y : V) : lj r.path y (gP l) = gL r.path y (l ++ [r]) := by
 unfold gP gL
 rw [xx _ h, ic, show Ch (aM l) r.path = aM l ++ [r.path] from if_neg h, List.map_append]
 congr 1
 ·refine List.map_congr_left fun p hp => ?_
  have : p ≠ r.path := fun e => h (e ▸ hp)
  rw [if_neg this, ni (fun e => this e.symm)]
 ·simp
theorem PN {q : ByteArray} {l : List Rl} (hl : q ∈ aM l) (x : V) : getM q (gL q x l) = some x := by
 unfold gL
 rw [tU, if_pos hl, if_pos rfl]
theorem Aa {q : ByteArray} {l : List Rl} (hl : q ∉ aM l) : getM q (gP l) = none := by
 unfold gP
 rw [tU, if_neg hl]
theorem Ik {l : List Rl} {p r : Rl} (h : (l ++ [p]).Pairwise jV) (Rc : jV p r) (bD : p.path ≠ r.path) : r.path ∉ aM (l ++ [p]) := fun hm => by
 obtain ⟨x, hx, he⟩ := l4.1 hm
 rcases Rc with Rc | ⟨e, -⟩
 ·rcases List.mem_append.1 hx with hx | hx
  ·have h1 := (List.pairwise_append.1 h).2.2 x hx p (by simp)
   rcases h1 with h1 | ⟨e, -⟩
   ·exact nN (List.lt_trans h1 Rc) he
   ·exact bD (e ▸ he)
  ·rw [List.mem_singleton] at hx; subst hx; exact bD he
 ·exact bD e
def gK (l : List Rl) : List (gR × V) := l.map fun r => (r.key, af r)
theorem nP {α : Type} [DecidableEq α] {a : α} : ∀ {g : List (α × V)} {n : Nat}, (∀ e ∈ g, e.1 ≠ a) → dx a g n = none
 | [], _, _ => rfl
 | e :: r, n, h => by
  unfold dx
  rw [if_neg (h e (by simp))]
  exact nP fun e' he => h e' (by simp [he])
theorem LC {l : List Rl} {r : Rl} (h : ∀ x ∈ l, x.key ≠ r.key) : lj r.key (af r) (gK l) = gK (l ++ [r]) := by
 unfold lj gK
 rw [nP (fun e he => by obtain ⟨x, hx, rfl⟩ := List.mem_map.1 he; exact h x hx), List.map_append]
 rfl
end Go.Proofs.YtnfeacnbgbggfaaGreatDoor
end

section
namespace Go.Proofs.YtnfeacnbgbggfaaGreatDoor
open Go.Eng
variable [aE]
set_option maxHeartbeats 4000000
set_option maxRecDepth 100000
def mT (s : gR) : V := .agg [str s.path, num s.ay.mj, num s.ay.mn, num s.ay.pt]
theorem Fv (u : gR) : mX Tryz.prog 54 (aN u) = true := by
 obtain ⟨a, b, c, d⟩ := u
 kernel_rfl
theorem Il (u : gR) : Instr.sameBits 10000 (aN u) (aN u) = true := by
 have h : ∀ s : ByteArray, Instr.sameBits 9999 (.string s) (.string s) = true := fun s => (im s s).2 rfl
 have h2 : ∀ n : Int, Instr.sameBits 9999 (.int .i64 n) (.int .i64 n) = true := fun n => by
  show Instr.sameBits (9998 + 1) _ _ = true
  simp [Instr.sameBits]
 show Instr.sameBits (9999 + 1) (aN u) (aN u) = true
 unfold aN
 rw [Instr.sameBits]
 simp [h, h2]
theorem Nf {T et : TypeId} (h : cN Tryz.prog T = some (54, et)) : KT Tryz.prog T 54 et aN mT :=
 ⟨h, fun _ => rfl, Fv, Il, KT.ask Tryz.underlying54 (fun a b => by unfold aN; rfl) S0⟩
def strVal (s : ByteArray) : Value := .string s
theorem Im {T et : TypeId} (h : cN Tryz.prog T = some (9, et)) : KT Tryz.prog T 9 et strVal str :=
 ⟨h, fun _ => rfl, fun a => by unfold mX; rw [Tryz.underlying9], fun a => (im a a).2 rfl,
  KT.now Tryz.underlying9 fun a b => by
   show some (a == b) = some (decide (b = a))
   congr 1
   rw [Bool.eq_iff_iff, im, decide_eq_true_eq]
   exact ⟨fun h => h.symm, fun h => h.symm⟩⟩
theorem Tw : cN Tryz.prog 79 = some (54, 40) := by kernel_rfl
theorem Tx : cN Tryz.prog 80 = some (9, 22) := by kernel_rfl
theorem Ty : cN Tryz.prog 85 = some (54, 4) := by kernel_rfl
theorem Tz : cN Tryz.prog 92 = some (9, 40) := by kernel_rfl
theorem TA : cN Tryz.prog 93 = some (9, 4) := by kernel_rfl
theorem Io : zeroV Tryz.prog 22 = some (.sc (.slice none 0 0)) := by kernel_rfl
theorem Ng : zeroV Tryz.prog 4 = some (bl false) := by kernel_rfl
theorem tV : zeroV Tryz.prog 40 = some (.agg [str ⟨#[]⟩, num 0, num 0, num 0, .sc (.slice none 0 0), str ⟨#[]⟩, str ⟨#[]⟩, str ⟨#[]⟩, bl false]) := by kernel_rfl
theorem PO : KT Tryz.prog 79 54 40 aN mT := Nf Tw
theorem PQ : KT Tryz.prog 80 9 22 strVal str := Im Tx
theorem TB : KT Tryz.prog 85 54 4 aN mT := Nf Ty
theorem LD : KT Tryz.prog 92 9 40 strVal str := Im Tz
theorem TC : KT Tryz.prog 93 9 4 strVal str := Im TA
theorem l5 (n : Nat) (r : Rl) : ai n (af r) = true := by simp [af, ag, ah, ai, dh]
theorem ab (n : Nat) (l : List Rl) : ((bC aN 0 (gK l)).all fun e => ai n e.2.2) = true := by
 rw [kP aN (ai n)]
 unfold gK
 simp [l5]
theorem bR {n b : Nat} (h : b < n) (v o k : Nat) (q : ByteArray) (l : List Rl) : ((bC strVal 0 (gL q (.ms b v o k) l)).all fun e => ai n e.2.2) = true := by
 rw [kP strVal (ai n)]
 unfold gL
 rw [List.all_map, List.all_eq_true]
 intro p _
 simp only [Function.comp]
 split
 ·simpa [ai] using h
 ·rfl
theorem ae (n : Nat) (l : List Rl) : ((bC strVal 0 (gP l)).all fun e => ai n e.2.2) = true := by
 rw [kP strVal (ai n)]
 unfold gP
 rw [List.all_map, List.all_eq_true]
 intro p _
 rfl
theorem mJ (q : ByteArray) (x : V) (l : List Rl) : (gL q x l).length = (aM l).length := by simp [gL]
theorem qi (l : List Rl) : (gP l).length = (aM l).length := by simp [gP]
theorem Ab {α : Type} {mem : List au} {f g : α → V} : ∀ {ps : List α}, (∀ p ∈ ps, er mem (f p) = some (g p)) → cj mem (ps.map f) = some (ps.map g)
 | [], _ => rfl
 | p :: r, h => by
  have ih := Ab (mem := mem) (f := f) (g := g) (ps := r) fun q hq => h q (List.mem_cons_of_mem _ hq)
  simp only [List.map_cons,cj,h p (by simp),ih]
theorem tW (B0 B1 B2 B3 B4 : au) (rest : List au) (v e : Nat) (rs : List V) : ∀ (keys : List (Nat × Nat)), (∀ k ∈ keys, k = (5, v)) → ∀ B5, (B5 = .rows v e rs ∨ B5 = .mO v e rs) →
  ∃ WL, (WL = .rows v e rs ∨ WL = .mO v e rs) ∧ bL (B0 :: B1 :: B2 :: B3 :: B4 :: B5 :: rest) keys = B0 :: B1 :: B2 :: B3 :: B4 :: WL :: rest
 | [], _, B5, h => ⟨B5, h, rfl⟩
 | k :: r, hk, B5, h => by
  obtain rfl := hk k (by simp)
  unfold bL
  rw [List.foldl_cons]
  rcases h with rfl | rfl
  ·have h1 : sE (B0 :: B1 :: B2 :: B3 :: B4 :: .rows v e rs :: rest) (5, v) = B0 :: B1 :: B2 :: B3 :: B4 :: .mO v e rs :: rest := by simp [sE]
   rw [h1]
   exact tW B0 B1 B2 B3 B4 rest v e rs r (fun k eQ => hk k (by simp [eQ])) _ (.inr rfl)
  ·have h1 : sE (B0 :: B1 :: B2 :: B3 :: B4 :: .mO v e rs :: rest) (5, v) = B0 :: B1 :: B2 :: B3 :: B4 :: .mO v e rs :: rest := by simp [sE]
   rw [h1]
   exact tW B0 B1 B2 B3 B4 rest v e rs r (fun k eQ => hk k (by simp [eQ])) _ (.inr rfl)
theorem Ip (l : List Rl) (q : ByteArray) (v e : Nat) (B0 B1 B2 B3 B4 : au) (rest : List au) :
  cj (B0 :: B1 :: B2 :: B3 :: B4 :: .rows v e (bQ l q) :: rest) ((bC strVal 0 (gL q (.ms 5 v 0 (bQ l q).length) l)).map fun e => e.2.2) = some ((aM l).map fun p => .slice (bQ l p)) ∧
  ∃ B5, (∀ n, aB n B5 = true) ∧ (∀ σ, cp σ B5 = B5) ∧ bL (B0 :: B1 :: B2 :: B3 :: B4 :: .rows v e (bQ l q) :: rest) (((bC strVal 0 (gL q (.ms 5 v 0 (bQ l q).length) l)).map fun e => e.2.2).flatMap ck) = B0 :: B1 :: B2 :: B3 :: B4 :: B5 :: rest := by
 rw [zY]
 unfold gL
 rw [List.map_map]
 constructor
 ·refine Ab fun p _ => ?_
  simp only [Function.comp]
  split
  ·rename_i h; subst h
   simp [er, bz]
  ·rfl
 ·obtain ⟨B5, h1, h2⟩ := tW B0 B1 B2 B3 B4 rest v e (bQ l q) (((aM l).map ((fun x => x.2) ∘ fun p => (p, if p = q then V.ms 5 v 0 (bQ l q).length else V.slice (bQ l p)))).flatMap ck) (fun k hk => by
   obtain ⟨x, hx, hk⟩ := List.mem_flatMap.1 hk
   obtain ⟨p, -, rfl⟩ := List.mem_map.1 hx
   simp only [Function.comp] at hk
   split at hk
   ·simpa [ck, eg] using hk
   ·simp [ck, eg] at hk) _ (.inl rfl)
  exact ⟨B5, fun n => by rcases h1 with rfl | rfl <;> rfl, fun σ => by rcases h1 with rfl | rfl <;> rfl, h2⟩
theorem DR (l : List Rl) (q : ByteArray) (x : V) : tl (bC strVal 0 (gL q x l)) ((aM l).map fun p => .slice (bQ l p)) = bC strVal 0 (gP l) := by
 rw [DP]
 congr 1
 unfold gL gP
 rw [List.zipWith_map, List.zipWith_self]
theorem o8 {α : Type} (kv : α → Value) (σ : Nat → Nat) (c : Nat) : ∀ (g : List (α × V)) (n : Nat), cp σ (.map (bC kv n g) c) = .map (bC kv n (g.map fun e => (e.1, bj σ e.2))) c := by
 have key : ∀ (g : List (α × V)) (n : Nat), (bC kv n g).map (fun e => (e.1, e.2.1, bj σ e.2.2)) = bC kv n (g.map fun e => (e.1, bj σ e.2)) := by
  intro g
  induction g with
  | nil => intro n; rfl
  | cons e r ih => intro n; simp only [bC,List.map_cons,ih]
 intro g n
 show au.map _ _ = _
 rw [key]
theorem DS (σ : Nat → Nat) (r : Rl) : bj σ (af r) = af r := EX σ (l5 0 r)
theorem r8 (σ : Nat → Nat) (l : List Rl) (c : Nat) : cp σ (.map (bC aN 0 (gK l)) c) = .map (bC aN 0 (gK l)) c := by
 rw [o8]
 congr 2
 unfold gK
 rw [List.map_map]
 exact List.map_congr_left fun r _ => by simp only [Function.comp,DS]
theorem LF (σ : Nat → Nat) (q : ByteArray) (x : V) (l : List Rl) (c : Nat) : cp σ (.map (bC strVal 0 (gL q x l)) c) = .map (bC strVal 0 (gL q (bj σ x) l)) c := by
 rw [o8]
 congr 2
 unfold gL
 rw [List.map_map]
 refine List.map_congr_left fun p _ => ?_
 simp only [Function.comp]
 split <;> rfl
theorem DT (σ : Nat → Nat) (l : List Rl) (c : Nat) : cp σ (.map (bC strVal 0 (gP l)) c) = .map (bC strVal 0 (gP l)) c := by
 rw [o8]
 congr 2
 unfold gP
 rw [List.map_map]
 exact List.map_congr_left fun p _ => rfl
def eZ (l : List Rl) : ByteArray := match l.getLast? with | some r => r.path | none => ⟨#[]⟩
theorem nQ (l : List Rl) (r : Rl) : eZ (l ++ [r]) = r.path := by simp [eZ]
theorem iw {l : List Rl} {i : Nat} {r : Rl} (h : l[i]? = some r) : l.take (i + 1) = l.take i ++ [r] := by rw [List.take_add_one, h]; rfl
theorem Ac {l : List Rl} (hs : l.Pairwise jV) {i : Nat} {r : Rl} (h : l[i]? = some r) : (r.path = eZ (l.take i) ∧ r.path ∈ aM (l.take i)) ∨ r.path ∉ aM (l.take i) := by
 have aF := (List.getElem?_eq_some_iff.1 h).1
 rcases Nat.eq_zero_or_pos i with rfl | hi
 ·exact .inr (by simp [aM])
 ·obtain ⟨j, rfl⟩ : ∃ j, i = j + 1 := ⟨i - 1, by omega⟩
  have hp : l[j]? = some l[j] := List.getElem?_eq_getElem (by omega)
  have ht : (l.take (j + 1)).Pairwise jV := List.Pairwise.sublist (List.take_sublist _ _) hs
  have ZJ : jV l[j] r := by
   have h1 := List.pairwise_iff_getElem.1 hs j (j + 1) (by omega) aF (by omega)
   rwa [(List.getElem?_eq_some_iff.1 h).2] at h1
  rw [iw hp] at ht ⊢
  rw [nQ]
  by_cases he : r.path = l[j].path
  ·exact .inl ⟨he, l4.2 ⟨l[j], List.mem_append_right _ (List.mem_singleton.2 rfl), he.symm⟩⟩
  ·exact .inr (Ik ht ZJ fun e => he e.symm)
theorem LG {l : List Rl} (hs : l.Pairwise jV) {i : Nat} {r : Rl} (h : l[i]? = some r) : ∀ x ∈ l.take i, x.key ≠ r.key := fun x hx => by
 obtain ⟨aF, hr⟩ := List.getElem?_eq_some_iff.1 h
 obtain ⟨j, hj, rfl⟩ := List.getElem_of_mem hx
 rw [List.length_take] at hj
 rw [List.getElem_take]
 have h1 := List.pairwise_iff_getElem.1 hs j i (by omega) aF (by omega)
 rw [hr] at h1
 exact jW h1
theorem LH {l : List Rl} (hs : l.Pairwise jV) {i : Nat} {r : Rl} (h : l[i]? = some r) (B0 B1 : au) (rest : List au) :
  ch Tryz.prog (B0 :: B1 :: .map (bC aN 0 (gK (l.take i))) (gK (l.take i)).length :: rest) 79 (.mp 2) (mT r.key) (af r) = some (B0 :: B1 :: .map (bC aN 0 (gK (l.take i ++ [r]))) (gK (l.take i ++ [r])).length :: rest) := by
 have := PO.put r.key (af r) (gK (l.take i)) (mem := B0 :: B1 :: .map (bC aN 0 (gK (l.take i))) (gK (l.take i)).length :: rest) (b := 2) rfl
 rw [LC (LG hs h)] at this
 exact this
theorem Iq {g : List (ByteArray × V)} {q : ByteArray} {x : V} {c : Nat} (hc : c = g.length) (h : (getM q g).getD (.sc (.slice none 0 0)) = x) (B0 B1 B2 : au) (rest : List au) :
  c7 Tryz.prog (B0 :: B1 :: B2 :: .map (bC strVal 0 g) c :: rest) 80 (.mp 3) (str q) false = some x := by
 subst hc
 rw [PQ.get q g (b := 3) rfl Io, h]; rfl
theorem Ir {g g' : List (ByteArray × V)} {q : ByteArray} {y : V} {c c' : Nat} (hc : c = g.length) (h : lj q y g = g') (Mv : c' = g'.length) (B0 B1 B2 : au) (rest : List au) :
  ch Tryz.prog (B0 :: B1 :: B2 :: .map (bC strVal 0 g) c :: rest) 80 (.mp 3) (str q) y = some (B0 :: B1 :: B2 :: .map (bC strVal 0 g') c' :: rest) := by
 subst hc; subst Mv; subst h
 exact PQ.put q y g (b := 3) rfl
theorem Is (l : List Rl) (p : ByteArray) (i : Nat) : (bQ (l.take i) p).length ≤ l.length := by
 unfold bQ dy
 rw [List.length_map]
 exact Nat.le_trans (List.length_filter_le _ _) (by rw [List.length_take]; omega)
def aq (l : List Rl) : List Rl := if ir l = 0 then l else []
def LI (l : List Rl) (I : List V) : List au := [.box [.slice (l.map af), .slice I], .box [.mp 2, .mp 3], .map (bC aN 0 (gK (aq l))) (gK (aq l)).length, .map (bC strVal 0 (gP (aq l))) (aM (aq l)).length]
theorem vS (l : List Rl) (I : List V) : (LI l I).all (aB 4) = true := by
 unfold LI
 simp only [List.all_cons,List.all_nil,pU,w6,ab,ae,ai,Bool.and_true,decide_eq_true_eq,Bool.true_and]
 decide
theorem LJ {l : List Rl} (h : ir l ≠ 0) (I : List V) : LI l I = [.box [.slice (l.map af), .slice I], .box [.mp 2, .mp 3], .map [] 0, .map [] 0] := by
 unfold LI aq
 rw [if_neg h]; rfl
theorem PR {l : List Rl} (h : ir l = 0) (I : List V) : LI l I = [.box [.slice (l.map af), .slice I], .box [.mp 2, .mp 3], .map (bC aN 0 (gK l)) (gK l).length, .map (bC strVal 0 (gP l)) (aM l).length] := by
 unfold LI aq
 rw [if_pos h]
end Go.Proofs.YtnfeacnbgbggfaaGreatDoor
end

section
namespace Go.Proofs.YtnfeacnbgbggfaaGreatDoor
open Go.Eng
open Nat renaming reduceAdd → zA, reduceLT → zB, reduceLeDiff → zC, reduceMul → zD, reduceEqDiff → zE, reduceSub → zF
variable [aE]
set_option maxHeartbeats 4000000
set_option maxRecDepth 100000
theorem Ad (hG : aE.g = some 0) (l : List Rl) (I : List V) (hb : F8 l) : ∃ r_ m_, (fun r m => r = .bt [.agg [.mp 2, .mp 3], num (ir l)] ∧ m = LI l I) r_ m_ ∧ aR Tryz.prog 46 [dw l I] ([]) r_ m_ := by
 refine F4 tt_ok [9,10,11] 43 [.cell 2 82, .tmp 3] (4) (by decide) (fn := Tryz.f46) Tryz.func46 rfl Tryz.call46 ⟨rfl, rfl, by simp⟩ fun K hK => ?_
 simp only [dw,bP]
 have JM := hb.1
 have Oe := vS l I
 simp only [ab,bR (show 5 < 6 by decide),ae,List.length_map,go_sem,reduceIte,zA,zB,zC,zD,zE,zF,reduceCtorEq]
 refine cF (by have h := tK hG l I hb; simp only [dw,bP] at h; exact h) ?_
 rintro _ rfl
 simp only [ab,bR (show 5 < 6 by decide),ae,List.length_map,go_sem,reduceIte,zA,zB,zC,zD,zE,zF,reduceCtorEq]
 refine aL (fun eY => ?_) (fun eY => ?_)
 ·have ca : ir l ≠ 0 := by simpa using eY
  have WM := LJ ca I
  have hr : V.bt [.agg [.mp 2, .mp 3], num (ir l)] = .bt [.agg [.mp 2, .mp 3], num (ir l)] := rfl
  simp only [ab,bR (show 5 < 6 by decide),ae,List.length_map,go_sem,reduceIte,zA,zB,zC,zD,zE,zF,reduceCtorEq]
  exact hK _ _ ⟨hr, WM.symm⟩
 ·have ca : ir l = 0 := by simpa using eY
  have WM := PR ca I
  have hr : V.bt [.agg [.mp 2, .mp 3], num 0] = .bt [.agg [.mp 2, .mp 3], num (ir l)] := by rw [ca]
  have hs := vR ca
  simp only [ab,bR (show 5 < 6 by decide),ae,List.length_map,go_sem,reduceIte,zA,zB,zC,zD,zE,zF,reduceCtorEq]
  refine HC 0 9 ?_
  refine cT tt_ok [9,10,11] (fun a : Nat × Nat => [(2, .ptr 1 0), (4, .ptr 4 0), (18, .slice (l.map af)), (19, num l.length), (20, num a.1)]) (fun a : Nat × Nat => [.box [.slice (l.map af), .slice I], .box [.sc (.map none), .sc (.map none)], .map (bC aN 0 (gK (l.take a.1))) (gK (l.take a.1)).length, .map (bC strVal 0 (gL (eZ (l.take a.1)) (.ms 5 a.2 0 (bQ (l.take a.1) (eZ (l.take a.1))).length) (l.take a.1))) (aM (l.take a.1)).length, .box [.mp 2, .mp 3], .rows a.2 9 (bQ (l.take a.1) (eZ (l.take a.1)))]) (fun a => l.length - a.1) (fun a => a.1 ≤ l.length) ((0, 0)) 6 (bd (by omega) (by simp only [ab,bR (show 5 < 6 by decide),ae,List.length_map,Int.cast_ofNat_Int,go_sem,reduceIte,zA,zB,zC,zD,zE,zF,reduceCtorEq] <;> rfl)) (Nat.zero_le _) ?_
  rintro ⟨i, v⟩ hi
  try dsimp only at hi ⊢
  intro Z1 cE
  simp only [ab,bR (show 5 < 6 by decide),ae,List.length_map,go_sem,reduceIte,zA,zB,zC,zD,zE,zF,reduceCtorEq]
  refine aL (fun lX => ?_) (fun lX => ?_)
  ·have aF : i < l.length := by simpa using lX
   have hw := aC i (by omega)
   obtain ⟨x, hx⟩ : ∃ x, l[i]? = some x := ⟨_, List.getElem?_eq_getElem aF⟩
   have uq := iw hx
   have nw := fun B0 B1 rest => LH hs hx B0 B1 rest
   simp only [mT,af,ag,ah] at nw
   simp only [ab,bR (show 5 < 6 by decide),ae,hw,List.getElem?_map,hx,af,ag,ah,nw,List.length_map,go_sem,reduceIte,zA,zB,zC,zD,zE,zF,reduceCtorEq]
   refine bH tt_ok aK [⟨.n, 0, [], [], []⟩, ⟨.r, 0, [], [], []⟩, ⟨.r, 0, [], [], []⟩, ⟨.n, 0, [], [], []⟩, ⟨.r, 0, [], [], []⟩, ⟨.w, 0, [], [], []⟩] 1 (by kernel_rfl) ?_
   simp only [ab,bR (show 5 < 6 by decide),ae,hw,List.getElem?_map,hx,af,ag,ah,nw,List.length_map,go_sem,reduceIte,zA,zB,zC,zD,zE,zF,reduceCtorEq]
   refine cG (by have h := kM x; simp only [af,ag,ah,bh] at h; exact h) ?_
   rintro _ rfl
   rcases Ac hs hx with ⟨hq, Lw⟩ | WN
   ·simp only [ab,bR (show 5 < 6 by decide),ae,hw,List.getElem?_map,hx,af,ag,ah,nw,List.length_map,go_sem,reduceIte,zA,zB,zC,zD,zE,zF,reduceCtorEq]
    have fJ : bM [V.agg [str x.path, num x.ay.mj, num x.ay.mn, num x.ay.pt, V.slice (x.reqs.map ak), str x.ar, str x.ei, str x.ce, bl x.yk]] 0 9 = true := rfl
    have fS : (bQ (l.take i) (eZ (l.take i))).length + 1 ≤ 34359738368 := by have := Is l (eZ (l.take i)) i; omega
    have TD := fun B0 B1 B2 rest => Iq (g := gL (eZ (l.take i)) (.ms 5 v 0 (bQ (l.take i) (eZ (l.take i))).length) (l.take i)) (q := x.path) (x := .ms 5 v 0 (bQ (l.take i) (eZ (l.take i))).length) (mJ _ _ _).symm (by rw [hq, PN (hq ▸ Lw), Option.getD_some]) B0 B1 B2 rest
    have oa := fun y B0 B1 B2 rest => Ir (g := gL (eZ (l.take i)) (.ms 5 v 0 (bQ (l.take i) (eZ (l.take i))).length) (l.take i)) (g' := gL x.path y (l.take i ++ [x])) (q := x.path) (y := y) (mJ _ _ _).symm (by rw [hq]; exact LB hq (hq ▸ Lw) _ y) (mJ _ _ _).symm B0 B1 B2 rest
    have bW : bQ (l.take i ++ [x]) x.path = bQ (l.take i) (eZ (l.take i)) ++ [V.agg [str x.path, num x.ay.mj, num x.ay.mn, num x.ay.pt, V.slice (x.reqs.map ak), str x.ar, str x.ei, str x.ce, bl x.yk]] := by rw [tT, ← hq]; rfl
    have pC : (bQ (l.take i) (eZ (l.take i)) ++ [V.agg [str x.path, num x.ay.mj, num x.ay.mn, num x.ay.pt, V.slice (x.reqs.map ak), str x.ar, str x.ei, str x.ce, bl x.yk]]).length = (bQ (l.take i ++ [x]) x.path).length := by rw [bW]
    refine bH tt_ok aK [⟨.n, 0, [], [], []⟩, ⟨.b, 0, [], [0], []⟩, ⟨.n, 0, [], [], []⟩, ⟨.b, 0, [], [2], []⟩, ⟨.n, 0, [], [], []⟩, ⟨.r, 0, [], [4], []⟩, ⟨.n, 0, [], [], []⟩, ⟨.r, 0, [], [6], []⟩, ⟨.r, 0, [], [4,5,6,7], []⟩, ⟨.r, 0, [], [], []⟩, ⟨.n, 0, [], [9], []⟩, ⟨.w, 0, [], [4,5,6,7,8,9,10], []⟩, ⟨.w, 1, [], [0,1,2,3,4,5,6,7,8,9,10,11], []⟩] 2 (by kernel_rfl) ?_
    simp only [ab,bR (show 5 < 6 by decide),ae,hw,List.getElem?_map,hx,af,ag,ah,nw,TD,oa,fJ,fS,List.length_cons,List.length_nil,Nat.zero_add,List.length_map,go_sem,reduceIte,zA,zB,zC,zD,zE,zF,reduceCtorEq]
    refine uM tt_ok ?_
    simp only [ab,bR (show 5 < 6 by decide),ae,hw,List.getElem?_map,hx,af,ag,ah,nw,TD,oa,fJ,fS,List.length_cons,List.length_nil,Nat.zero_add,List.length_map,go_sem,reduceIte,zA,zB,zC,zD,zE,zF,reduceCtorEq]
    refine cE _ ⟨(i + 1, v + 1), ?_, ?_, bd (by omega) (by (simp only [uq,nQ,bW,← pC,hw,ab,bR (show 5 < 6 by decide),ae,go_sem,reduceIte,zA,zB,zC,zD,zE,zF,reduceCtorEq]))⟩
    ·exact aF
    ·dsimp only; omega
   ·simp only [ab,bR (show 5 < 6 by decide),ae,hw,List.getElem?_map,hx,af,ag,ah,nw,List.length_map,go_sem,reduceIte,zA,zB,zC,zD,zE,zF,reduceCtorEq]
    have fJ : bM [V.agg [str x.path, num x.ay.mj, num x.ay.mn, num x.ay.pt, V.slice (x.reqs.map ak), str x.ar, str x.ei, str x.ce, bl x.yk]] 0 9 = true := rfl
    have fS : (0 : Nat) + 1 ≤ 34359738368 := by decide
    obtain ⟨UD, B5, XZ, TE, WO⟩ := Ip (l.take i) (eZ (l.take i)) v 9 (.box [.slice (l.map af), .slice I]) (.box [.sc (.map none), .sc (.map none)]) (.map (bC aN 0 (gK (l.take i ++ [x]))) (gK (l.take i ++ [x])).length) (.map (bC strVal 0 (gL (eZ (l.take i)) (.ms 5 v 0 (bQ (l.take i) (eZ (l.take i))).length) (l.take i))) (aM (l.take i)).length) (.box [.mp 2, .mp 3]) [.box [str x.path, num x.ay.mj, num x.ay.mn, num x.ay.pt, V.slice (x.reqs.map ak), str x.ar, str x.ei, str x.ce, bl x.yk], .hole]
    refine Ds (k := 3) rfl UD ?_
    simp only [WO,DR,List.set_cons_succ,List.set_cons_zero]
    have TD := fun B0 B1 B2 rest => Iq (g := gP (l.take i)) (q := x.path) (x := .sc (.slice none 0 0)) (qi _).symm (by rw [Aa WN, Option.getD_none]) B0 B1 B2 rest
    have oa := fun y B0 B1 B2 rest => Ir (g := gP (l.take i)) (g' := gL x.path y (l.take i ++ [x])) (q := x.path) (y := y) (qi _).symm (PM WN y) (mJ _ _ _).symm B0 B1 B2 rest
    have bW : bQ (l.take i ++ [x]) x.path = [V.agg [str x.path, num x.ay.mj, num x.ay.mn, num x.ay.pt, V.slice (x.reqs.map ak), str x.ar, str x.ei, str x.ce, bl x.yk]] := by rw [tT, nO WN]; rfl
    have pC : [V.agg [str x.path, num x.ay.mj, num x.ay.mn, num x.ay.pt, V.slice (x.reqs.map ak), str x.ar, str x.ei, str x.ce, bl x.yk]].length = 1 := rfl
    refine bH tt_ok aK [⟨.n, 0, [], [], []⟩, ⟨.b, 0, [], [0], []⟩, ⟨.n, 0, [], [], []⟩, ⟨.b, 0, [], [2], []⟩, ⟨.n, 0, [], [], []⟩, ⟨.r, 0, [], [4], []⟩, ⟨.n, 0, [], [], []⟩, ⟨.r, 0, [], [6], []⟩, ⟨.r, 0, [], [4,5,6,7], []⟩, ⟨.r, 0, [], [], []⟩, ⟨.n, 0, [], [9], []⟩, ⟨.w, 0, [], [4,5,6,7,8,9,10], []⟩, ⟨.w, 1, [], [0,1,2,3,4,5,6,7,8,9,10,11], []⟩] 2 (by kernel_rfl) ?_
    simp only [ab,bR (show 5 < 6 by decide),ae,hw,List.getElem?_map,hx,af,ag,ah,nw,TD,oa,fJ,fS,List.length_cons,List.length_nil,Nat.zero_add,List.length_map,go_sem,reduceIte,zA,zB,zC,zD,zE,zF,reduceCtorEq]
    refine SQ 5 8 (by omega) (by omega) (by simp) (by simp) (by simp [bY, cQ, ai, dh]) (by simp [pU, w6, KG, XZ, ab, bR, bY, cQ, ai, dh, KH, KI]) ?_
    simp only [qW,r8,LF,TE,List.map_cons,List.map_nil,List.set_cons_succ,List.set_cons_zero,List.getD_cons_succ,List.getD_cons_zero]
    simp only [cp,bZ,bj,show swp 5 8 8 = 5 from rfl,show swp 5 8 0 = 0 from rfl,show swp 5 8 1 = 1 from rfl,show swp 5 8 2 = 2 from rfl,show swp 5 8 3 = 3 from rfl,show swp 5 8 4 = 4 from rfl,show swp 5 8 6 = 6 from rfl,show swp 5 8 7 = 7 from rfl]
    refine uM tt_ok ?_
    simp only [ab,bR (show 5 < 6 by decide),ae,hw,List.getElem?_map,hx,af,ag,ah,nw,TD,oa,fJ,fS,List.length_cons,List.length_nil,Nat.zero_add,List.length_map,go_sem,reduceIte,zA,zB,zC,zD,zE,zF,reduceCtorEq]
    refine cE _ ⟨(i + 1, 0), ?_, ?_, bd (by omega) (by (simp only [uq,nQ,bW,pC,hw,ab,bR (show 5 < 6 by decide),ae,go_sem,reduceIte,zA,zB,zC,zD,zE,zF,reduceCtorEq]))⟩
    ·exact aF
    ·dsimp only; omega
  ·have dg : ¬ i < l.length := by simpa using lX
   have wz : i = l.length := by omega
   subst wz
   rw [List.take_length]
   obtain ⟨UD, B5, XZ, TE, WO⟩ := Ip l (eZ l) v 9 (.box [.slice (l.map af), .slice I]) (.box [.sc (.map none), .sc (.map none)]) (.map (bC aN 0 (gK l)) (gK l).length) (.map (bC strVal 0 (gL (eZ l) (.ms 5 v 0 (bQ l (eZ l)).length) l)) (aM l).length) (.box [.mp 2, .mp 3]) []
   simp only [ab,bR (show 5 < 6 by decide),ae,List.length_map,go_sem,reduceIte,zA,zB,zC,zD,zE,zF,reduceCtorEq]
   refine Ds (k := 3) rfl UD ?_
   simp only [WO,DR,List.set_cons_succ,List.set_cons_zero]
   refine QY tt_ok [9,10,11] ?_
   simp only [ab,bR (show 5 < 6 by decide),ae,List.length_map,go_sem,reduceIte,zA,zB,zC,zD,zE,zF,reduceCtorEq]
   exact hK _ _ ⟨hr, WM.symm⟩
end Go.Proofs.YtnfeacnbgbggfaaGreatDoor
end

section
namespace Go.Proofs.YtnfeacnbgbggfaaGreatDoor
open Go.Eng
variable [aE]
set_option maxHeartbeats 4000000
set_option maxRecDepth 100000
theorem cr (l : List Rq) : bM (l.map ak) 0 2 = true := by
 cases l <;> rfl
end Go.Proofs.YtnfeacnbgbggfaaGreatDoor
end

section
namespace Go.Proofs.YtnfeacnbgbggfaaGreatDoor
open Go.Eng
variable [aE]
set_option maxHeartbeats 4000000
set_option maxRecDepth 100000
def TF (k : Nat) (l : List Rl) (I : List V) : List au := [.box [.slice (l.map af), .slice I], .box [.mp (k + 2), .mp (k + 3)], .map (bC aN 0 (gK (aq l))) (gK (aq l)).length, .map (bC strVal 0 (gP (aq l))) (aM (aq l)).length]
theorem l6 (hG : aE.g = some 0) (l : List Rl) (I : List V) (hb : F8 l) (M : List au) : ∃ r_ m_, (fun r m => r = .bt [.agg [.mp (M.length + 2), .mp (M.length + 3)], num (ir l)] ∧ m = M ++ TF M.length l I) r_ m_ ∧ aR Tryz.prog 46 [dw l I] M r_ m_ := by
 obtain ⟨r, m, ⟨rfl, rfl⟩, h⟩ := Ad hG l I hb
 have h2 := h.zd M (fun j => M.length + j) 0 rfl (by simp [dw, bP, ai, dh]) rfl (by simp [ai, dh, LI]) (vS l I) (Nat.zero_le _) (fun i B hi => by simp at hi) (fun i j hi => by omega) (fun j _ => by omega)
 refine ⟨_, _, ⟨?_, ?_⟩, by simpa only [bZ, bj, dw, bP] using h2⟩
 ·simp only [bZ,bj]
 ·unfold mQ LI TF
  simp only [F6,gh,List.map_cons,List.map_nil,r8,DT]
  simp only [cp,bZ,bj]
def Ci (l : List Rl) (s : gR) : Option Rl := (aq l).find? fun r => decide (r.key = s)
def dK : Rl := ⟨⟨#[]⟩, ⟨0, 0, 0⟩, [], ⟨#[]⟩, ⟨#[]⟩, ⟨#[]⟩, false⟩
theorem xy (s : gR) : ∀ (l : List Rl), getM s (gK l) = (l.find? fun r => decide (r.key = s)).map af
 | [] => rfl
 | r :: t => by
  show (if r.key = s then some (af r) else getM s (gK t)) = _
  rw [List.find?_cons]
  by_cases h : r.key = s
  ·simp [h]
  ·simp [h, xy s t]
theorem LK {l : List Rl} {s : gR} {r : Rl} (h : Ci l s = some r) {mem : List au} {b : Nat} (hm : mem[b]? = some (.map (bC aN 0 (gK (aq l))) (gK (aq l)).length)) :
  c7 Tryz.prog mem 79 (.mp b) (mT s) true = some (.bt [af r, bl true]) := by
 rw [PO.get s (gK (aq l)) hm tV, xy]
 unfold Ci at h
 rw [h]; rfl
theorem It {l : List Rl} {s : gR} (h : Ci l s = none) {mem : List au} {b : Nat} (hm : mem[b]? = some (.map (bC aN 0 (gK (aq l))) (gK (aq l)).length)) :
  c7 Tryz.prog mem 79 (.mp b) (mT s) true = some (.bt [.agg [str ⟨#[]⟩, num 0, num 0, num 0, .sc (.slice none 0 0), str ⟨#[]⟩, str ⟨#[]⟩, str ⟨#[]⟩, bl false], bl false]) := by
 rw [PO.get s (gK (aq l)) hm tV, xy]
 unfold Ci at h
 rw [h]; rfl
theorem Iu : xV dK := ⟨by decide, by decide, fun q hq => by simp [dK] at hq⟩
end Go.Proofs.YtnfeacnbgbggfaaGreatDoor
end

section
namespace Go.Proofs.YtnfeacnbgbggfaaGreatDoor
open Go.Eng
open Nat renaming reduceAdd → zA, reduceLT → zB, reduceLeDiff → zC, reduceMul → zD, reduceEqDiff → zE, reduceSub → zF
variable [aE]
set_option maxHeartbeats 4000000
set_option maxRecDepth 100000
theorem jB {s : ByteArray} {a : Nat} {e : Int} (h : a ≤ s.size) : (iU s a e).2.1 ≤ s.size := by
 unfold iU
 split
 ·exact h
 ·cases hr : eP s a with
  | none => exact h
  | some p => exact (gY hr).2
theorem Iv {s t : ByteArray} {a j : Nat} (h : lg s a = some (t, j)) : t.size ≤ s.size ∧ j ≤ s.size := by
 have := gi h
 omega
theorem fP {s : ByteArray} {a : Nat} {e : Int} (h : a ≤ s.size) : (iV s a e).2.1 ≤ s.size := by
 unfold iV
 split
 ·exact h
 ·cases hr : lg s a with
  | none => exact h
  | some p => exact (Iv hr).2
theorem o9 (s : ByteArray) (a : Nat) (e : Int) : (iV s a e).1.size ≤ s.size := by
 unfold iV
 split
 ·exact Nat.zero_le _
 ·cases hr : lg s a with
  | none => exact Nat.zero_le _
  | some p => exact (Iv hr).1
theorem l7 {m : Int} {s : ByteArray} {a : Nat} {e : Int} (h : a ≤ s.size) : (nM m s a e).2.1 ≤ s.size := by
 unfold nM
 split
 ·exact h
 ·cases hr : eP s a with
  | none => exact h
  | some p =>
   dsimp only
   split
   ·exact (gY hr).2
   ·exact h
theorem l8 {m : Int} {s : ByteArray} {a : Nat} {e : Int} (hm : 0 ≤ m) : ((nM m s a e).1 : Int) ≤ m := by
 unfold nM
 split
 ·exact hm
 ·cases hr : eP s a with
  | none => exact hm
  | some p =>
   dsimp only
   split
   ·assumption
   ·exact hm
def uT (s : ByteArray) : Nat → Nat × Int → List br × Nat × Int
 | 0, st => ([], st)
 | n + 1, st => if st.2 ≠ 0 then ([], st) else
   (⟨((iU s st.1 st.2).1 : Int), ((iU s (iU s st.1 st.2).2.1 (iU s st.1 st.2).2.2).1 : Int)⟩ :: (uT s n (iU s (iU s st.1 st.2).2.1 (iU s st.1 st.2).2.2).2).1, (uT s n (iU s (iU s st.1 st.2).2.1 (iU s st.1 st.2).2.2).2).2)
def jX (s : ByteArray) (st : Nat × Int) : Rq × Nat × Int :=
 let t := iV s st.1 st.2
 let c := nM (s.size : Int) s t.2.1 t.2.2
 let r := uT s c.1 c.2
 (⟨t.1, r.1⟩, r.2)
def ur (s : ByteArray) : Nat → Nat × Int → List Rq × Nat × Int
 | 0, st => ([], st)
 | n + 1, st => ((jX s st).1 :: (ur s n (jX s st).2).1, (ur s n (jX s st).2).2)
theorem Iw (s : ByteArray) : ∀ (n : Nat) (st : Nat × Int), st.1 ≤ s.size → (uT s n st).2.1 ≤ s.size ∧ (uT s n st).1.length ≤ n
 | 0, st, h => ⟨h, Nat.le_refl _⟩
 | n + 1, st, h => by
  rw [uT]
  split
  ·exact ⟨h, Nat.zero_le _⟩
  ·have := Iw s n _ (jB (e := (iU s st.1 st.2).2.2) (jB (e := st.2) h))
   exact ⟨this.1, by rw [List.length_cons]; omega⟩
theorem LL (s : ByteArray) (st : Nat × Int) (h : st.1 ≤ s.size) : (jX s st).2.1 ≤ s.size ∧ (jX s st).1.path.size ≤ s.size ∧ (jX s st).1.set.length ≤ s.size := by
 unfold jX
 dsimp only
 have h1 := fP (e := st.2) h
 have h2 := l7 (m := (s.size : Int)) (e := (iV s st.1 st.2).2.2) h1
 have h3 := Iw s (nM (s.size : Int) s (iV s st.1 st.2).2.1 (iV s st.1 st.2).2.2).1 _ h2
 have h4 := l8 (m := (s.size : Int)) (s := s) (a := (iV s st.1 st.2).2.1) (e := (iV s st.1 st.2).2.2) (by omega)
 exact ⟨h3.1, o9 _ _ _, by omega⟩
theorem xz (s : ByteArray) : ∀ (n : Nat) (st : Nat × Int), st.1 ≤ s.size → (ur s n st).2.1 ≤ s.size ∧ (ur s n st).1.length = n ∧ ∀ q ∈ (ur s n st).1, q.path.size ≤ s.size ∧ q.set.length ≤ s.size
 | 0, st, h => ⟨h, rfl, fun q hq => by simp [ur] at hq⟩
 | n + 1, st, h => by
  have h1 := LL s st h
  have h2 := xz s n _ h1.1
  rw [ur]
  refine ⟨h2.1, by rw [List.length_cons, h2.2.1], fun q hq => ?_⟩
  rcases List.mem_cons.1 hq with rfl | hq
  ·exact h1.2
  ·exact h2.2.2 q hq
theorem xC (s : ByteArray) : ∀ (n : Nat) (st : Nat × Int), ur s (n + 1) st = ((ur s n st).1 ++ [(jX s (ur s n st).2).1], (jX s (ur s n st).2).2)
 | 0, st => rfl
 | n + 1, st => by
  rw [ur, xC s n]
  rfl
def qj (s : ByteArray) : Rl × Nat × Nat × Int :=
 let p := iV s 0 0
 let mn := iU s p.2.1 p.2.2
 let pt := iU s mn.2.1 mn.2.2
 let y := nM 1 s pt.2.1 pt.2.2
 let ar := iV s y.2.1 y.2.2
 let ei := iV s ar.2.1 ar.2.2
 let ce := iV s ei.2.1 ei.2.2
 let n := nM 16 s ce.2.1 ce.2.2
 (⟨p.1, ⟨bF p.1, (mn.1 : Int), (pt.1 : Int)⟩, [], ar.1, ei.1, ce.1, decide ((y.1 : Int) = 1)⟩, n)
def ll (s : ByteArray) : Rl × Nat × Int :=
 let h := qj s
 let q := ur s h.2.1 h.2.2
 ({ h.1 with reqs := q.1 }, q.2)
def gv (s : ByteArray) : Bool := decide (bw (iV s 0 0).1 = 0) && decide (o6 s (ll s).2.1 (ll s).2.2 = 0) && decide (ir [(ll s).1] = 0)
def gO (s : ByteArray) : V := if gv s = true then .bt [af (ll s).1, num 0] else .bt [af dK, num 9]
theorem DU (hG : aE.g = some 0) (s : ByteArray) (hs : s.size ≤ 1048576) : ∃ r_, (fun w => w = gO s) r_ ∧ aP Tryz.prog 19 [str s] r_ := by
 refine ek tt_ok [17,19] 91 [.cell 2 40, .tmp 3] (fn := Tryz.f19) Tryz.func19 rfl Tryz.call19 ⟨rfl, rfl, by simp⟩ fun K hK => ?_
 have eE : Tryz.prog.underlying 9 = some .string := by kernel_rfl
 have sl : ∀ (a : ByteArray) (ty : TypeId), cd Tryz.prog (Builtin.len_ #[9] ty) [.sc (.string a)] = some (num a.size) := fun a ty => bE (P := Tryz.prog) (tt := tt) (T := 9) a eE ty
 have eD : s.size ≤ 1073741824 := by omega
 have bo : ∀ (mem : List au) (ks : List (Nat × Nat)) (n : Int), cI mem ks (num n) = mem := fun _ _ _ => rfl
 simp only [sl,List.length_map,bo,go_sem,reduceIte,zA,zB,zC,zD,zE,zF,reduceCtorEq]
 refine cW (xv s _) ?_
 rintro _ _ ⟨rfl, rfl⟩
 try simp only [F6,List.length_cons,List.length_nil,zA]
 simp only [sl,List.length_map,bo,go_sem,reduceIte,zA,zB,zC,zD,zE,zF,reduceCtorEq]
 refine cW (lY s eD 0 0 (Nat.zero_le _) _ 1 rfl) ?_
 rintro _ _ ⟨rfl, rfl⟩
 obtain ⟨x1, uA⟩ : ∃ x, x = iV s 0 0 := ⟨_, rfl⟩
 rw [← uA]
 have MF : x1.2.1 ≤ s.size := uA ▸ fP (Nat.zero_le _)
 have Gk : x1.1.size ≤ s.size := uA ▸ o9 _ _ _
 try simp only [List.set_cons_zero,List.set_cons_succ]
 simp only [sl,List.length_map,bo,go_sem,reduceIte,zA,zB,zC,zD,zE,zF,reduceCtorEq]
 refine cF (rV hG x1.1 (by omega)) ?_
 rintro _ ⟨nm, rfl⟩
 simp only [sl,List.length_map,bo,go_sem,reduceIte,zA,zB,zC,zD,zE,zF,reduceCtorEq]
 refine aL (fun xD => ?_) (fun xD => ?_)
 ·have hR : gO s = .bt [af dK, num 9] := by
   unfold gO gv
   rw [← uA, if_neg (by have : ¬ bw x1.1 = 0 := (by simpa using xD); simp [this])]
  simp only [sl,List.length_map,bo,go_sem,reduceIte,zA,zB,zC,zD,zE,zF,reduceCtorEq]
  exact hK _ (hR.symm)
 ·have WQ : bw x1.1 = 0 := by simpa using xD
  simp only [sl,List.length_map,bo,go_sem,reduceIte,zA,zB,zC,zD,zE,zF,reduceCtorEq]
  refine cW (tQ s eD x1.2.1 x1.2.2 MF _ 1 rfl) ?_
  rintro _ _ ⟨rfl, rfl⟩
  obtain ⟨x2, AF⟩ : ∃ x, x = iU s x1.2.1 x1.2.2 := ⟨_, rfl⟩
  rw [← AF]
  have DA : x2.2.1 ≤ s.size := AF ▸ jB MF
  try simp only [List.set_cons_zero,List.set_cons_succ]
  simp only [sl,List.length_map,bo,go_sem,reduceIte,zA,zB,zC,zD,zE,zF,reduceCtorEq]
  refine cW (tQ s eD x2.2.1 x2.2.2 DA _ 1 rfl) ?_
  rintro _ _ ⟨rfl, rfl⟩
  obtain ⟨x3, J2⟩ : ∃ x, x = iU s x2.2.1 x2.2.2 := ⟨_, rfl⟩
  rw [← J2]
  have Cj : x3.2.1 ≤ s.size := J2 ▸ jB DA
  try simp only [List.set_cons_zero,List.set_cons_succ]
  simp only [sl,List.length_map,bo,go_sem,reduceIte,zA,zB,zC,zD,zE,zF,reduceCtorEq]
  refine cW (qe s eD 1 x3.2.1 x3.2.2 Cj _ 1 rfl) ?_
  rintro _ _ ⟨rfl, rfl⟩
  obtain ⟨x4, Gr⟩ : ∃ x, x = nM 1 s x3.2.1 x3.2.2 := ⟨_, rfl⟩
  rw [← Gr]
  have X0 : x4.2.1 ≤ s.size := Gr ▸ l7 Cj
  try simp only [List.set_cons_zero,List.set_cons_succ]
  simp only [sl,List.length_map,bo,go_sem,reduceIte,zA,zB,zC,zD,zE,zF,reduceCtorEq]
  refine cW (lY s eD x4.2.1 x4.2.2 X0 _ 1 rfl) ?_
  rintro _ _ ⟨rfl, rfl⟩
  obtain ⟨x5, WR⟩ : ∃ x, x = iV s x4.2.1 x4.2.2 := ⟨_, rfl⟩
  rw [← WR]
  have X1 : x5.2.1 ≤ s.size := WR ▸ fP X0
  try simp only [List.set_cons_zero,List.set_cons_succ]
  simp only [sl,List.length_map,bo,go_sem,reduceIte,zA,zB,zC,zD,zE,zF,reduceCtorEq]
  refine cW (lY s eD x5.2.1 x5.2.2 X1 _ 1 rfl) ?_
  rintro _ _ ⟨rfl, rfl⟩
  obtain ⟨x6, WS⟩ : ∃ x, x = iV s x5.2.1 x5.2.2 := ⟨_, rfl⟩
  rw [← WS]
  have X2 : x6.2.1 ≤ s.size := WS ▸ fP X1
  try simp only [List.set_cons_zero,List.set_cons_succ]
  simp only [sl,List.length_map,bo,go_sem,reduceIte,zA,zB,zC,zD,zE,zF,reduceCtorEq]
  refine cW (lY s eD x6.2.1 x6.2.2 X2 _ 1 rfl) ?_
  rintro _ _ ⟨rfl, rfl⟩
  obtain ⟨x7, WT⟩ : ∃ x, x = iV s x6.2.1 x6.2.2 := ⟨_, rfl⟩
  rw [← WT]
  have X3 : x7.2.1 ≤ s.size := WT ▸ fP X2
  try simp only [List.set_cons_zero,List.set_cons_succ]
  simp only [sl,List.length_map,bo,go_sem,reduceIte,zA,zB,zC,zD,zE,zF,reduceCtorEq]
  refine cW (qe s eD 16 x7.2.1 x7.2.2 X3 _ 1 rfl) ?_
  rintro _ _ ⟨rfl, rfl⟩
  obtain ⟨x8, UE⟩ : ∃ x, x = nM 16 s x7.2.1 x7.2.2 := ⟨_, rfl⟩
  rw [← UE]
  have X4 : x8.2.1 ≤ s.size := UE ▸ l7 X3
  have hm8 : (x8.1 : Int) ≤ 16 := UE ▸ l8 (by decide)
  try simp only [List.set_cons_zero,List.set_cons_succ]
  simp only [sl,List.length_map,bo,go_sem,reduceIte,zA,zB,zC,zD,zE,zF,reduceCtorEq]
  obtain ⟨h, hh⟩ : ∃ x : Rl, x = ⟨x1.1, ⟨bF x1.1, (x2.1 : Int), (x3.1 : Int)⟩, [], x5.1, x6.1, x7.1, decide ((x4.1 : Int) = 1)⟩ := ⟨_, rfl⟩
  obtain ⟨N, hN⟩ : ∃ x, x = x8.1 := ⟨_, rfl⟩
  have WU : qj s = (h, N, x8.2) := by rw [hh, hN, UE, WT, WS, WR, Gr, J2, AF, uA]; rfl
  have e1 : x1.1 = h.path := by rw [hh]
  have e2 : bF x1.1 = h.ay.mj := by rw [hh]
  have e3 : (x2.1 : Int) = h.ay.mn := by rw [hh]
  have e4 : (x3.1 : Int) = h.ay.pt := by rw [hh]
  have e5 : x5.1 = h.ar := by rw [hh]
  have e6 : x6.1 = h.ei := by rw [hh]
  have e7 : x7.1 = h.ce := by rw [hh]
  have e8 : decide ((x4.1 : Int) = 1) = h.yk := by rw [hh]
  rw [e1] at Gk
  simp only [e2,e3,e4,e5,e6,e7,e8,← hN]
  rw [e1]
  have ZK : N ≤ 16 := by omega
  have hhr : h.reqs = [] := by rw [hh]
  refine rT 2 4 0 2 rfl rfl ?_
  refine cT tt_ok [17,19] (fun b : Nat × List Rq × Nat × Int => [(0, str s), (2, .ptr 0 0), (4, .ptr 1 0), (5, .ptr 2 0), (46, num N), (47, num b.1)]) (fun b : Nat × List Rq × Nat × Int => [.box [str ⟨#[]⟩, num 0, num 0, num 0, .sc (.slice none 0 0), str ⟨#[]⟩, str ⟨#[]⟩, str ⟨#[]⟩, bl false], .box [str s, num b.2.2.1, num b.2.2.2], .box [str h.path, num h.ay.mj, num h.ay.mn, num h.ay.pt, .ms 3 b.1 0 b.1, str h.ar, str h.ei, str h.ce, bl h.yk], .rows b.1 2 (b.2.1.map ak)]) (fun b => N - b.1) (fun b => b.1 ≤ N ∧ b.2 = ur s b.1 x8.2 ∧ b.2.2.1 ≤ s.size ∧ b.2.1.length = b.1) ((0, [], x8.2)) 4 (bd (by omega) (by simp only [sl,List.length_map,bo,List.map_nil,Int.cast_ofNat_Int,go_sem,reduceIte,zA,zB,zC,zD,zE,zF,reduceCtorEq] <;> rfl)) (⟨Nat.zero_le _, rfl, X4, rfl⟩) ?_
  rintro ⟨i, Q, a, e⟩ ⟨hi, hq, JU, Re⟩
  try dsimp only at hi hq JU Re ⊢
  intro Z1 cE
  simp only [sl,List.length_map,bo,go_sem,reduceIte,zA,zB,zC,zD,zE,zF,reduceCtorEq]
  refine aL (fun PS => ?_) (fun PS => ?_)
  ·have aF : i < N := by simpa using PS
   have hw := aC i (by omega)
   simp only [hw,sl,List.length_map,bo,go_sem,reduceIte,zA,zB,zC,zD,zE,zF,reduceCtorEq]
   refine cW (lY s eD a e JU _ 1 rfl) ?_
   rintro _ _ ⟨rfl, rfl⟩
   obtain ⟨y1, zg⟩ : ∃ x, x = iV s a e := ⟨_, rfl⟩
   rw [← zg]
   have fK : y1.2.1 ≤ s.size := zg ▸ fP JU
   have hzk : y1.1.size ≤ s.size := zg ▸ o9 _ _ _
   try simp only [List.set_cons_zero,List.set_cons_succ]
   simp only [hw,sl,List.length_map,bo,go_sem,reduceIte,zA,zB,zC,zD,zE,zF,reduceCtorEq]
   refine cW (qe s eD (s.size : Int) y1.2.1 y1.2.2 fK _ 1 rfl) ?_
   rintro _ _ ⟨rfl, rfl⟩
   obtain ⟨y2, O2⟩ : ∃ x, x = nM (s.size : Int) s y1.2.1 y1.2.2 := ⟨_, rfl⟩
   rw [← O2]
   have kC : y2.2.1 ≤ s.size := O2 ▸ l7 fK
   have Og : (y2.1 : Int) ≤ (s.size : Int) := O2 ▸ l8 (by omega)
   obtain ⟨C, hC⟩ : ∃ x, x = y2.1 := ⟨_, rfl⟩
   rw [← hC]
   obtain ⟨T, hT⟩ : ∃ x, x = y1.1 := ⟨_, rfl⟩
   rw [← hT]
   try simp only [List.set_cons_zero,List.set_cons_succ]
   simp only [hw,sl,List.length_map,bo,go_sem,reduceIte,zA,zB,zC,zD,zE,zF,reduceCtorEq]
   refine rT 4 1 0 2 rfl rfl ?_
   refine cT tt_ok [17,19] (fun d : Nat × List br × Nat × Int => [(0, str s), (2, .ptr 0 0), (4, .ptr 1 0), (5, .ptr 2 0), (9, .ptr 4 0), (46, num N), (47, num i), (55, num C), (56, num d.1)]) (fun d : Nat × List br × Nat × Int => [.box [str ⟨#[]⟩, num 0, num 0, num 0, .sc (.slice none 0 0), str ⟨#[]⟩, str ⟨#[]⟩, str ⟨#[]⟩, bl false], .box [str s, num d.2.2.1, num d.2.2.2], .box [str h.path, num h.ay.mj, num h.ay.mn, num h.ay.pt, .ms 3 i 0 i, str h.ar, str h.ei, str h.ce, bl h.yk], .rows i 2 (Q.map ak), .box [str T, .ms 5 d.1 0 d.1], .rows d.1 2 (d.2.1.map aj)]) (fun d => C - d.1) (fun d => d.1 ≤ C ∧ uT s C y2.2 = (d.2.1 ++ (uT s (C - d.1) d.2.2).1, (uT s (C - d.1) d.2.2).2) ∧ d.2.2.1 ≤ s.size ∧ d.2.1.length = d.1) ((0, [], y2.2)) 6 (bd (by omega) (by simp only [hw,sl,List.length_map,bo,List.map_nil,Int.cast_ofNat_Int,go_sem,reduceIte,zA,zB,zC,zD,zE,zF,reduceCtorEq] <;> rfl)) (⟨Nat.zero_le _, rfl, kC, rfl⟩) ?_
   rintro ⟨j, L, a2, e2⟩ ⟨hj, rK, Ix, zQ⟩
   try dsimp only at hj rK Ix zQ ⊢
   intro Z2 pn
   simp only [hw,sl,List.length_map,bo,go_sem,reduceIte,zA,zB,zC,zD,zE,zF,reduceCtorEq]
   refine aL (fun rE => ?_) (fun rE => ?_)
   ·have WV : j < C := by simpa using rE
    have LM := aC j (by omega)
    simp only [hw,LM,sl,List.length_map,bo,go_sem,reduceIte,zA,zB,zC,zD,zE,zF,reduceCtorEq]
    refine cS (Fs s eD a2 e2 _ 1 rfl) ?_
    rintro _ rfl
    simp only [hw,LM,sl,List.length_map,bo,go_sem,reduceIte,zA,zB,zC,zD,zE,zF,reduceCtorEq]
    refine aL (fun PT => ?_) (fun PT => ?_)
    ·have Uv : e2 ≠ 0 := by simpa using PT
     simp only [hw,LM,sl,List.length_map,bo,go_sem,reduceIte,zA,zB,zC,zD,zE,zF,reduceCtorEq]
     refine iq (k := 4) (vs' := [str T, .slice (L.map aj)]) rfl (by simp [cj, er, bz, zQ, jb, List.take_of_length_le]) ?_
     have nR : ∀ (x : ByteArray) (y : List V), bM [V.agg [str x, .slice y]] 0 2 = true := fun x y => rfl
     have Ck : i + 1 ≤ 34359738368 := by omega
     have PU : (Q.map ak).length = i := by rw [List.length_map, Re]
     refine uM tt_ok ?_
     simp only [hw,LM,nR,Ck,PU,List.length_append,List.length_cons,List.length_nil,Nat.zero_add,sl,List.length_map,bo,go_sem,reduceIte,zA,zB,zC,zD,zE,zF,reduceCtorEq]
     have xY : jX s (a, e) = (⟨T, L⟩, a2, e2) := by
      unfold jX
      dsimp only
      rw [← zg, ← O2, ← hC, ← hT]
      have hb := rK
      have qc : uT s (C - j) (a2, e2) = ([], a2, e2) := by first | (rw [show C - j = 0 by omega]; rfl) | (obtain ⟨k, hk⟩ : ∃ k, C - j = k + 1 := ⟨C - j - 1, by omega⟩; rw [hk, uT, if_pos Uv])
      rw [qc] at hb
      simp only [List.append_nil] at hb
      rw [hb]
     refine cE _ ⟨(i + 1, Q ++ [⟨T, L⟩], a2, e2), ?_, ?_, bd (by omega) (by (simp only [hw,List.map_append,List.map_cons,List.map_nil,ak,al,go_sem,reduceIte,zA,zB,zC,zD,zE,zF,reduceCtorEq]))⟩
     ·exact ⟨aF, by dsimp only; rw [xC, ← hq]; dsimp only; rw [xY], Ix, by dsimp only; rw [List.length_append, Re]; rfl⟩
     ·dsimp only; omega
    ·have JF : e2 = 0 := by simpa using PT
     have fJ : ∀ x y : Int, bM [V.agg [num x, num y]] 0 2 = true := fun x y => rfl
     have uU : j + 1 ≤ 34359738368 := by omega
     have JN : (L.map aj).length = j := by rw [List.length_map, zQ]
     simp only [hw,LM,fJ,uU,JN,List.length_append,List.length_cons,List.length_nil,Nat.zero_add,sl,List.length_map,bo,go_sem,reduceIte,zA,zB,zC,zD,zE,zF,reduceCtorEq]
     refine bH tt_ok aK [⟨.n, 0, [], [], []⟩, ⟨.r, 0, [], [0], [1]⟩, ⟨.n, 0, [], [], []⟩, ⟨.e, 1, [], [2], []⟩, ⟨.n, 0, [], [], []⟩, ⟨.e, 1, [], [2,3,4], []⟩, ⟨.n, 0, [], [2,3,4,5], []⟩, ⟨.n, 0, [], [2,3,4,5,6], []⟩, ⟨.w, 0, [], [0,1,2,3,4,5,6,7], []⟩, ⟨.n, 0, [], [0,1,2,3,4,5,6,7,8], []⟩, ⟨.w, 1, [], [0,1,2,3,4,5,6,7,8,9], []⟩] 2 (by kernel_rfl) ?_
     simp only [hw,LM,fJ,uU,JN,List.length_append,List.length_cons,List.length_nil,Nat.zero_add,sl,List.length_map,bo,go_sem,reduceIte,zA,zB,zC,zD,zE,zF,reduceCtorEq]
     refine XG rfl rfl (tR s eD a2 e2 Ix 1) ?_
     rintro _ _ ⟨rfl, rfl⟩
     obtain ⟨z1, Gk⟩ : ∃ x, x = iU s a2 e2 := ⟨_, rfl⟩
     rw [← Gk]
     have X5 : z1.2.1 ≤ s.size := Gk ▸ jB Ix
     try simp only [List.set_cons_zero,List.set_cons_succ]
     simp only [hw,LM,fJ,uU,JN,List.length_append,List.length_cons,List.length_nil,Nat.zero_add,sl,List.length_map,bo,go_sem,reduceIte,zA,zB,zC,zD,zE,zF,reduceCtorEq]
     refine XG rfl rfl (tR s eD z1.2.1 z1.2.2 X5 1) ?_
     rintro _ _ ⟨rfl, rfl⟩
     obtain ⟨z2, Fw⟩ : ∃ x, x = iU s z1.2.1 z1.2.2 := ⟨_, rfl⟩
     rw [← Fw]
     have ZL : z2.2.1 ≤ s.size := Fw ▸ jB X5
     try simp only [List.set_cons_zero,List.set_cons_succ]
     simp only [hw,LM,fJ,uU,JN,List.length_append,List.length_cons,List.length_nil,Nat.zero_add,sl,List.length_map,bo,go_sem,reduceIte,zA,zB,zC,zD,zE,zF,reduceCtorEq]
     refine pn _ ⟨(j + 1, L ++ [⟨(z1.1 : Int), (z2.1 : Int)⟩], z2.2), ?_, ?_, bd (by omega) (by (simp only [LM,List.map_append,List.map_cons,List.map_nil,aj,go_sem,reduceIte,zA,zB,zC,zD,zE,zF,reduceCtorEq]))⟩
     ·refine ⟨WV, ?_, ZL, by dsimp only; rw [List.length_append, zQ]; rfl⟩
      dsimp only
      rw [rK, show C - j = C - (j + 1) + 1 by omega, uT, if_neg (by simp [JF])]
      dsimp only
      rw [← Gk, ← Fw, List.append_assoc]; rfl
     ·dsimp only; omega
   ·have ZM : ¬ j < C := by simpa using rE
    simp only [hw,sl,List.length_map,bo,go_sem,reduceIte,zA,zB,zC,zD,zE,zF,reduceCtorEq]
    refine iq (k := 4) (vs' := [str T, .slice (L.map aj)]) rfl (by simp [cj, er, bz, zQ, jb, List.take_of_length_le]) ?_
    have nR : ∀ (x : ByteArray) (y : List V), bM [V.agg [str x, .slice y]] 0 2 = true := fun x y => rfl
    have Ck : i + 1 ≤ 34359738368 := by omega
    have PU : (Q.map ak).length = i := by rw [List.length_map, Re]
    refine uM tt_ok ?_
    simp only [hw,nR,Ck,PU,List.length_append,List.length_cons,List.length_nil,Nat.zero_add,sl,List.length_map,bo,go_sem,reduceIte,zA,zB,zC,zD,zE,zF,reduceCtorEq]
    have xY : jX s (a, e) = (⟨T, L⟩, a2, e2) := by
     unfold jX
     dsimp only
     rw [← zg, ← O2, ← hC, ← hT]
     have hb := rK
     have qc : uT s (C - j) (a2, e2) = ([], a2, e2) := by first | (rw [show C - j = 0 by omega]; rfl) | (obtain ⟨k, hk⟩ : ∃ k, C - j = k + 1 := ⟨C - j - 1, by omega⟩; rw [hk, uT, if_pos Uv])
     rw [qc] at hb
     simp only [List.append_nil] at hb
     rw [hb]
    refine cE _ ⟨(i + 1, Q ++ [⟨T, L⟩], a2, e2), ?_, ?_, bd (by omega) (by (simp only [hw,List.map_append,List.map_cons,List.map_nil,ak,al,go_sem,reduceIte,zA,zB,zC,zD,zE,zF,reduceCtorEq]))⟩
    ·exact ⟨aF, by dsimp only; rw [xC, ← hq]; dsimp only; rw [xY], Ix, by dsimp only; rw [List.length_append, Re]; rfl⟩
    ·dsimp only; omega
  ·have dg : ¬ i < N := by simpa using PS
   obtain rfl : i = N := by omega
   have pC : ll s = ({ h with reqs := Q }, a, e) := by unfold ll; rw [WU]; dsimp only; rw [← hq]
   simp only [sl,List.length_map,bo,go_sem,reduceIte,zA,zB,zC,zD,zE,zF,reduceCtorEq]
   refine iq (k := 2) (vs' := [str h.path, num h.ay.mj, num h.ay.mn, num h.ay.pt, .slice (Q.map ak), str h.ar, str h.ei, str h.ce, bl h.yk]) rfl (by simp [cj, er, bz, Re, jb, List.take_of_length_le]) ?_
   have Lu : F8 [{ h with reqs := Q }] := by
    refine ⟨by simp, fun r hr => ?_⟩
    rw [List.mem_singleton] at hr; subst hr
    have h2 := xz s i x8.2 X4
    rw [← hq] at h2
    refine ⟨by dsimp only; omega, by dsimp only; omega, fun q Lw => ?_⟩
    have := h2.2.2 q Lw
    exact ⟨by omega, by omega⟩
   refine QY tt_ok [17,19] ?_
   simp only [sl,List.length_map,bo,go_sem,reduceIte,zA,zB,zC,zD,zE,zF,reduceCtorEq]
   refine cS (Lp s eD a e _ 1 rfl) ?_
   rintro _ rfl
   simp only [sl,List.length_map,bo,go_sem,reduceIte,zA,zB,zC,zD,zE,zF,reduceCtorEq]
   refine aL (fun Cl => ?_) (fun Cl => ?_)
   ·have bD : o6 s a e ≠ 0 := by simpa using Cl
    have hR : gO s = .bt [af dK, num 9] := by unfold gO gv; rw [pC, if_neg (by simp [bD])]
    simp only [sl,List.length_map,bo,go_sem,reduceIte,zA,zB,zC,zD,zE,zF,reduceCtorEq]
    exact hK _ (hR.symm)
   ·have ZN : o6 s a e = 0 := by simpa using Cl
    simp only [sl,List.length_map,bo,go_sem,reduceIte,zA,zB,zC,zD,zE,zF,reduceCtorEq]
    refine cF (by have hh := vO hG [{ h with reqs := Q }] Lu []; simp only [bP,List.map_cons,List.map_nil,af,ag,ah] at hh; exact hh) ?_
    rintro _ rfl
    simp only [sl,List.length_map,bo,go_sem,reduceIte,zA,zB,zC,zD,zE,zF,reduceCtorEq]
    refine aL (fun PV => ?_) (fun PV => ?_)
    ·have hR : gO s = .bt [af dK, num 9] := by
      first
      | exact hR
      | (unfold gO gv; rw [pC, if_neg (by have : ¬ ir [{ h with reqs := Q }] = 0 := (by simpa using PV); simp [this])])
     simp only [sl,List.length_map,bo,go_sem,reduceIte,zA,zB,zC,zD,zE,zF,reduceCtorEq]
     exact hK _ (hR.symm)
    ·have hR : gO s = .bt [af { h with reqs := Q }, num 0] := by
      unfold gO gv
      rw [pC, ← uA, if_pos (by have : ir [{ h with reqs := Q }] = 0 := (by simpa using PV); simp [this, WQ, ZN])]
     simp only [sl,List.length_map,bo,go_sem,reduceIte,zA,zB,zC,zD,zE,zF,reduceCtorEq]
     exact hK _ (hR.symm)
end Go.Proofs.YtnfeacnbgbggfaaGreatDoor
end

section
namespace Go.Proofs.YtnfeacnbgbggfaaGreatDoor
open Go.Eng
variable [aE]
theorem ig (n : Nat) : dp (n : Int) = uv n := by unfold dp; rw [Int.toNat_natCast]
theorem tX {s t : ByteArray} {a : Nat} {rest : List UInt8} (hn : t.size < 9223372036854775808) (h : from_ s a = eT t ++ rest) : ∃ j, iV s a 0 = (t, j, 0) ∧ from_ s j = rest := by
 obtain ⟨h1, h2⟩ := pZ hn h
 exact ⟨_, by unfold iV; rw [if_neg (by simp), h1], h2⟩
theorem xE {s : ByteArray} {a n : Nat} {rest : List UInt8} (hn : n < 9223372036854775808) (h : from_ s a = uv n ++ rest) : ∃ j, iU s a 0 = (n, j, 0) ∧ from_ s j = rest := by
 obtain ⟨h1, h2⟩ := xk hn h
 exact ⟨_, by unfold iU; rw [if_neg (by simp), h1], h2⟩
theorem Cm {m : Int} {s : ByteArray} {a n : Nat} {rest : List UInt8} (hn : n < 9223372036854775808) (hm : (n : Int) ≤ m) (h : from_ s a = uv n ++ rest) : ∃ j, nM m s a 0 = (n, j, 0) ∧ from_ s j = rest := by
 obtain ⟨h1, h2⟩ := xk hn h
 exact ⟨_, by unfold nM; rw [if_neg (by simp), h1]; exact if_pos hm, h2⟩
theorem qk {n : Int} (h0 : 0 ≤ n) : ∃ k : Nat, n = k ∧ dp n = uv k := ⟨n.toNat, by omega, rfl⟩
theorem Iy {s : ByteArray} : ∀ (l : List br) (a : Nat) (rest : List UInt8), (∀ x ∈ l, lh x) → from_ s a = l.flatMap po ++ rest → ∃ j, uT s l.length (a, 0) = (l, j, 0) ∧ from_ s j = rest
 | [], a, rest, _, h => ⟨a, rfl, h⟩
 | x :: t, a, rest, hx, h => by
  have hb := hx x (by simp)
  unfold lh at hb
  obtain ⟨k1, e1, u1⟩ := qk (n := x.lo) (by omega)
  obtain ⟨k2, e2, u2⟩ := qk (n := x.hi) (by omega)
  rw [List.flatMap_cons, po, u1, u2, List.append_assoc, List.append_assoc] at h
  obtain ⟨j1, h1, DI⟩ := xE (by omega) h
  obtain ⟨j2, h2, Rb⟩ := xE (by omega) DI
  obtain ⟨j, h3, h4⟩ := Iy t j2 rest (fun y hy => hx y (by simp [hy])) Rb
  refine ⟨j, ?_, h4⟩
  rw [List.length_cons, uT, if_neg (by simp)]
  simp only [h1,h2,h3,Prod.mk.injEq,and_true,List.cons.injEq]
  exact br.ext' e1.symm e2.symm
theorem LN {s : ByteArray} {q : Rq} {a : Nat} {rest : List UInt8} (hw : Lq q) (hp : q.path.size ≤ 1048576) (hl : q.set.length ≤ s.size) (hs : s.size ≤ 1048576) (h : from_ s a = iW q ++ rest) : ∃ j, jX s (a, 0) = (q, j, 0) ∧ from_ s j = rest := by
 unfold iW at h
 rw [ig, List.append_assoc, List.append_assoc] at h
 obtain ⟨j1, h1, DI⟩ := tX (by omega) h
 obtain ⟨j2, h2, Rb⟩ := Cm (m := (s.size : Int)) (by omega) (by omega) DI
 obtain ⟨j, h3, h4⟩ := Iy q.set j2 rest (gu hw) Rb
 refine ⟨j, ?_, h4⟩
 unfold jX
 simp only [h1,h2,h3]
theorem LO (q : Rq) : q.set.length ≤ (iW q).length := by
 unfold iW
 rw [List.length_append]
 have : ∀ l : List br, l.length ≤ (l.flatMap po).length := by
  intro l
  induction l with
  | nil => simp
  | cons x t ih =>
   rw [List.flatMap_cons, List.length_append, List.length_cons]
   have h1 : 0 < (po x).length := by unfold po dp; rw [List.length_append]; have := PC x.lo.toNat; omega
   omega
 have := this q.set
 omega
theorem Iz {s : ByteArray} (hs : s.size ≤ 1048576) : ∀ (l : List Rq) (a : Nat) (rest : List UInt8), (∀ q ∈ l, Lq q ∧ q.path.size ≤ 1048576) → from_ s a = l.flatMap iW ++ rest → ∃ j, ur s l.length (a, 0) = (l, j, 0) ∧ from_ s j = rest
 | [], a, rest, _, h => ⟨a, rfl, h⟩
 | q :: t, a, rest, hq, h => by
  have h0 := hq q (by simp)
  rw [List.flatMap_cons, List.append_assoc] at h
  have hlen : q.set.length ≤ s.size := by
   have h1 := congrArg List.length h
   rw [gM, List.length_append] at h1
   have := LO q
   omega
  obtain ⟨j1, h1, DI⟩ := LN h0.1 h0.2 hlen hs h
  obtain ⟨j, h3, h4⟩ := Iz hs t j1 rest (fun y hy => hq y (by simp [hy])) DI
  refine ⟨j, ?_, h4⟩
  rw [List.length_cons, ur]
  simp only [h1,h3]
theorem mK (s : ByteArray) : from_ s 0 = bc s := by unfold from_ bc; rw [List.drop_zero]
theorem Fx {s : ByteArray} {j : Nat} (h : from_ s j = []) : o6 s j 0 = 0 := by
 have h1 := congrArg List.length h
 rw [gM] at h1
 unfold o6
 rw [if_neg]
 intro h2
 simp at h1
 omega
theorem Ae {r : Rl} (h : ir [r] = 0) (hb : xV r) (hs : (jA r).length ≤ 1048576) : gO (bs (jA r)) = .bt [af r, num 0] := by
 have hw := zX (qf r ▸ h)
 have hv := mH hw.ay
 have kd : (bs (jA r)).size ≤ 1048576 := by rw [ib]; exact hs
 have h0 : from_ (bs (jA r)) 0 = jA r := by rw [mK, fp]
 generalize hS : bs (jA r) = s at *
 obtain ⟨k1, e1, u1⟩ := qk (n := r.ay.mn) (by omega)
 obtain ⟨k2, e2, u2⟩ := qk (n := r.ay.pt) (by omega)
 obtain ⟨k3, e3, u3⟩ := qk (n := lZ r) (kO r).1
 have ZO := kO r
 have Gd := h0
 unfold jA AL at h0
 rw [u1, u2, u3, ig] at h0
 simp only [List.append_assoc] at h0
 have s1 := cM hw.ar
 have s2 := cM hw.ei
 have s3 := cM hw.ce
 obtain ⟨j1, p1, q1⟩ := tX (by have := hb.1; omega) h0
 obtain ⟨j2, p2, q2⟩ := xE (by omega) q1
 obtain ⟨j3, p3, q3⟩ := xE (by omega) q2
 obtain ⟨j4, p4, q4⟩ := Cm (m := 1) (by omega) (by omega) q3
 obtain ⟨j5, p5, q5⟩ := tX (by omega) q4
 obtain ⟨j6, p6, q6⟩ := tX (by omega) q5
 obtain ⟨j7, p7, q7⟩ := tX (by omega) q6
 obtain ⟨j8, p8, q8⟩ := Cm (m := 16) (by have := hw.len; omega) (by have := hw.len; omega) q7
 obtain ⟨j9, p9, q9⟩ := Iz kd r.reqs j8 [] (fun q hq => ⟨hw.reqs q hq, (hb.2.2 q hq).1⟩) (by rw [List.append_nil]; exact q8)
 have xF : decide ((k3 : Int) = 1) = r.yk := by
  rw [← e3]
  unfold lZ
  cases r.yk <;> simp
 have WU : qj s = (⟨r.path, ⟨bF r.path, r.ay.mn, r.ay.pt⟩, [], r.ar, r.ei, r.ce, r.yk⟩, r.reqs.length, j8, 0) := by
  unfold qj
  simp only [p1,p2,p3,p4,p5,p6,p7,p8,xF,← e1,← e2]
 have pC : ll s = (r, j9, 0) := by
  unfold ll
  rw [WU]
  simp only [p9,Prod.mk.injEq,and_true]
  rw [← hw.mj]
 have bB : gv s = true := by
  unfold gv
  rw [pC, p1]
  simp only [Fx q9,hw.path,h,decide_true,Bool.and_self]
 unfold gO
 rw [if_pos bB, pC]
theorem pb {s : ByteArray} {a : Nat} {e : Int} (h : (iV s a e).2.2 = 0) : e = 0 ∧ from_ s a = eT (iV s a e).1 ++ from_ s (iV s a e).2.1 := by
 unfold iV at h ⊢
 by_cases he : e ≠ 0
 ·rw [if_pos he] at h; exact absurd h he
 ·rw [if_neg he] at h ⊢
  refine ⟨by simpa using he, ?_⟩
  cases hr : lg s a with
  | none => rw [hr] at h; simp at h
  | some p => obtain ⟨t, j⟩ := p; exact (gi hr).1
theorem r9 {s : ByteArray} {a : Nat} {e : Int} (h : (iU s a e).2.2 = 0) : e = 0 ∧ from_ s a = uv (iU s a e).1 ++ from_ s (iU s a e).2.1 := by
 unfold iU at h ⊢
 by_cases he : e ≠ 0
 ·rw [if_pos he] at h; exact absurd h he
 ·rw [if_neg he] at h ⊢
  refine ⟨by simpa using he, ?_⟩
  cases hr : eP s a with
  | none => rw [hr] at h; simp at h
  | some p => obtain ⟨t, j⟩ := p; exact (nG hr).1
theorem xG {m : Int} {s : ByteArray} {a : Nat} {e : Int} (h : (nM m s a e).2.2 = 0) : e = 0 ∧ from_ s a = uv (nM m s a e).1 ++ from_ s (nM m s a e).2.1 := by
 unfold nM at h ⊢
 by_cases he : e ≠ 0
 ·rw [if_pos he] at h; exact absurd h he
 ·rw [if_neg he] at h ⊢
  refine ⟨by simpa using he, ?_⟩
  cases hr : eP s a with
  | none => rw [hr] at h; simp at h
  | some p =>
   obtain ⟨t, j⟩ := p
   rw [hr] at h
   dsimp only at h ⊢
   split at h
   ·rename_i hm; rw [if_pos hm]; exact (nG hr).1
   ·simp at h
theorem DV {s : ByteArray} : ∀ (n : Nat) (a : Nat) (e : Int), (uT s n (a, e)).2.2 = 0 → e = 0 ∧ from_ s a = (uT s n (a, e)).1.flatMap po ++ from_ s (uT s n (a, e)).2.1 ∧ (uT s n (a, e)).1.length = n
 | 0, a, e, h => ⟨h, rfl, rfl⟩
 | n + 1, a, e, h => by
  rw [uT] at h ⊢
  by_cases he : e ≠ 0
  ·rw [if_pos he] at h; exact absurd h he
  ·rw [if_neg he] at h ⊢
   dsimp only at h ⊢
   obtain ⟨h1, h2, h3⟩ := DV n _ _ h
   obtain ⟨h4, h5⟩ := r9 h1
   obtain ⟨h6, h7⟩ := r9 h4
   refine ⟨h6, ?_, by rw [List.length_cons, h3]⟩
   rw [List.flatMap_cons, po, ig, ig, List.append_assoc, List.append_assoc, ← h2, ← h5, ← h7]
theorem IA {s : ByteArray} {a : Nat} {e : Int} (h : (jX s (a, e)).2.2 = 0) : e = 0 ∧ from_ s a = iW (jX s (a, e)).1 ++ from_ s (jX s (a, e)).2.1 := by
 unfold jX at h ⊢
 dsimp only at h ⊢
 obtain ⟨h1, h2, h3⟩ := DV _ _ _ h
 obtain ⟨h4, h5⟩ := xG h1
 obtain ⟨h6, h7⟩ := pb h4
 refine ⟨h6, ?_⟩
 unfold iW
 dsimp only
 rw [ig, h3, List.append_assoc, List.append_assoc, ← h2, ← h5, ← h7]
theorem DW {s : ByteArray} : ∀ (n : Nat) (a : Nat) (e : Int), (ur s n (a, e)).2.2 = 0 → e = 0 ∧ from_ s a = (ur s n (a, e)).1.flatMap iW ++ from_ s (ur s n (a, e)).2.1
 | 0, a, e, h => ⟨h, rfl⟩
 | n + 1, a, e, h => by
  rw [ur] at h ⊢
  obtain ⟨x, hx⟩ : ∃ x, x = jX s (a, e) := ⟨_, rfl⟩
  have hi := IA (s := s) (a := a) (e := e)
  rw [← hx] at h hi ⊢
  obtain ⟨q, j, e'⟩ := x
  dsimp only at h hi ⊢
  obtain ⟨h1, h2⟩ := DW n j e' h
  obtain ⟨h3, h4⟩ := hi h1
  refine ⟨h3, ?_⟩
  rw [List.flatMap_cons, List.append_assoc, ← h2, ← h4]
theorem IB {s : ByteArray} (h : gv s = true) : bs (jA (ll s).1) = s ∧ ir [(ll s).1] = 0 := by
 unfold gv at h
 simp only [Bool.and_eq_true,decide_eq_true_eq] at h
 obtain ⟨⟨-, h1⟩, h2⟩ := h
 refine ⟨?_, h2⟩
 have he : (ll s).2.2 = 0 ∧ s.size ≤ (ll s).2.1 := by
  unfold o6 at h1
  split at h1
  ·omega
  ·rename_i h3
   refine ⟨h1, ?_⟩
   rcases Nat.lt_or_ge (ll s).2.1 s.size with h4 | h4
   ·exact absurd ⟨h1, h4⟩ h3
   ·exact h4
 apply iL
 rw [fp, ← mK]
 have PW : from_ s (ll s).2.1 = [] := o5 he.2
 unfold ll qj at he PW ⊢
 dsimp only at he PW ⊢
 obtain ⟨p9, q9⟩ := DW _ _ _ he.1
 obtain ⟨p8, q8⟩ := xG p9
 obtain ⟨p7, q7⟩ := pb p8
 obtain ⟨p6, q6⟩ := pb p7
 obtain ⟨p5, q5⟩ := pb p6
 obtain ⟨p4, q4⟩ := xG p5
 obtain ⟨p3, q3⟩ := r9 p4
 obtain ⟨p2, q2⟩ := r9 p3
 obtain ⟨p1, q1⟩ := pb p2
 rw [PW, List.append_nil] at q9
 unfold jA AL
 dsimp only
 have hy : ∀ {y : Nat}, (y : Int) ≤ 1 → dp (if decide ((y : Int) = 1) = true then (1 : Int) else 0) = uv y := fun {y} hy => by
  by_cases zg : y = 1
  ·subst zg; rfl
  ·have : y = 0 := by omega
   subst this; rfl
 have xF := hy (l8 (m := 1) (s := s) (a := (iU s (iU s (iV s 0 0).2.1 (iV s 0 0).2.2).2.1 (iU s (iV s 0 0).2.1 (iV s 0 0).2.2).2.2).2.1) (e := (iU s (iU s (iV s 0 0).2.1 (iV s 0 0).2.2).2.1 (iU s (iV s 0 0).2.1 (iV s 0 0).2.2).2.2).2.2) (by decide))
 unfold lZ
 dsimp only
 rw [xF, ig, ig, ig, (xz s _ _ ?_).2.1]
 ·rw [q1, q2, q3, q4, q5, q6, q7, q8, q9]
  simp only [List.append_assoc]
 ·exact l7 (fP (fP (fP (l7 (jB (jB (fP (Nat.zero_le _))))))))
end Go.Proofs.YtnfeacnbgbggfaaGreatDoor
end

section
namespace Go.Proofs.YtnfeacnbgbggfaaGreatDoor
open Go.Eng
open Nat renaming reduceAdd → zA, reduceLT → zB, reduceLeDiff → zC, reduceMul → zD, reduceEqDiff → zE, reduceSub → zF
variable [aE]
set_option maxHeartbeats 4000000
set_option maxRecDepth 100000
theorem Rq.ext' {a b : Rq} (h1 : a.path = b.path) (h2 : a.set = b.set) : a = b := by cases a; cases b; simp_all
instance : DecidableEq Rq := fun a b => if h : a.path = b.path ∧ a.set = b.set then .isTrue (Rq.ext' h.1 h.2) else .isFalse fun e => h (by subst e; exact ⟨rfl, rfl⟩)
theorem Rl.ext' {a b : Rl} (h1 : a.path = b.path) (h2 : a.ay = b.ay) (h3 : a.reqs = b.reqs) (h4 : a.ar = b.ar) (h5 : a.ei = b.ei) (h6 : a.ce = b.ce) (h7 : a.yk = b.yk) : a = b := by cases a; cases b; simp_all
instance : DecidableEq Rl := fun a b => if h : a.path = b.path ∧ a.ay = b.ay ∧ a.reqs = b.reqs ∧ a.ar = b.ar ∧ a.ei = b.ei ∧ a.ce = b.ce ∧ a.yk = b.yk then .isTrue (Rl.ext' h.1 h.2.1 h.2.2.1 h.2.2.2.1 h.2.2.2.2.1 h.2.2.2.2.2.1 h.2.2.2.2.2.2) else .isFalse fun e => h (by subst e; exact ⟨rfl, rfl, rfl, rfl, rfl, rfl, rfl⟩)
theorem bool_beq (p q : Bool) : (p == q) = decide (p = q) := by cases p <;> cases q <;> rfl
theorem Cn (s t : List Rq) (hl : s.length ≤ 1048576) (hb : ∀ q ∈ s, tH q) : ∃ r_, (fun w => w = bl (decide (s = t))) r_ ∧ aP Tryz.prog 74 [ah s, ah t] r_ := by
 refine ek tt_ok [] 42 [.tmp 4] (fn := Tryz.f74) Tryz.func74 rfl Tryz.call74 ⟨rfl, rfl, by simp⟩ fun K hK => ?_
 simp only [ah]
 simp only [List.length_map,go_sem,reduceIte,zA,zB,zC,zD,zE,zF,reduceCtorEq]
 refine aL (fun eL => ?_) (fun eL => ?_)
 ·have ax : false = decide (s = t) := by
   refine (decide_eq_false fun e => ?_).symm
   subst e; simp at eL
  simp only [List.length_map,go_sem,reduceIte,zA,zB,zC,zD,zE,zF,reduceCtorEq]
  exact hK _ (congrArg bl ax)
 ·have lq : s.length = t.length := by have := eL; simp at this; omega
  simp only [List.length_map,go_sem,reduceIte,zA,zB,zC,zD,zE,zF,reduceCtorEq]
  refine bO tt_ok [] [5] 0 [0,1,10] (fun vs => ((s.length : Int) - Go.Eng.intOf (vs.headD .undef)).toNat) (fun vs => ∃ i : Nat, vs = [num i] ∧ i ≤ s.length ∧ ∀ j < i, s[j]? = t[j]?) (by omega) (by simp only [List.length_map,go_sem,reduceIte,zA,zB,zC,zD,zE,zF,reduceCtorEq]) (⟨0, rfl, Nat.zero_le _, fun j hj => absurd hj (Nat.not_lt_zero j)⟩) fun vs hI Z1 cE => ?_
  obtain ⟨i, rfl, hi, bn⟩ := hI
  simp only [List.length_map,go_sem,reduceIte,zA,zB,zC,zD,zE,zF,reduceCtorEq]
  refine aL (fun eY => ?_) (fun eY => ?_)
  ·have aF : i < s.length := by simpa using eY
   have hw := aC i (by omega)
   obtain ⟨x, hx⟩ : ∃ x, s[i]? = some x := ⟨_, List.getElem?_eq_getElem aF⟩
   obtain ⟨y, hy⟩ : ∃ y, t[i]? = some y := ⟨_, List.getElem?_eq_getElem (by omega)⟩
   simp only [hw,List.getElem?_map,hx,hy,ak,al,Option.map_some,List.length_map,go_sem,reduceIte,zA,zB,zC,zD,zE,zF,reduceCtorEq]
   refine bH tt_ok aK [⟨.n, 0, [], [], []⟩, ⟨.n, 0, [], [], []⟩, ⟨.r, 0, [], [], []⟩, ⟨.n, 0, [], [], []⟩, ⟨.r, 0, [], [], []⟩, ⟨.n, 0, [], [], []⟩, ⟨.n, 0, [], [], []⟩, ⟨.r, 0, [], [], []⟩, ⟨.n, 0, [], [], []⟩, ⟨.r, 0, [], [], []⟩, ⟨.n, 0, [], [], []⟩, ⟨.n, 0, [], [], []⟩, ⟨.n, 0, [], [], []⟩, ⟨.n, 0, [], [], []⟩, ⟨.r, 0, [], [], []⟩, ⟨.n, 0, [], [], []⟩, ⟨.r, 0, [], [], []⟩, ⟨.n, 0, [], [], []⟩, ⟨.n, 0, [], [], []⟩, ⟨.r, 0, [], [], []⟩, ⟨.n, 0, [], [], []⟩, ⟨.r, 0, [], [], []⟩, ⟨.n, 0, [], [], []⟩, ⟨.n, 0, [], [], []⟩, ⟨.n, 0, [], [], []⟩] 0 (by kernel_rfl) ?_
   simp only [hw,List.getElem?_map,hx,hy,ak,al,Option.map_some,List.length_map,go_sem,reduceIte,zA,zB,zC,zD,zE,zF,reduceCtorEq]
   refine aL (fun Co => ?_) (fun Co => ?_)
   ·have ax : false = decide (s = t) := by
     refine (decide_eq_false fun e => ?_).symm
     subst e; rw [hx] at hy; cases hy; simp [bU] at Co
    simp only [hw,List.getElem?_map,hx,hy,ak,al,Option.map_some,List.length_map,go_sem,reduceIte,zA,zB,zC,zD,zE,zF,reduceCtorEq]
    exact hK _ (congrArg bl ax)
   ·simp only [hw,List.getElem?_map,hx,hy,ak,al,Option.map_some,List.length_map,go_sem,reduceIte,zA,zB,zC,zD,zE,zF,reduceCtorEq]
    refine cG (by have h := xm x.set y.set (hb x (List.mem_of_getElem? hx)).2; simp only [al] at h; exact h) ?_
    rintro _ rfl
    simp only [hw,List.getElem?_map,hx,hy,ak,al,Option.map_some,List.length_map,go_sem,reduceIte,zA,zB,zC,zD,zE,zF,reduceCtorEq]
    refine aL (fun mS => ?_) (fun mS => ?_)
    ·have ax : false = decide (s = t) := by
      first
      | exact ax
      | (refine (decide_eq_false fun e => ?_).symm; subst e; rw [hx] at hy; cases hy; simp at mS)
     simp only [hw,List.getElem?_map,hx,hy,ak,al,Option.map_some,List.length_map,go_sem,reduceIte,zA,zB,zC,zD,zE,zF,reduceCtorEq]
     exact hK _ (congrArg bl ax)
    ·simp only [hw,List.getElem?_map,hx,hy,ak,al,Option.map_some,List.length_map,go_sem,reduceIte,zA,zB,zC,zD,zE,zF,reduceCtorEq]
     refine cE _ (eR (by omega) (by simp only [hw,List.getElem?_map,hx,hy,ak,al,Option.map_some,List.length_map,go_sem,reduceIte,zA,zB,zC,zD,zE,zF,reduceCtorEq]) ?_ ?_) <;> simp only [ja,lk,reduceIte,zE]
     ·refine ⟨i + 1, rfl, aF, fun j hj => ?_⟩
      rcases Nat.lt_or_ge j i with h | h
      ·exact bn j h
      ·obtain rfl : j = i := by omega
       rw [hx, hy]
       have h9 := mS
       have RL : x.path = y.path := by simpa [bU] using Co
       have Vc : x.set = y.set := by simpa using h9
       rw [Rq.ext' RL Vc]
     ·simp only [Go.Eng.intOf,List.headD_cons]; omega
  ·have dg : ¬ i < s.length := by simpa using eY
   have ax : true = decide (s = t) := (decide_eq_true (nI lq fun j hj => bn j (by omega))).symm
   simp only [List.length_map,go_sem,reduceIte,zA,zB,zC,zD,zE,zF,reduceCtorEq]
   exact hK _ (congrArg bl ax)
theorem vT (a b : Rl) (hb : xV a) : ∃ r_, (fun w => w = bl (decide (a = b))) r_ ∧ aP Tryz.prog 21 [af a, af b] r_ := by
 refine ek tt_ok [] 52 [.tmp 4] (fn := Tryz.f21) Tryz.func21 rfl Tryz.call21 ⟨rfl, rfl, by simp⟩ fun K hK => ?_
 simp only [af,ag,ah]
 have ZP : Tryz.prog.underlying 4 = some .bool := by kernel_rfl
 have DX := fun x y => Kh (P := Tryz.prog) x y ZP a.yk b.yk
 simp only [df,DX,go_sem,reduceIte,zA,zB,zC,zD,zE,zF,reduceCtorEq]
 refine aL (fun zW => ?_) (fun zW => ?_)
 ·simp only [df,DX,go_sem,reduceIte,zA,zB,zC,zD,zE,zF,reduceCtorEq]
  refine aL (fun BR => ?_) (fun BR => ?_)
  ·simp only [df,DX,go_sem,reduceIte,zA,zB,zC,zD,zE,zF,reduceCtorEq]
   refine aL (fun PX => ?_) (fun PX => ?_)
   ·simp only [df,DX,go_sem,reduceIte,zA,zB,zC,zD,zE,zF,reduceCtorEq]
    refine aL (fun PY => ?_) (fun PY => ?_)
    ·simp only [df,DX,go_sem,reduceIte,zA,zB,zC,zD,zE,zF,reduceCtorEq]
     refine aL (fun PZ => ?_) (fun PZ => ?_)
     ·simp only [df,DX,go_sem,reduceIte,zA,zB,zC,zD,zE,zF,reduceCtorEq]
      refine aL (fun P0 => ?_) (fun P0 => ?_)
      ·simp only [df,DX,go_sem,reduceIte,zA,zB,zC,zD,zE,zF,reduceCtorEq]
       refine cF (by have h := Cn a.reqs b.reqs hb.2.1 hb.2.2; simp only [ah] at h; exact h) ?_
       rintro _ rfl
       simp only [df,DX,go_sem,reduceIte,zA,zB,zC,zD,zE,zF,reduceCtorEq]
       refine hK _ (congrArg bl ?_)
       obtain ⟨a1, a2, a3, a4, a5, a6, a7⟩ := a
       obtain ⟨b1, b2, b3, b4, b5, b6, b7⟩ := b
       simp_all [bU, bool_beq]
      ·simp only [df,DX,go_sem,reduceIte,zA,zB,zC,zD,zE,zF,reduceCtorEq]
       refine hK _ (congrArg bl ?_)
       obtain ⟨a1, a2, a3, a4, a5, a6, a7⟩ := a
       obtain ⟨b1, b2, b3, b4, b5, b6, b7⟩ := b
       simp_all [bU, bool_beq]
     ·simp only [df,DX,go_sem,reduceIte,zA,zB,zC,zD,zE,zF,reduceCtorEq]
      refine hK _ (congrArg bl ?_)
      obtain ⟨a1, a2, a3, a4, a5, a6, a7⟩ := a
      obtain ⟨b1, b2, b3, b4, b5, b6, b7⟩ := b
      simp_all [bU, bool_beq]
    ·simp only [df,DX,go_sem,reduceIte,zA,zB,zC,zD,zE,zF,reduceCtorEq]
     refine hK _ (congrArg bl ?_)
     obtain ⟨a1, a2, a3, a4, a5, a6, a7⟩ := a
     obtain ⟨b1, b2, b3, b4, b5, b6, b7⟩ := b
     simp_all [bU, bool_beq]
   ·simp only [df,DX,go_sem,reduceIte,zA,zB,zC,zD,zE,zF,reduceCtorEq]
    refine hK _ (congrArg bl ?_)
    obtain ⟨a1, a2, a3, a4, a5, a6, a7⟩ := a
    obtain ⟨b1, b2, b3, b4, b5, b6, b7⟩ := b
    simp_all [bU, bool_beq]
  ·simp only [df,DX,go_sem,reduceIte,zA,zB,zC,zD,zE,zF,reduceCtorEq]
   refine hK _ (congrArg bl ?_)
   obtain ⟨a1, a2, a3, a4, a5, a6, a7⟩ := a
   obtain ⟨b1, b2, b3, b4, b5, b6, b7⟩ := b
   simp_all [bU, bool_beq]
 ·simp only [df,DX,go_sem,reduceIte,zA,zB,zC,zD,zE,zF,reduceCtorEq]
  refine hK _ (congrArg bl ?_)
  obtain ⟨a1, a2, a3, a4, a5, a6, a7⟩ := a
  obtain ⟨b1, b2, b3, b4, b5, b6, b7⟩ := b
  simp_all [bU, bool_beq]
end Go.Proofs.YtnfeacnbgbggfaaGreatDoor
end

section
namespace Go.Proofs.YtnfeacnbgbggfaaGreatDoor
open Go.Eng
variable [aE]
structure RI (g : List Rl) (roots : List Rq) (S : List Rl) (P : List Rq) (X : Rq → Prop) : Prop where
 sub : ∀ r ∈ S, qZ g roots r
 UF : ∀ q ∈ P, q ∈ roots ∨ ∃ a ∈ S, q ∈ a.reqs
 fU : ∀ q, (q ∈ roots ∨ ∃ a ∈ S, q ∈ a.reqs) → X q ∨ q ∈ P ∨ ∀ r ∈ g, jQ q r = true → r ∈ S
theorem RI.start (g : List Rl) (roots : List Rq) : RI g roots [] roots fun _ => False :=
 ⟨fun r hr => by simp at hr, fun q hq => .inl hq, fun q hq => by
  rcases hq with hq | ⟨a, ha, -⟩
  ·exact .inr (.inl hq)
  ·simp at ha⟩
variable {g : List Rl} {roots : List Rq} {S : List Rl} {P : List Rq}
theorem RI.fin (h : RI g roots S [] fun _ => False) {r : Rl} : r ∈ S ↔ qZ g roots r := by
 refine ⟨h.sub r, fun hr => ?_⟩
 induction hr with
 | root q r hq hr hh =>
  rcases h.fU q (.inl hq) with h1 | h1 | h1
  ·exact h1.elim
  ·simp at h1
  ·exact h1 r hr hh
 | step a q r _ hq hr hh ih =>
  rcases h.fU q (.inr ⟨a, ih, hq⟩) with h1 | h1 | h1
  ·exact h1.elim
  ·simp at h1
  ·exact h1 r hr hh
theorem RI.pop {q : Rq} (h : RI g roots S (q :: P) fun _ => False) : RI g roots S P (fun x => x = q) ∧ (q ∈ roots ∨ ∃ a ∈ S, q ∈ a.reqs) :=
 ⟨⟨h.sub, fun x hx => h.UF x (by simp [hx]), fun x hx => by
  rcases h.fU x hx with h1 | h1 | h1
  ·exact h1.elim
  ·rcases List.mem_cons.1 h1 with h1 | h1
   ·exact .inl h1
   ·exact .inr (.inl h1)
  ·exact .inr (.inr h1)⟩, h.UF q (by simp)⟩
theorem RI.WW {q : Rq} {r : Rl} (h : RI g roots S P fun x => x = q) (hq : q ∈ roots ∨ ∃ a ∈ S, q ∈ a.reqs) (hr : r ∈ g) (hh : jQ q r = true) : RI g roots (S ++ [r]) (P ++ r.reqs) fun x => x = q := by
 refine ⟨fun x hx => ?_, fun x hx => ?_, fun x hx => ?_⟩
 ·rcases List.mem_append.1 hx with hx | hx
  ·exact h.sub x hx
  ·rw [List.mem_singleton] at hx; subst hx
   rcases hq with hq | ⟨a, ha, hq⟩
   ·exact .root q x hq hr hh
   ·exact .step a q x (h.sub a ha) hq hr hh
 ·rcases List.mem_append.1 hx with hx | hx
  ·rcases h.UF x hx with h1 | ⟨a, ha, h1⟩
   ·exact .inl h1
   ·exact .inr ⟨a, List.mem_append_left _ ha, h1⟩
  ·exact .inr ⟨r, List.mem_append_right _ (List.mem_singleton.2 rfl), hx⟩
 ·have : (x ∈ roots ∨ ∃ a ∈ S, x ∈ a.reqs) ∨ x ∈ r.reqs := by
   rcases hx with hx | ⟨a, ha, hx⟩
   ·exact .inl (.inl hx)
   ·rcases List.mem_append.1 ha with ha | ha
    ·exact .inl (.inr ⟨a, ha, hx⟩)
    ·rw [List.mem_singleton] at ha; subst ha; exact .inr hx
  rcases this with hx | hx
  ·rcases h.fU x hx with h1 | h1 | h1
   ·exact .inl h1
   ·exact .inr (.inl (List.mem_append_left _ h1))
   ·exact .inr (.inr fun y hy Vn => List.mem_append_left _ (h1 y hy Vn))
  ·exact .inr (.inl (List.mem_append_right _ hx))
theorem RI.close {q : Rq} (h : RI g roots S P fun x => x = q) (hc : ∀ r ∈ g, jQ q r = true → r ∈ S) : RI g roots S P fun _ => False :=
 ⟨h.sub, h.UF, fun x hx => by
  rcases h.fU x hx with rfl | h1 | h1
  ·exact .inr (.inr hc)
  ·exact .inr (.inl h1)
  ·exact .inr (.inr h1)⟩
def seen (S : List Rl) (k : gR) : Bool := S.any fun r => decide (r.key = k)
theorem tY {S : List Rl} {k : gR} : seen S k = true ↔ ∃ r ∈ S, r.key = k := by unfold seen; rw [List.any_eq_true]; simp
theorem l9 (hs : g.Pairwise jV) (hS : ∀ r ∈ S, r ∈ g) {r : Rl} (hr : r ∈ g) : seen S r.key = true ↔ r ∈ S := by
 rw [tY]
 constructor
 ·rintro ⟨x, hx, he⟩
  have ZQ := hS x hx
  obtain ⟨i, hi, rfl⟩ := List.getElem_of_mem ZQ
  obtain ⟨j, hj, rfl⟩ := List.getElem_of_mem hr
  rcases Nat.lt_trichotomy i j with h | h | h
  ·exact absurd he (jW (List.pairwise_iff_getElem.1 hs i j hi hj h))
  ·subst h; exact hx
  ·exact absurd he.symm (jW (List.pairwise_iff_getElem.1 hs j i hj hi h))
 ·exact fun h => ⟨r, h, rfl⟩
def cy (g S : List Rl) : Nat := ((g.filter fun r => !seen S r.key).map fun r => r.reqs.length).sum
theorem Af (g S : List Rl) : cy g S ≤ (g.map fun r => r.reqs.length).sum := by
 unfold cy
 induction g with
 | nil => simp
 | cons a r ih =>
  rw [List.filter_cons]
  split <;> simp <;> omega
theorem vU (S : List Rl) (r : Rl) (k : gR) : seen (S ++ [r]) k = (seen S k || decide (r.key = k)) := by simp [seen]
theorem ql (hs : g.Pairwise jV) {r : Rl} (hr : r ∈ g) (hn : seen S r.key = false) : cy g (S ++ [r]) + r.reqs.length = cy g S := by
 unfold cy
 induction g with
 | nil => simp at hr
 | cons a t ih =>
  rw [List.pairwise_cons] at hs
  simp only [List.filter_cons,vU]
  rcases List.mem_cons.1 hr with rfl | hr
  ·have h2 : (t.filter fun x => !(seen S x.key || decide (r.key = x.key))) = t.filter fun x => !seen S x.key := by
    refine List.filter_congr fun x hx => ?_
    have := jW (hs.1 x hx)
    simp [this]
   simp only [hn,decide_true,Bool.or_true,Bool.not_true,Bool.not_false,if_true,Bool.false_eq_true,if_false,h2,List.map_cons,List.sum_cons]
   omega
  ·have bD : ¬ r.key = a.key := fun e => jW (hs.1 r hr) e.symm
   have := ih hs.2 hr
   simp only [vU] at this
   simp only [bD,decide_false,Bool.or_false]
   split
   ·simp only [List.map_cons,List.sum_cons]; omega
   ·exact this
def gS (S : List Rl) : List (gR × V) := S.map fun r => (r.key, bl true)
theorem aw (n : Nat) (S : List Rl) : ((bC aN 0 (gS S)).all fun e => ai n e.2.2) = true := by
 rw [kP aN (ai n)]
 unfold gS
 simp [ai]
theorem DY (k : gR) : ∀ S : List Rl, (getM k (gS S)).getD (bl false) = bl (seen S k)
 | [] => rfl
 | r :: t => by
  show (if r.key = k then some (bl true) else getM k (gS t)).getD _ = _
  unfold seen
  rw [List.any_cons]
  by_cases h : r.key = k
  ·simp [h]
  ·have := DY k t
   unfold seen at this
   simp [h, this]
theorem tZ (S : List Rl) (k : gR) {mem : List au} {b : Nat} (hm : mem[b]? = some (.map (bC aN 0 (gS S)) (gS S).length)) : c7 Tryz.prog mem 85 (.mp b) (mT k) false = some (bl (seen S k)) := by
 rw [TB.get k (gS S) hm Ng, DY]; rfl
theorem Ag {S : List Rl} {r : Rl} (h : seen S r.key = false) {mem : List au} {b : Nat} (hm : mem[b]? = some (.map (bC aN 0 (gS S)) (gS S).length)) : ch Tryz.prog mem 85 (.mp b) (mT r.key) (bl true) = some (mem.set b (.map (bC aN 0 (gS (S ++ [r]))) (gS (S ++ [r])).length)) := by
 have hp : lj r.key (bl true) (gS S) = gS (S ++ [r]) := by
  unfold lj gS
  rw [nP (fun e he => by
   obtain ⟨x, hx, rfl⟩ := List.mem_map.1 he
   exact fun e => by rw [tY.2 ⟨x, hx, e⟩] at h; cases h), List.map_append]
  rfl
 rw [TB.put r.key (bl true) (gS S) hm, hp]
theorem sb {l : List Rl} {p : ByteArray} {r : Rl} : r ∈ dy l p ↔ r ∈ l ∧ r.path = p := by unfold dy; simp
theorem sd (l : List Rl) (q : ByteArray) {mem : List au} {b : Nat} (hm : mem[b]? = some (.map (bC strVal 0 (gP l)) (aM l).length)) :
  c7 Tryz.prog mem 80 (.mp b) (str q) false = some (if q ∈ aM l then .slice (bQ l q) else .sc (.slice none 0 0)) := by
 rw [← qi] at hm
 rw [PQ.get q (gP l) hm Io]
 unfold gP
 rw [tU]
 split <;> rfl
theorem ua (h : RI g roots S [] fun _ => False) (hs : g.Pairwise jV) : de g roots = g.filter fun r => seen S r.key := by
 unfold de
 refine List.filter_congr fun r hr => ?_
 have hS : ∀ x ∈ S, x ∈ g := fun x hx => (h.sub x hx).mem
 rw [Bool.eq_iff_iff, @decide_eq_true_iff _ (Classical.propDecidable _), ← h.fin, l9 hs hS hr]
end Go.Proofs.YtnfeacnbgbggfaaGreatDoor
end

section
namespace Go.Proofs.YtnfeacnbgbggfaaGreatDoor
open Go.Eng
open Nat renaming reduceAdd → zA, reduceLT → zB, reduceLeDiff → zC, reduceMul → zD, reduceEqDiff → zE, reduceSub → zF
variable [aE]
set_option maxHeartbeats 4000000
set_option maxRecDepth 100000
theorem uV (l : List Rq) (hl : l.length ≤ 34359738368) : aR Tryz.prog 23 [.slice (l.map ak)] [] (.ms 0 1 0 l.length) [.rows 1 2 (l.map ak)] := by
 have h1 := cr l
 have NB : (l.map ak).length ≤ 34359738368 := by rw [List.length_map]; exact hl
 rw [← List.length_map (f := ak)]
 generalize l.map ak = rows at h1 NB
 refine GH tt_ok (fn := Tryz.f23) 1 (by simp) Tryz.func23 rfl Tryz.call23 ?_
 simp only [F6,eh,Tryz.ntmps23,List.length_cons,List.length_nil,zA,zF,List.replicate_succ,List.replicate_zero]
 refine fL tt_ok fun K hK => ?_
 simp only [go_sem,reduceIte,zA,zB,zC,zD,zE,zF,reduceCtorEq]
 refine hK _ ?_
 refine ku ?_
 refine fL tt_ok fun K hK => ?_
 simp only [go_sem,reduceIte,zA,zB,zC,zD,zE,zF,reduceCtorEq]
 intro b hb
 refine hK _ ?_
 cases b with
 | true =>
  have h0 : rows = [] := by
   cases rows with
   | nil => rfl
   | cons a r => have := hb (by simp); cases this
  subst h0
  refine lJ rfl ?_
  refine fL tt_ok fun K hK => ?_
  simp only [go_sem,reduceIte,zA,zB,zC,zD,zE,zF,reduceCtorEq]
  refine hK _ ?_
  refine EH 2 1 2 rfl ?_
  exact oy ⟨.inl rfl, rfl, rfl, rfl, rfl⟩
 | false =>
  refine lJ rfl (lI ?_)
  show gA _ _ _ _ _ _
  refine fL tt_ok fun K hK => ?_
  simp only [h1,NB,go_sem,reduceIte,zA,zB,zC,zD,zE,zF,reduceCtorEq]
  refine hK _ ?_
  refine oy ⟨.inl rfl, ?_⟩
  simp [iI, sO, yE, Tryz.f23, ai, aB, dh]
theorem ri (l : List Rq) (hl : l.length ≤ 34359738368) (M : List au) : ∃ r_ m_, (fun r m => r = V.ms M.length 1 0 l.length ∧ m = M ++ [.rows 1 2 (l.map ak)]) r_ m_ ∧ aR Tryz.prog 23 [.slice (l.map ak)] M r_ m_ := by
 have h2 := (uV l hl).zd M (fun j => M.length + j) 0 rfl rfl rfl (by simp [ai]) rfl (Nat.zero_le _) (fun i B hi => by simp at hi) (fun i j hi => by omega) (fun j _ => by omega)
 exact ⟨_, _, ⟨rfl, rfl⟩, h2⟩
theorem Ah {l : List Rl} {r : Rl} (h : r ∈ aq l) : r ∈ l := by
 unfold aq at h
 split at h
 ·exact h
 ·simp at h
theorem eB (l : List Rl) : (aq l).Pairwise jV := by
 unfold aq
 split
 ·exact vR ‹_›
 ·exact List.Pairwise.nil
theorem vV : ∀ (l : List Rl) (b : Option Rl), ey b l = 0 → ∀ r ∈ l, fY r = 0
 | [], _, _, r, hr => by simp at hr
 | a :: t, b, h, r, hr => by
  rw [fo] at h
  by_cases h0 : fY a = 0
  ·rcases List.mem_cons.1 hr with rfl | hr
   ·exact h0
   ·rw [if_neg (by simp [h0])] at h
    refine vV t (some a) ?_ r hr
    cases b with
    | none => exact h
    | some p =>
     dsimp only at h
     split at h
     ·omega
     ·split at h
      ·omega
      ·exact h
  ·rw [if_pos h0] at h; exact absurd h h0
theorem DZ {l : List Rl} {r : Rl} (h : r ∈ aq l) : fY r = 0 := by
 unfold aq at h
 split at h
 ·rename_i h0
  unfold ir at h0
  split at h0
  ·omega
  ·exact vV l none h0 r h
 ·simp at h
theorem ub {l : List Rl} {r : Rl} (h : r ∈ aq l) : r.ay.ok = true := by
 have h1 := DZ h
 unfold fY at h1
 split at h1
 ·omega
 ·split at h1
  ·omega
  ·rename_i h2
   revert h2
   cases r.ay.ok <;> simp
theorem mL {l : List Rl} {r : Rl} (h : r ∈ aq l) : r.reqs.length ≤ 16 := by
 have h1 := DZ h
 unfold fY at h1
 split at h1
 ·omega
 ·split at h1
  ·omega
  ·split at h1
   ·rename_i h2; exact absurd h1 h2
   ·rename_i h2
    simp only [ne_eq,Decidable.not_not] at h2
    unfold fw at h2
    split at h2 <;> omega
theorem iX (l : List Rl) : (aq l).length ≤ 256 := by
 unfold aq
 split
 ·exact PL ‹_›
 ·simp
theorem Cp (l S : List Rl) : cy (aq l) S ≤ 4096 := by
 refine Nat.le_trans (Af _ _) ?_
 have h1 : ∀ g : List Rl, (∀ r ∈ g, r.reqs.length ≤ 16) → (g.map fun r => r.reqs.length).sum ≤ 16 * g.length := fun g => by
  induction g with
  | nil => simp
  | cons a t ih =>
   intro h
   have := ih fun r hr => h r (by simp [hr])
   have := h a (by simp)
   simp only [List.map_cons,List.sum_cons,List.length_cons]; omega
 have := h1 (aq l) fun r hr => mL hr
 have := iX l
 omega
end Go.Proofs.YtnfeacnbgbggfaaGreatDoor
end

section
namespace Go.Proofs.YtnfeacnbgbggfaaGreatDoor
open Go.Eng
open Nat renaming reduceAdd → zA, reduceLT → zB, reduceLeDiff → zC, reduceMul → zD, reduceEqDiff → zE, reduceSub → zF
variable [aE]
set_option maxHeartbeats 4000000
set_option maxRecDepth 100000
theorem IC (hG : aE.g = some 0) (l : List Rl) (I : List V) (hb : F8 l) (roots : List Rq) (hr : roots.length ≤ 1048576) (WX : ∀ q ∈ roots, tH q) : aP Tryz.prog 13 [dw l I, ah roots] (bT ((de (aq l) roots).map Rl.key)) := by
 refine QZ tt_ok [] 79 [.tmp 4] (fn := Tryz.f13) Tryz.func13 rfl Tryz.call13 ⟨rfl, rfl, by simp⟩ fun K hK => ?_
 simp only [dw,bP,ah]
 have JM := hb.1
 simp only [ab,ae,aw,List.length_map,go_sem,reduceIte,zA,zB,zC,zD,zE,zF,reduceCtorEq]
 refine cW (by have h := l6 hG l I hb; simp only [dw,bP] at h; exact h _) ?_
 rintro _ _ ⟨rfl, rfl⟩
 simp only [F6,TF,List.length_cons,List.length_nil,zA]
 simp only [ab,ae,aw,List.length_map,go_sem,reduceIte,zA,zB,zC,zD,zE,zF,reduceCtorEq]
 refine cW (ri roots (by omega) _) ?_
 rintro _ _ ⟨rfl, rfl⟩
 try simp only [F6,List.length_cons,List.length_nil,zA]
 simp only [ab,ae,aw,List.length_map,go_sem,reduceIte,zA,zB,zC,zD,zE,zF,reduceCtorEq]
 refine cT tt_ok [] (fun a : List Rl × List Rq × Nat × Nat × List V => [(2, .ptr 0 0), (5, .ptr 5 0), (7, .mp 6), (8, .ms 7 a.2.2.1 a.2.2.2.1 a.2.1.length)]) (fun a : List Rl × List Rq × Nat × Nat × List V => [.box [.slice (l.map af), .slice I], .box [.slice (l.map af), .slice I], .box [.mp 3, .mp 4], .map (bC aN 0 (gK (aq l))) (gK (aq l)).length, .map (bC strVal 0 (gP (aq l))) (aM (aq l)).length, .box [.mp 3, .mp 4], .map (bC aN 0 (gS a.1)) (gS a.1).length, .rows a.2.2.1 2 a.2.2.2.2]) (fun a => a.2.1.length + cy (aq l) a.1) (fun a => RI (aq l) roots a.1 a.2.1 (fun _ => False) ∧ a.2.2.2.2.drop a.2.2.2.1 = a.2.1.map ak ∧ a.2.2.2.1 + a.2.1.length = a.2.2.2.2.length ∧ a.2.1.length + cy (aq l) a.1 ≤ roots.length + 4096) (([], roots, 1, 0, roots.map ak)) 8 (bd (by omega) (by simp only [ab,ae,aw,List.length_map,gS,List.map_nil,bC,List.length_nil,Int.cast_ofNat_Int,go_sem,reduceIte,zA,zB,zC,zD,zE,zF,reduceCtorEq] <;> rfl)) (⟨RI.start _ _, rfl, by simp, by have := Cp l []; dsimp only; omega⟩) ?_
 rintro ⟨S, P, v, o, rs⟩ ⟨ID, AE, NQ, hW⟩
 try dsimp only at ID AE NQ hW ⊢
 intro Z1 cE
 simp only [ab,ae,aw,List.length_map,go_sem,reduceIte,zA,zB,zC,zD,zE,zF,reduceCtorEq]
 refine aL (fun fu => ?_) (fun fu => ?_)
 ·obtain ⟨q, P, rfl⟩ : ∃ q P2, P = q :: P2 := by
   cases P with
   | nil => simp at fu
   | cons q r => exact ⟨q, r, rfl⟩
  simp only [List.length_cons] at fu ⊢
  rw [fu]
  obtain ⟨IE, hq⟩ := ID.pop
  have bW : rs[o]? = some (ak q) := by
   have h := congrArg (fun x => x[0]?) AE
   simpa using h
  have kQ : rs.drop (o + 1) = P.map ak := by
   rw [← List.drop_drop, AE]; rfl
  have jY : o + 1 + P.length = rs.length := by rw [List.length_cons] at NQ; omega
  rw [List.length_cons] at hW
  have h0 : (0 : Int) < ((P.length + 1 : Nat) : Int) := by omega
  have h1 : (1 : Int) ≤ ((P.length + 1 : Nat) : Int) := by omega
  have dN : (((P.length + 1 : Nat) : Int) - 1).toNat = P.length := by omega
  have cU : ∀ mem : List au, mem[7]? = some (.rows v 2 rs) → cutAt mem 2 1 none (.ms 7 v o (P.length + 1)) = some (.ms 7 v (o + 1) P.length) := fun mem hm => by
   unfold cutAt
   simp [eH, hm] <;> omega
  have JY : tH q := by
   rcases hq with hq | ⟨a, ha, hq⟩
   ·exact WX q hq
   ·exact (hb.2 a (Ah (ID.sub a ha).mem)).2.2 q hq
  by_cases hY : q.path ∈ aM (aq l)
  ·have dL := fun (mem : List au) (b : Nat) hm => sd (aq l) q.path (mem := mem) (b := b) hm
   simp only [if_pos hY,bQ] at dL
   simp only [ab,ae,aw,bW,h0,h1,dN,cU,List.length_cons,ak,al,Nat.add_zero,Int.le_refl,Int.toNat_one,Int.toNat_zero,dL,List.length_map,go_sem,reduceIte,zA,zB,zC,zD,zE,zF,reduceCtorEq]
   refine cT tt_ok [] (fun b : List Rl × List Rq × Nat × Nat × List V × Nat => [(2, .ptr 0 0), (5, .ptr 5 0), (7, .mp 6), (8, .ms 7 b.2.2.1 b.2.2.2.1 b.2.1.length), (9, .ptr 8 0), (35, .slice ((dy (aq l) q.path).map af)), (36, num (dy (aq l) q.path).length), (37, num b.2.2.2.2.2)]) (fun b : List Rl × List Rq × Nat × Nat × List V × Nat => [.box [.slice (l.map af), .slice I], .box [.slice (l.map af), .slice I], .box [.mp 3, .mp 4], .map (bC aN 0 (gK (aq l))) (gK (aq l)).length, .map (bC strVal 0 (gP (aq l))) (aM (aq l)).length, .box [.mp 3, .mp 4], .map (bC aN 0 (gS b.1)) (gS b.1).length, .rows b.2.2.1 2 b.2.2.2.2.1, .box [str q.path, .slice (q.set.map aj)]]) (fun b => (dy (aq l) q.path).length - b.2.2.2.2.2) (fun b => RI (aq l) roots b.1 b.2.1 (fun x => x = q) ∧ (q ∈ roots ∨ ∃ a ∈ b.1, q ∈ a.reqs) ∧ b.2.2.2.2.1.drop b.2.2.2.1 = b.2.1.map ak ∧ b.2.2.2.1 + b.2.1.length = b.2.2.2.2.1.length ∧ b.2.1.length + cy (aq l) b.1 + 1 ≤ P.length + 1 + cy (aq l) S ∧ b.2.2.2.2.2 ≤ (dy (aq l) q.path).length ∧ ∀ r ∈ (dy (aq l) q.path).take b.2.2.2.2.2, has q.set r.ay.place = true → r ∈ b.1) ((S, P, v, o + 1, rs, 0)) 9 (bd (by omega) (by simp only [ab,ae,aw,bW,h0,h1,dN,cU,List.length_cons,ak,al,Nat.add_zero,Int.le_refl,Int.toNat_one,Int.toNat_zero,dL,List.length_map,Int.cast_ofNat_Int,go_sem,reduceIte,zA,zB,zC,zD,zE,zF,reduceCtorEq] <;> rfl)) (⟨IE, hq, kQ, jY, by dsimp only; omega, Nat.zero_le _, fun r hr => by simp at hr⟩) ?_
   rintro ⟨S1, P1, v1, o1, n9, j⟩ ⟨qm, xY, kQ, jY, P3, hj, jZ⟩
   try dsimp only at qm xY kQ jY P3 hj jZ ⊢
   intro Z2 pn
   simp only [ab,ae,aw,bW,h0,h1,dN,cU,List.length_cons,ak,al,Nat.add_zero,Int.le_refl,Int.toNat_one,Int.toNat_zero,dL,List.length_map,go_sem,reduceIte,zA,zB,zC,zD,zE,zF,reduceCtorEq]
   refine aL (fun jC => ?_) (fun jC => ?_)
   ·have aF : j < (dy (aq l) q.path).length := by simpa using jC
    have IF : (dy (aq l) q.path).length ≤ 256 := Nat.le_trans (List.length_filter_le _ _) (iX l)
    have hw := aC j (by omega)
    obtain ⟨x, hx⟩ : ∃ x, (dy (aq l) q.path)[j]? = some x := ⟨_, List.getElem?_eq_getElem aF⟩
    have rD := sb.1 (List.mem_of_getElem? hx)
    have DG : x.ay.pl = x.ay.place := by unfold fA.pl; rw [if_pos (ub rD.1)]
    have mM := fun (mem : List au) (b : Nat) hm => tZ S1 x.key (mem := mem) (b := b) hm
    simp only [mT] at mM
    have uq : (dy (aq l) q.path).take (j + 1) = (dy (aq l) q.path).take j ++ [x] := iw hx
    have TG : ∀ r ∈ S1, r ∈ aq l := fun r hr => (qm.sub r hr).mem
    simp only [ab,ae,aw,bW,h0,h1,dN,cU,List.length_cons,ak,al,Nat.add_zero,Int.le_refl,Int.toNat_one,Int.toNat_zero,dL,hw,List.getElem?_map,hx,af,ag,ah,mM,List.length_map,go_sem,reduceIte,zA,zB,zC,zD,zE,zF,reduceCtorEq]
    refine bH tt_ok aK [⟨.n, 0, [], [], []⟩, ⟨.r, 0, [], [], []⟩, ⟨.n, 0, [], [], []⟩, ⟨.r, 0, [], [], []⟩, ⟨.n, 0, [], [], []⟩, ⟨.n, 0, [], [], []⟩, ⟨.n, 0, [], [], []⟩, ⟨.r, 0, [], [], []⟩, ⟨.r, 0, [], [], []⟩, ⟨.n, 0, [], [], []⟩, ⟨.n, 0, [], [], []⟩, ⟨.n, 0, [], [], []⟩] 0 (by kernel_rfl) ?_
    simp only [ab,ae,aw,bW,h0,h1,dN,cU,List.length_cons,ak,al,Nat.add_zero,Int.le_refl,Int.toNat_one,Int.toNat_zero,dL,hw,List.getElem?_map,hx,af,ag,ah,mM,List.length_map,go_sem,reduceIte,zA,zB,zC,zD,zE,zF,reduceCtorEq]
    refine cG (by have h := kM x; simp only [af,ag,ah,bh] at h; exact h) ?_
    rintro _ rfl
    simp only [ab,ae,aw,bW,h0,h1,dN,cU,List.length_cons,ak,al,Nat.add_zero,Int.le_refl,Int.toNat_one,Int.toNat_zero,dL,hw,List.getElem?_map,hx,af,ag,ah,mM,List.length_map,go_sem,reduceIte,zA,zB,zC,zD,zE,zF,reduceCtorEq]
    refine aL (fun nS => ?_) (fun nS => ?_)
    ·simp only [ab,ae,aw,bW,h0,h1,dN,cU,List.length_cons,ak,al,Nat.add_zero,Int.le_refl,Int.toNat_one,Int.toNat_zero,dL,hw,List.getElem?_map,hx,af,ag,ah,mM,List.length_map,go_sem,reduceIte,zA,zB,zC,zD,zE,zF,reduceCtorEq]
     refine cG (by have h := iN x; simp only [af,ag,ah] at h; exact h) ?_
     rintro _ rfl
     simp only [ab,ae,aw,bW,h0,h1,dN,cU,List.length_cons,ak,al,Nat.add_zero,Int.le_refl,Int.toNat_one,Int.toNat_zero,dL,hw,List.getElem?_map,hx,af,ag,ah,mM,List.length_map,go_sem,reduceIte,zA,zB,zC,zD,zE,zF,reduceCtorEq]
     refine cG (by have h := BP q.set x.ay.pl JY.2; simp only [al] at h; exact h) ?_
     rintro _ rfl
     simp only [ab,ae,aw,bW,h0,h1,dN,cU,List.length_cons,ak,al,Nat.add_zero,Int.le_refl,Int.toNat_one,Int.toNat_zero,dL,hw,List.getElem?_map,hx,af,ag,ah,mM,List.length_map,go_sem,reduceIte,zA,zB,zC,zD,zE,zF,reduceCtorEq]
     refine aL (fun qn => ?_) (fun qn => ?_)
     ·have TH : seen S1 x.key = false := by simpa using nS
      have P4 : has q.set x.ay.place = true := by rw [← DG]; simpa using qn
      have IG : jQ q x = true := by unfold jQ; rw [P4, rD.2]; simp
      have xH := qm.WW xY rD.1 IG
      have Rf := ql (eB l) rD.1 TH
      have X6 := mL rD.1
      have xZ := fun (mem : List au) (b : Nat) hm => Ag TH (mem := mem) (b := b) hm
      simp only [mT] at xZ
      simp only [ab,ae,aw,bW,h0,h1,dN,cU,List.length_cons,ak,al,Nat.add_zero,Int.le_refl,Int.toNat_one,Int.toNat_zero,dL,hw,List.getElem?_map,hx,af,ag,ah,mM,xZ,List.length_map,go_sem,reduceIte,zA,zB,zC,zD,zE,zF,reduceCtorEq]
      refine cF (by have h := kM x; simp only [af,ag,ah,bh] at h; exact h) ?_
      rintro _ rfl
      rcases Nat.eq_zero_or_pos o1 with rfl | kh
      ·have ka : n9.length = P1.length := by omega
       have fJ := cr x.reqs
       have fS : P1.length + x.reqs.length ≤ 34359738368 := by omega
       have Ev : (n9 ++ x.reqs.map ak).drop 0 = n9.drop 0 ++ x.reqs.map ak := rfl
       have DA : 0 + (P1.length + x.reqs.length) = (n9 ++ x.reqs.map ak).length := by rw [List.length_append, List.length_map, ka, Nat.zero_add]
       let nv : List Rl × List Rq × Nat × Nat × List V × Nat := (S1 ++ [x], P1 ++ x.reqs, v1 + 1, 0, (n9 ++ x.reqs.map ak), j + 1)
       have rF : RI (aq l) roots (S1 ++ [x]) (P1 ++ x.reqs) (fun y => y = q) ∧ (q ∈ roots ∨ ∃ a ∈ S1 ++ [x], q ∈ a.reqs) ∧ (n9 ++ x.reqs.map ak).drop 0 = (P1 ++ x.reqs).map ak ∧ 0 + (P1 ++ x.reqs).length = (n9 ++ x.reqs.map ak).length ∧ (P1 ++ x.reqs).length + cy (aq l) (S1 ++ [x]) + 1 ≤ P.length + 1 + cy (aq l) S ∧ j + 1 ≤ (dy (aq l) q.path).length ∧ ∀ r ∈ (dy (aq l) q.path).take (j + 1), has q.set r.ay.place = true → r ∈ S1 ++ [x] := by
        refine ⟨xH, ?_, by rw [Ev, kQ, List.map_append], by rw [List.length_append]; omega, by rw [List.length_append]; omega, aF, fun r hr hh => ?_⟩
        ·rcases xY with h | ⟨a, ha, h⟩
         ·exact .inl h
         ·exact .inr ⟨a, List.mem_append_left _ ha, h⟩
        ·rw [uq] at hr
         rcases List.mem_append.1 hr with hr | hr
         ·exact List.mem_append_left _ (jZ r hr hh)
         ·exact List.mem_append_right _ hr
       simp only [ab,ae,aw,bW,h0,h1,dN,cU,List.length_cons,ak,al,Nat.add_zero,Int.le_refl,Int.toNat_one,Int.toNat_zero,dL,hw,List.getElem?_map,hx,af,ag,ah,mM,xZ,ka,fJ,fS,List.length_map,go_sem,reduceIte,zA,zB,zC,zD,zE,zF,reduceCtorEq]
       refine pn _ ⟨nv, ?_, ?_, bd (by omega) (by (first | (simp only [nv,hw,List.length_append,List.length_map,ab,ae,aw,go_sem,reduceIte,zA,zB,zC,zD,zE,zF,reduceCtorEq]; done) | (simp only [nv,hw,List.length_append,List.length_map,ka,ab,ae,aw,go_sem,reduceIte,zA,zB,zC,zD,zE,zF,reduceCtorEq]; done)))⟩
       ·exact rF
       ·dsimp only [nv]; omega
      ·obtain ⟨o0, rfl⟩ : ∃ k, o1 = k + 1 := ⟨o1 - 1, by omega⟩
       have fJ := cr x.reqs
       have fS : P1.length + x.reqs.length ≤ 34359738368 := by omega
       simp only [ab,ae,aw,bW,h0,h1,dN,cU,List.length_cons,ak,al,Nat.add_zero,Int.le_refl,Int.toNat_one,Int.toNat_zero,dL,hw,List.getElem?_map,hx,af,ag,ah,mM,xZ,jY,fJ,fS,List.length_map,go_sem,reduceIte,zA,zB,zC,zD,zE,zF,reduceCtorEq]
       refine VX ?_
       intro o2 D0 Ev DA
       try rw [List.length_map] at DA
       let nv : List Rl × List Rq × Nat × Nat × List V × Nat := (S1 ++ [x], P1 ++ x.reqs, v1 + 1, o2, D0, j + 1)
       have rF : RI (aq l) roots (S1 ++ [x]) (P1 ++ x.reqs) (fun y => y = q) ∧ (q ∈ roots ∨ ∃ a ∈ S1 ++ [x], q ∈ a.reqs) ∧ D0.drop o2 = (P1 ++ x.reqs).map ak ∧ o2 + (P1 ++ x.reqs).length = D0.length ∧ (P1 ++ x.reqs).length + cy (aq l) (S1 ++ [x]) + 1 ≤ P.length + 1 + cy (aq l) S ∧ j + 1 ≤ (dy (aq l) q.path).length ∧ ∀ r ∈ (dy (aq l) q.path).take (j + 1), has q.set r.ay.place = true → r ∈ S1 ++ [x] := by
        refine ⟨xH, ?_, by rw [Ev, kQ, List.map_append], by rw [List.length_append]; omega, by rw [List.length_append]; omega, aF, fun r hr hh => ?_⟩
        ·rcases xY with h | ⟨a, ha, h⟩
         ·exact .inl h
         ·exact .inr ⟨a, List.mem_append_left _ ha, h⟩
        ·rw [uq] at hr
         rcases List.mem_append.1 hr with hr | hr
         ·exact List.mem_append_left _ (jZ r hr hh)
         ·exact List.mem_append_right _ hr
       simp only [ab,ae,aw,bW,h0,h1,dN,cU,List.length_cons,ak,al,Nat.add_zero,Int.le_refl,Int.toNat_one,Int.toNat_zero,dL,hw,List.getElem?_map,hx,af,ag,ah,mM,xZ,jY,fJ,fS,List.length_map,go_sem,reduceIte,zA,zB,zC,zD,zE,zF,reduceCtorEq]
       refine pn _ ⟨nv, ?_, ?_, bd (by omega) (by (first | (simp only [nv,hw,List.length_append,List.length_map,ab,ae,aw,go_sem,reduceIte,zA,zB,zC,zD,zE,zF,reduceCtorEq]; done) | (simp only [nv,hw,List.length_append,List.length_map,ka,ab,ae,aw,go_sem,reduceIte,zA,zB,zC,zD,zE,zF,reduceCtorEq]; done)))⟩
       ·exact rF
       ·dsimp only [nv]; omega
     ·let nv : List Rl × List Rq × Nat × Nat × List V × Nat := (S1, P1, v1, o1, n9, j + 1)
      have rF : RI (aq l) roots S1 P1 (fun y => y = q) ∧ (q ∈ roots ∨ ∃ a ∈ S1, q ∈ a.reqs) ∧ n9.drop o1 = P1.map ak ∧ o1 + P1.length = n9.length ∧ P1.length + cy (aq l) S1 + 1 ≤ P.length + 1 + cy (aq l) S ∧ j + 1 ≤ (dy (aq l) q.path).length ∧ ∀ r ∈ (dy (aq l) q.path).take (j + 1), has q.set r.ay.place = true → r ∈ S1 := by
       refine ⟨qm, xY, kQ, jY, P3, aF, fun r hr hh => ?_⟩
       rw [uq] at hr
       rcases List.mem_append.1 hr with hr | hr
       ·exact jZ r hr hh
       ·rw [List.mem_singleton] at hr; subst hr
        refine (l9 (eB l) TG rD.1).1 ?_
        first | exact nb | (rw [DG, hh] at qn; cases qn)
      simp only [ab,ae,aw,bW,h0,h1,dN,cU,List.length_cons,ak,al,Nat.add_zero,Int.le_refl,Int.toNat_one,Int.toNat_zero,dL,hw,List.getElem?_map,hx,af,ag,ah,mM,List.length_map,go_sem,reduceIte,zA,zB,zC,zD,zE,zF,reduceCtorEq]
      refine pn _ ⟨nv, ?_, ?_, bd (by omega) (by (first | (simp only [nv,hw,List.length_append,List.length_map,ab,ae,aw,go_sem,reduceIte,zA,zB,zC,zD,zE,zF,reduceCtorEq]; done) | (simp only [nv,hw,List.length_append,List.length_map,ka,ab,ae,aw,go_sem,reduceIte,zA,zB,zC,zD,zE,zF,reduceCtorEq]; done)))⟩
      ·exact rF
      ·dsimp only [nv]; omega
    ·have nb : seen S1 x.key = true := by simpa using nS
     let nv : List Rl × List Rq × Nat × Nat × List V × Nat := (S1, P1, v1, o1, n9, j + 1)
     have rF : RI (aq l) roots S1 P1 (fun y => y = q) ∧ (q ∈ roots ∨ ∃ a ∈ S1, q ∈ a.reqs) ∧ n9.drop o1 = P1.map ak ∧ o1 + P1.length = n9.length ∧ P1.length + cy (aq l) S1 + 1 ≤ P.length + 1 + cy (aq l) S ∧ j + 1 ≤ (dy (aq l) q.path).length ∧ ∀ r ∈ (dy (aq l) q.path).take (j + 1), has q.set r.ay.place = true → r ∈ S1 := by
      refine ⟨qm, xY, kQ, jY, P3, aF, fun r hr hh => ?_⟩
      rw [uq] at hr
      rcases List.mem_append.1 hr with hr | hr
      ·exact jZ r hr hh
      ·rw [List.mem_singleton] at hr; subst hr
       refine (l9 (eB l) TG rD.1).1 ?_
       first | exact nb | (rw [DG, hh] at qn; cases qn)
     simp only [ab,ae,aw,bW,h0,h1,dN,cU,List.length_cons,ak,al,Nat.add_zero,Int.le_refl,Int.toNat_one,Int.toNat_zero,dL,hw,List.getElem?_map,hx,af,ag,ah,mM,List.length_map,go_sem,reduceIte,zA,zB,zC,zD,zE,zF,reduceCtorEq]
     refine pn _ ⟨nv, ?_, ?_, bd (by omega) (by (first | (simp only [nv,hw,List.length_append,List.length_map,ab,ae,aw,go_sem,reduceIte,zA,zB,zC,zD,zE,zF,reduceCtorEq]; done) | (simp only [nv,hw,List.length_append,List.length_map,ka,ab,ae,aw,go_sem,reduceIte,zA,zB,zC,zD,zE,zF,reduceCtorEq]; done)))⟩
     ·exact rF
     ·dsimp only [nv]; omega
   ·have dg : ¬ j < (dy (aq l) q.path).length := by simpa using jC
    have xH := qm.close fun r hr hh => jZ r (by rw [List.take_of_length_le (by omega)]; exact sb.2 ⟨hr, (mA hh).symm⟩) (by unfold jQ at hh; simp at hh; exact hh.2)
    simp only [ab,ae,aw,bW,h0,h1,dN,cU,List.length_cons,ak,al,Nat.add_zero,Int.le_refl,Int.toNat_one,Int.toNat_zero,dL,List.length_map,go_sem,reduceIte,zA,zB,zC,zD,zE,zF,reduceCtorEq]
    refine cE _ ⟨(S1, P1, v1, o1, n9), ?_, ?_, bd (by omega) (by (simp only [ab,ae,aw,go_sem,reduceIte,zA,zB,zC,zD,zE,zF,reduceCtorEq]))⟩
    ·exact ⟨xH, kQ, jY, by dsimp only; omega⟩
    ·dsimp only; omega
  ·have dL := fun (mem : List au) (b : Nat) hm => sd (aq l) q.path (mem := mem) (b := b) hm
   simp only [if_neg hY] at dL
   have IH : dy (aq l) q.path = [] := by have h := nO hY; unfold bQ at h; simpa using h
   simp only [ab,ae,aw,bW,h0,h1,dN,cU,List.length_cons,ak,al,Nat.add_zero,Int.le_refl,Int.toNat_one,Int.toNat_zero,dL,List.length_map,go_sem,reduceIte,zA,zB,zC,zD,zE,zF,reduceCtorEq]
   refine pW (v' := .slice ((dy (aq l) q.path).map af)) 35 (by decide) rfl (by rw [IH]; rfl) ?_
   refine M5 (v' := num ((dy (aq l) q.path).length : Int)) 36 (by rw [IH]; rfl) ?_
   refine cT tt_ok [] (fun b : List Rl × List Rq × Nat × Nat × List V × Nat => [(2, .ptr 0 0), (5, .ptr 5 0), (7, .mp 6), (8, .ms 7 b.2.2.1 b.2.2.2.1 b.2.1.length), (9, .ptr 8 0), (35, .slice ((dy (aq l) q.path).map af)), (36, num (dy (aq l) q.path).length), (37, num b.2.2.2.2.2)]) (fun b : List Rl × List Rq × Nat × Nat × List V × Nat => [.box [.slice (l.map af), .slice I], .box [.slice (l.map af), .slice I], .box [.mp 3, .mp 4], .map (bC aN 0 (gK (aq l))) (gK (aq l)).length, .map (bC strVal 0 (gP (aq l))) (aM (aq l)).length, .box [.mp 3, .mp 4], .map (bC aN 0 (gS b.1)) (gS b.1).length, .rows b.2.2.1 2 b.2.2.2.2.1, .box [str q.path, .slice (q.set.map aj)]]) (fun b => (dy (aq l) q.path).length - b.2.2.2.2.2) (fun b => RI (aq l) roots b.1 b.2.1 (fun x => x = q) ∧ (q ∈ roots ∨ ∃ a ∈ b.1, q ∈ a.reqs) ∧ b.2.2.2.2.1.drop b.2.2.2.1 = b.2.1.map ak ∧ b.2.2.2.1 + b.2.1.length = b.2.2.2.2.1.length ∧ b.2.1.length + cy (aq l) b.1 + 1 ≤ P.length + 1 + cy (aq l) S ∧ b.2.2.2.2.2 ≤ (dy (aq l) q.path).length ∧ ∀ r ∈ (dy (aq l) q.path).take b.2.2.2.2.2, has q.set r.ay.place = true → r ∈ b.1) ((S, P, v, o + 1, rs, 0)) 9 (bd (by omega) (by simp only [ab,ae,aw,bW,h0,h1,dN,cU,List.length_cons,ak,al,Nat.add_zero,Int.le_refl,Int.toNat_one,Int.toNat_zero,dL,List.length_map,Int.cast_ofNat_Int,go_sem,reduceIte,zA,zB,zC,zD,zE,zF,reduceCtorEq] <;> rfl)) (⟨IE, hq, kQ, jY, by dsimp only; omega, Nat.zero_le _, fun r hr => by simp at hr⟩) ?_
   rintro ⟨S1, P1, v1, o1, n9, j⟩ ⟨qm, xY, kQ, jY, P3, hj, jZ⟩
   try dsimp only at qm xY kQ jY P3 hj jZ ⊢
   intro Z3 AM
   simp only [ab,ae,aw,bW,h0,h1,dN,cU,List.length_cons,ak,al,Nat.add_zero,Int.le_refl,Int.toNat_one,Int.toNat_zero,dL,List.length_map,go_sem,reduceIte,zA,zB,zC,zD,zE,zF,reduceCtorEq]
   refine aL (fun jC => ?_) (fun jC => ?_)
   ·have aF : j < (dy (aq l) q.path).length := by simpa using jC
    have IF : (dy (aq l) q.path).length ≤ 256 := Nat.le_trans (List.length_filter_le _ _) (iX l)
    have hw := aC j (by omega)
    obtain ⟨x, hx⟩ : ∃ x, (dy (aq l) q.path)[j]? = some x := ⟨_, List.getElem?_eq_getElem aF⟩
    have rD := sb.1 (List.mem_of_getElem? hx)
    have DG : x.ay.pl = x.ay.place := by unfold fA.pl; rw [if_pos (ub rD.1)]
    have mM := fun (mem : List au) (b : Nat) hm => tZ S1 x.key (mem := mem) (b := b) hm
    simp only [mT] at mM
    have uq : (dy (aq l) q.path).take (j + 1) = (dy (aq l) q.path).take j ++ [x] := iw hx
    have TG : ∀ r ∈ S1, r ∈ aq l := fun r hr => (qm.sub r hr).mem
    simp only [ab,ae,aw,bW,h0,h1,dN,cU,List.length_cons,ak,al,Nat.add_zero,Int.le_refl,Int.toNat_one,Int.toNat_zero,dL,hw,List.getElem?_map,hx,af,ag,ah,mM,List.length_map,go_sem,reduceIte,zA,zB,zC,zD,zE,zF,reduceCtorEq]
    refine bH tt_ok aK [⟨.n, 0, [], [], []⟩, ⟨.r, 0, [], [], []⟩, ⟨.n, 0, [], [], []⟩, ⟨.r, 0, [], [], []⟩, ⟨.n, 0, [], [], []⟩, ⟨.n, 0, [], [], []⟩, ⟨.n, 0, [], [], []⟩, ⟨.r, 0, [], [], []⟩, ⟨.r, 0, [], [], []⟩, ⟨.n, 0, [], [], []⟩, ⟨.n, 0, [], [], []⟩, ⟨.n, 0, [], [], []⟩] 0 (by kernel_rfl) ?_
    simp only [ab,ae,aw,bW,h0,h1,dN,cU,List.length_cons,ak,al,Nat.add_zero,Int.le_refl,Int.toNat_one,Int.toNat_zero,dL,hw,List.getElem?_map,hx,af,ag,ah,mM,List.length_map,go_sem,reduceIte,zA,zB,zC,zD,zE,zF,reduceCtorEq]
    refine cG (by have h := kM x; simp only [af,ag,ah,bh] at h; exact h) ?_
    rintro _ rfl
    simp only [ab,ae,aw,bW,h0,h1,dN,cU,List.length_cons,ak,al,Nat.add_zero,Int.le_refl,Int.toNat_one,Int.toNat_zero,dL,hw,List.getElem?_map,hx,af,ag,ah,mM,List.length_map,go_sem,reduceIte,zA,zB,zC,zD,zE,zF,reduceCtorEq]
    refine aL (fun nS => ?_) (fun nS => ?_)
    ·simp only [ab,ae,aw,bW,h0,h1,dN,cU,List.length_cons,ak,al,Nat.add_zero,Int.le_refl,Int.toNat_one,Int.toNat_zero,dL,hw,List.getElem?_map,hx,af,ag,ah,mM,List.length_map,go_sem,reduceIte,zA,zB,zC,zD,zE,zF,reduceCtorEq]
     refine cG (by have h := iN x; simp only [af,ag,ah] at h; exact h) ?_
     rintro _ rfl
     simp only [ab,ae,aw,bW,h0,h1,dN,cU,List.length_cons,ak,al,Nat.add_zero,Int.le_refl,Int.toNat_one,Int.toNat_zero,dL,hw,List.getElem?_map,hx,af,ag,ah,mM,List.length_map,go_sem,reduceIte,zA,zB,zC,zD,zE,zF,reduceCtorEq]
     refine cG (by have h := BP q.set x.ay.pl JY.2; simp only [al] at h; exact h) ?_
     rintro _ rfl
     simp only [ab,ae,aw,bW,h0,h1,dN,cU,List.length_cons,ak,al,Nat.add_zero,Int.le_refl,Int.toNat_one,Int.toNat_zero,dL,hw,List.getElem?_map,hx,af,ag,ah,mM,List.length_map,go_sem,reduceIte,zA,zB,zC,zD,zE,zF,reduceCtorEq]
     refine aL (fun qn => ?_) (fun qn => ?_)
     ·have TH : seen S1 x.key = false := by simpa using nS
      have P4 : has q.set x.ay.place = true := by rw [← DG]; simpa using qn
      have IG : jQ q x = true := by unfold jQ; rw [P4, rD.2]; simp
      have xH := qm.WW xY rD.1 IG
      have Rf := ql (eB l) rD.1 TH
      have X6 := mL rD.1
      have xZ := fun (mem : List au) (b : Nat) hm => Ag TH (mem := mem) (b := b) hm
      simp only [mT] at xZ
      simp only [ab,ae,aw,bW,h0,h1,dN,cU,List.length_cons,ak,al,Nat.add_zero,Int.le_refl,Int.toNat_one,Int.toNat_zero,dL,hw,List.getElem?_map,hx,af,ag,ah,mM,xZ,List.length_map,go_sem,reduceIte,zA,zB,zC,zD,zE,zF,reduceCtorEq]
      refine cF (by have h := kM x; simp only [af,ag,ah,bh] at h; exact h) ?_
      rintro _ rfl
      rcases Nat.eq_zero_or_pos o1 with rfl | kh
      ·have ka : n9.length = P1.length := by omega
       have fJ := cr x.reqs
       have fS : P1.length + x.reqs.length ≤ 34359738368 := by omega
       have Ev : (n9 ++ x.reqs.map ak).drop 0 = n9.drop 0 ++ x.reqs.map ak := rfl
       have DA : 0 + (P1.length + x.reqs.length) = (n9 ++ x.reqs.map ak).length := by rw [List.length_append, List.length_map, ka, Nat.zero_add]
       let nv : List Rl × List Rq × Nat × Nat × List V × Nat := (S1 ++ [x], P1 ++ x.reqs, v1 + 1, 0, (n9 ++ x.reqs.map ak), j + 1)
       have rF : RI (aq l) roots (S1 ++ [x]) (P1 ++ x.reqs) (fun y => y = q) ∧ (q ∈ roots ∨ ∃ a ∈ S1 ++ [x], q ∈ a.reqs) ∧ (n9 ++ x.reqs.map ak).drop 0 = (P1 ++ x.reqs).map ak ∧ 0 + (P1 ++ x.reqs).length = (n9 ++ x.reqs.map ak).length ∧ (P1 ++ x.reqs).length + cy (aq l) (S1 ++ [x]) + 1 ≤ P.length + 1 + cy (aq l) S ∧ j + 1 ≤ (dy (aq l) q.path).length ∧ ∀ r ∈ (dy (aq l) q.path).take (j + 1), has q.set r.ay.place = true → r ∈ S1 ++ [x] := by
        refine ⟨xH, ?_, by rw [Ev, kQ, List.map_append], by rw [List.length_append]; omega, by rw [List.length_append]; omega, aF, fun r hr hh => ?_⟩
        ·rcases xY with h | ⟨a, ha, h⟩
         ·exact .inl h
         ·exact .inr ⟨a, List.mem_append_left _ ha, h⟩
        ·rw [uq] at hr
         rcases List.mem_append.1 hr with hr | hr
         ·exact List.mem_append_left _ (jZ r hr hh)
         ·exact List.mem_append_right _ hr
       simp only [ab,ae,aw,bW,h0,h1,dN,cU,List.length_cons,ak,al,Nat.add_zero,Int.le_refl,Int.toNat_one,Int.toNat_zero,dL,hw,List.getElem?_map,hx,af,ag,ah,mM,xZ,ka,fJ,fS,List.length_map,go_sem,reduceIte,zA,zB,zC,zD,zE,zF,reduceCtorEq]
       refine AM _ ⟨nv, ?_, ?_, bd (by omega) (by (first | (simp only [nv,hw,List.length_append,List.length_map,ab,ae,aw,go_sem,reduceIte,zA,zB,zC,zD,zE,zF,reduceCtorEq]; done) | (simp only [nv,hw,List.length_append,List.length_map,ka,ab,ae,aw,go_sem,reduceIte,zA,zB,zC,zD,zE,zF,reduceCtorEq]; done)))⟩
       ·exact rF
       ·dsimp only [nv]; omega
      ·obtain ⟨o0, rfl⟩ : ∃ k, o1 = k + 1 := ⟨o1 - 1, by omega⟩
       have fJ := cr x.reqs
       have fS : P1.length + x.reqs.length ≤ 34359738368 := by omega
       simp only [ab,ae,aw,bW,h0,h1,dN,cU,List.length_cons,ak,al,Nat.add_zero,Int.le_refl,Int.toNat_one,Int.toNat_zero,dL,hw,List.getElem?_map,hx,af,ag,ah,mM,xZ,jY,fJ,fS,List.length_map,go_sem,reduceIte,zA,zB,zC,zD,zE,zF,reduceCtorEq]
       refine VX ?_
       intro o2 D0 Ev DA
       try rw [List.length_map] at DA
       let nv : List Rl × List Rq × Nat × Nat × List V × Nat := (S1 ++ [x], P1 ++ x.reqs, v1 + 1, o2, D0, j + 1)
       have rF : RI (aq l) roots (S1 ++ [x]) (P1 ++ x.reqs) (fun y => y = q) ∧ (q ∈ roots ∨ ∃ a ∈ S1 ++ [x], q ∈ a.reqs) ∧ D0.drop o2 = (P1 ++ x.reqs).map ak ∧ o2 + (P1 ++ x.reqs).length = D0.length ∧ (P1 ++ x.reqs).length + cy (aq l) (S1 ++ [x]) + 1 ≤ P.length + 1 + cy (aq l) S ∧ j + 1 ≤ (dy (aq l) q.path).length ∧ ∀ r ∈ (dy (aq l) q.path).take (j + 1), has q.set r.ay.place = true → r ∈ S1 ++ [x] := by
        refine ⟨xH, ?_, by rw [Ev, kQ, List.map_append], by rw [List.length_append]; omega, by rw [List.length_append]; omega, aF, fun r hr hh => ?_⟩
        ·rcases xY with h | ⟨a, ha, h⟩
         ·exact .inl h
         ·exact .inr ⟨a, List.mem_append_left _ ha, h⟩
        ·rw [uq] at hr
         rcases List.mem_append.1 hr with hr | hr
         ·exact List.mem_append_left _ (jZ r hr hh)
         ·exact List.mem_append_right _ hr
       simp only [ab,ae,aw,bW,h0,h1,dN,cU,List.length_cons,ak,al,Nat.add_zero,Int.le_refl,Int.toNat_one,Int.toNat_zero,dL,hw,List.getElem?_map,hx,af,ag,ah,mM,xZ,jY,fJ,fS,List.length_map,go_sem,reduceIte,zA,zB,zC,zD,zE,zF,reduceCtorEq]
       refine AM _ ⟨nv, ?_, ?_, bd (by omega) (by (first | (simp only [nv,hw,List.length_append,List.length_map,ab,ae,aw,go_sem,reduceIte,zA,zB,zC,zD,zE,zF,reduceCtorEq]; done) | (simp only [nv,hw,List.length_append,List.length_map,ka,ab,ae,aw,go_sem,reduceIte,zA,zB,zC,zD,zE,zF,reduceCtorEq]; done)))⟩
       ·exact rF
       ·dsimp only [nv]; omega
     ·let nv : List Rl × List Rq × Nat × Nat × List V × Nat := (S1, P1, v1, o1, n9, j + 1)
      have rF : RI (aq l) roots S1 P1 (fun y => y = q) ∧ (q ∈ roots ∨ ∃ a ∈ S1, q ∈ a.reqs) ∧ n9.drop o1 = P1.map ak ∧ o1 + P1.length = n9.length ∧ P1.length + cy (aq l) S1 + 1 ≤ P.length + 1 + cy (aq l) S ∧ j + 1 ≤ (dy (aq l) q.path).length ∧ ∀ r ∈ (dy (aq l) q.path).take (j + 1), has q.set r.ay.place = true → r ∈ S1 := by
       refine ⟨qm, xY, kQ, jY, P3, aF, fun r hr hh => ?_⟩
       rw [uq] at hr
       rcases List.mem_append.1 hr with hr | hr
       ·exact jZ r hr hh
       ·rw [List.mem_singleton] at hr; subst hr
        refine (l9 (eB l) TG rD.1).1 ?_
        first | exact nb | (rw [DG, hh] at qn; cases qn)
      simp only [ab,ae,aw,bW,h0,h1,dN,cU,List.length_cons,ak,al,Nat.add_zero,Int.le_refl,Int.toNat_one,Int.toNat_zero,dL,hw,List.getElem?_map,hx,af,ag,ah,mM,List.length_map,go_sem,reduceIte,zA,zB,zC,zD,zE,zF,reduceCtorEq]
      refine AM _ ⟨nv, ?_, ?_, bd (by omega) (by (first | (simp only [nv,hw,List.length_append,List.length_map,ab,ae,aw,go_sem,reduceIte,zA,zB,zC,zD,zE,zF,reduceCtorEq]; done) | (simp only [nv,hw,List.length_append,List.length_map,ka,ab,ae,aw,go_sem,reduceIte,zA,zB,zC,zD,zE,zF,reduceCtorEq]; done)))⟩
      ·exact rF
      ·dsimp only [nv]; omega
    ·have nb : seen S1 x.key = true := by simpa using nS
     let nv : List Rl × List Rq × Nat × Nat × List V × Nat := (S1, P1, v1, o1, n9, j + 1)
     have rF : RI (aq l) roots S1 P1 (fun y => y = q) ∧ (q ∈ roots ∨ ∃ a ∈ S1, q ∈ a.reqs) ∧ n9.drop o1 = P1.map ak ∧ o1 + P1.length = n9.length ∧ P1.length + cy (aq l) S1 + 1 ≤ P.length + 1 + cy (aq l) S ∧ j + 1 ≤ (dy (aq l) q.path).length ∧ ∀ r ∈ (dy (aq l) q.path).take (j + 1), has q.set r.ay.place = true → r ∈ S1 := by
      refine ⟨qm, xY, kQ, jY, P3, aF, fun r hr hh => ?_⟩
      rw [uq] at hr
      rcases List.mem_append.1 hr with hr | hr
      ·exact jZ r hr hh
      ·rw [List.mem_singleton] at hr; subst hr
       refine (l9 (eB l) TG rD.1).1 ?_
       first | exact nb | (rw [DG, hh] at qn; cases qn)
     simp only [ab,ae,aw,bW,h0,h1,dN,cU,List.length_cons,ak,al,Nat.add_zero,Int.le_refl,Int.toNat_one,Int.toNat_zero,dL,hw,List.getElem?_map,hx,af,ag,ah,mM,List.length_map,go_sem,reduceIte,zA,zB,zC,zD,zE,zF,reduceCtorEq]
     refine AM _ ⟨nv, ?_, ?_, bd (by omega) (by (first | (simp only [nv,hw,List.length_append,List.length_map,ab,ae,aw,go_sem,reduceIte,zA,zB,zC,zD,zE,zF,reduceCtorEq]; done) | (simp only [nv,hw,List.length_append,List.length_map,ka,ab,ae,aw,go_sem,reduceIte,zA,zB,zC,zD,zE,zF,reduceCtorEq]; done)))⟩
     ·exact rF
     ·dsimp only [nv]; omega
   ·have dg : ¬ j < (dy (aq l) q.path).length := by simpa using jC
    have xH := qm.close fun r hr hh => jZ r (by rw [List.take_of_length_le (by omega)]; exact sb.2 ⟨hr, (mA hh).symm⟩) (by unfold jQ at hh; simp at hh; exact hh.2)
    simp only [ab,ae,aw,bW,h0,h1,dN,cU,List.length_cons,ak,al,Nat.add_zero,Int.le_refl,Int.toNat_one,Int.toNat_zero,dL,List.length_map,go_sem,reduceIte,zA,zB,zC,zD,zE,zF,reduceCtorEq]
    refine cE _ ⟨(S1, P1, v1, o1, n9), ?_, ?_, bd (by omega) (by (simp only [ab,ae,aw,go_sem,reduceIte,zA,zB,zC,zD,zE,zF,reduceCtorEq]))⟩
    ·exact ⟨xH, kQ, jY, by dsimp only; omega⟩
    ·dsimp only; omega
 ·obtain rfl : P = [] := by
   cases P with
   | nil => rfl
   | cons q r => simp at fu
  obtain ⟨ks, F2⟩ : ∃ ks : Nat → List gR, ks = fun i => ((l.take i).filter fun r => seen S r.key).map Rl.key := ⟨_, rfl⟩
  have WY : ks 0 = [] := by rw [F2]; rfl
  simp only [ab,ae,aw,List.length_map,go_sem,reduceIte,zA,zB,zC,zD,zE,zF,reduceCtorEq]
  refine EY 12 0 4 (by decide) rfl ?_
  refine cT tt_ok [] (fun i : Nat => [(7, .mp 6), (12, .ms 8 (ks i).length 0 (ks i).length), (62, .slice (l.map af)), (63, num l.length), (64, num i)]) (fun i : Nat => [.box [.slice (l.map af), .slice I], .box [.slice (l.map af), .slice I], .box [.mp 3, .mp 4], .map (bC aN 0 (gK (aq l))) (gK (aq l)).length, .map (bC strVal 0 (gP (aq l))) (aM (aq l)).length, .box [.mp 3, .mp 4], .map (bC aN 0 (gS S)) (gS S).length, .rows v 2 rs, .rows (ks i).length 4 ((ks i).map bh)]) (fun i => l.length - i) (fun i => i ≤ l.length) (0) 9 (bd (by omega) (by simp only [ab,ae,aw,List.length_map,WY,List.map_nil,List.length_nil,Int.cast_ofNat_Int,go_sem,reduceIte,zA,zB,zC,zD,zE,zF,reduceCtorEq] <;> rfl)) (Nat.zero_le _) ?_
  intro i hi
  try dsimp only at hi ⊢
  intro Z4 X7
  simp only [ab,ae,aw,List.length_map,go_sem,reduceIte,zA,zB,zC,zD,zE,zF,reduceCtorEq]
  refine aL (fun Ai => ?_) (fun Ai => ?_)
  ·have aF : i < l.length := by simpa using Ai
   have hw := aC i (by omega)
   obtain ⟨x, hx⟩ : ∃ x, l[i]? = some x := ⟨_, List.getElem?_eq_getElem aF⟩
   have LP : ks (i + 1) = ks i ++ (if seen S x.key = true then [x.key] else []) := by
    rw [F2]
    dsimp only
    rw [iw hx, List.filter_append, List.map_append]
    by_cases Ka : seen S x.key = true <;> simp [Ka]
   have mM := fun (mem : List au) (b : Nat) hm => tZ S x.key (mem := mem) (b := b) hm
   simp only [mT] at mM
   have RY : (ks i).length ≤ 1048576 := by
    rw [F2]
    dsimp only
    rw [List.length_map]
    exact Nat.le_trans (List.length_filter_le _ _) (by rw [List.length_take]; have := hb.1; omega)
   have dr : (ks i).length + 1 ≤ 34359738368 := by omega
   simp only [ab,ae,aw,hw,List.getElem?_map,hx,af,ag,ah,mM,dr,List.length_cons,List.length_nil,Nat.zero_add,List.length_map,go_sem,reduceIte,zA,zB,zC,zD,zE,zF,reduceCtorEq]
   refine cF (by have h := kM x; simp only [af,ag,ah,bh] at h; exact h) ?_
   rintro _ rfl
   simp only [ab,ae,aw,hw,List.getElem?_map,hx,af,ag,ah,mM,dr,List.length_cons,List.length_nil,Nat.zero_add,List.length_map,go_sem,reduceIte,zA,zB,zC,zD,zE,zF,reduceCtorEq]
   refine aL (fun P5 => ?_) (fun P5 => ?_)
   ·rw [if_pos (by simpa using P5)] at LP
    have fJ : bM [V.agg [str x.key.path, num x.key.ay.mj, num x.key.ay.mn, num x.key.ay.pt]] 0 4 = true := rfl
    simp only [ab,ae,aw,hw,List.getElem?_map,hx,af,ag,ah,mM,dr,List.length_cons,List.length_nil,Nat.zero_add,fJ,List.length_map,go_sem,reduceIte,zA,zB,zC,zD,zE,zF,reduceCtorEq]
    refine cF (by have h := kM x; simp only [af,ag,ah,bh] at h; exact h) ?_
    rintro _ rfl
    simp only [ab,ae,aw,hw,List.getElem?_map,hx,af,ag,ah,mM,dr,List.length_cons,List.length_nil,Nat.zero_add,fJ,List.length_map,go_sem,reduceIte,zA,zB,zC,zD,zE,zF,reduceCtorEq]
    refine X7 _ ⟨i + 1, ?_, ?_, bd (by omega) (by (simp only [LP,hw,List.map_append,List.map_cons,List.map_nil,List.length_append,List.length_map,List.length_cons,List.length_nil,Nat.zero_add,bh,ab,ae,aw,go_sem,reduceIte,zA,zB,zC,zD,zE,zF,reduceCtorEq]))⟩
    ·exact aF
    ·omega
   ·rw [if_neg (by simpa using P5), List.append_nil] at LP
    simp only [ab,ae,aw,hw,List.getElem?_map,hx,af,ag,ah,mM,dr,List.length_cons,List.length_nil,Nat.zero_add,List.length_map,go_sem,reduceIte,zA,zB,zC,zD,zE,zF,reduceCtorEq]
    refine X7 _ ⟨i + 1, ?_, ?_, bd (by omega) (by (simp only [LP,hw,List.map_append,List.map_cons,List.map_nil,List.length_append,List.length_map,List.length_cons,List.length_nil,Nat.zero_add,bh,ab,ae,aw,go_sem,reduceIte,zA,zB,zC,zD,zE,zF,reduceCtorEq]))⟩
    ·exact aF
    ·omega
  ·have dg : ¬ i < l.length := by simpa using Ai
   have wz : i = l.length := by omega
   subst wz
   have ax : ks l.length = (de (aq l) roots).map Rl.key := by
    rw [F2]
    dsimp only
    rw [List.take_length, ua ID (eB l)]
    unfold aq
    split
    ·rfl
    ·rename_i WZ
     have ZR : S = [] := by
      cases S with
      | nil => rfl
      | cons a t => have h := (ID.sub a (by simp)).mem; unfold aq at h; rw [if_neg WZ] at h; simp at h
     subst ZR
     simp [seen]
   simp only [ab,ae,aw,List.length_map,go_sem,reduceIte,zA,zB,zC,zD,zE,zF,reduceCtorEq]
   refine hK _ ?_
   try simp only [uH,Tryz.f13,iI,sO,yE,MG,List.length_map,List.take_length,← ax,bT,go_sem,reduceIte,zA,zB,zC,zD,zE,zF,reduceCtorEq]
   simp [er, bz]
   exact List.take_of_length_le (by simp)
end Go.Proofs.YtnfeacnbgbggfaaGreatDoor
end

section
namespace Go.Proofs.YtnfeacnbgbggfaaGreatDoor
open Go.Eng
open Nat renaming reduceAdd → zA, reduceLT → zB, reduceLeDiff → zC, reduceMul → zD, reduceEqDiff → zE, reduceSub → zF
variable [aE]
set_option maxHeartbeats 4000000
set_option maxRecDepth 100000
def rj (q : Rq) : Bool := !(decide (100 < q.path.size) || decide (8 < q.set.length))
def uc (l : List Rq) : Bool := l.all rj && decide (l.length ≤ 20)
def jo (r : Rl) : Bool := !(decide (100 < r.path.size) || decide (100 < r.ar.size) || decide (100 < r.ei.size) || decide (100 < r.ce.size) || !uc r.reqs)
def mU (l : List Rl) (n : Nat) : Bool := l.all jo && decide (l.length ≤ n)
theorem nT {α : Type} {l : List α} {p : α → Bool} {i : Nat} {x : α} (h : l[i]? = some x) (hx : p x = false) : l.all p = false := by
 rw [List.all_eq_false]
 exact ⟨x, List.mem_of_getElem? h, by simp [hx]⟩
theorem D1 {α : Type} {l : List α} {p : α → Bool} {i : Nat} (hi : ¬ i < l.length) (h : ∀ j < i, ∀ x, l[j]? = some x → p x = true) : l.all p = true := by
 rw [List.all_eq_true]
 intro x hx
 obtain ⟨j, hj, rfl⟩ := List.getElem_of_mem hx
 exact h j (by omega) _ (List.getElem?_eq_getElem hj)
theorem LQ (l : List Rq) (hl : l.length ≤ 1048576) : ∃ r_, (fun w => w = bl (uc l)) r_ ∧ aP Tryz.prog 11 [ah l] r_ := by
 refine ek tt_ok [] 29 [.tmp 2] (fn := Tryz.f11) Tryz.func11 rfl Tryz.call11 ⟨rfl, rfl, by simp⟩ fun K hK => ?_
 have eE : Tryz.prog.underlying 9 = some .string := by kernel_rfl
 have sl : ∀ (a : ByteArray) (ty : TypeId), cd Tryz.prog (Builtin.len_ #[9] ty) [.sc (.string a)] = some (num a.size) := fun a ty => bE (P := Tryz.prog) (tt := tt) (T := 9) a eE ty
 simp only [ah]
 simp only [sl,List.length_map,go_sem,reduceIte,zA,zB,zC,zD,zE,zF,reduceCtorEq]
 refine bO tt_ok [] [3] 0 [0] (fun vs => ((l.length : Int) - Go.Eng.intOf (vs.headD .undef)).toNat) (fun vs => ∃ i : Nat, vs = [num i] ∧ i ≤ l.length ∧ ∀ j < i, ∀ x, l[j]? = some x → rj x = true) (by omega) (by simp only [sl,List.length_map,go_sem,reduceIte,zA,zB,zC,zD,zE,zF,reduceCtorEq]) (⟨0, rfl, Nat.zero_le _, fun j hj => absurd hj (Nat.not_lt_zero j)⟩) fun vs hI Z1 cE => ?_
 obtain ⟨i, rfl, hi, bn⟩ := hI
 simp only [sl,List.length_map,go_sem,reduceIte,zA,zB,zC,zD,zE,zF,reduceCtorEq]
 refine aL (fun HJ => ?_) (fun HJ => ?_)
 ·have aF : i < l.length := by simpa using HJ
  have hw := aC i (by omega)
  obtain ⟨x, hx⟩ : ∃ x, l[i]? = some x := ⟨_, List.getElem?_eq_getElem aF⟩
  simp only [hw,List.getElem?_map,hx,ak,al,sl,List.length_map,go_sem,reduceIte,zA,zB,zC,zD,zE,zF,reduceCtorEq]
  refine aL (fun II => ?_) (fun II => ?_)
  ·have nw : rj x = false := by unfold rj; simp_all <;> omega
   have ax : false = uc l := by unfold uc; rw [nT hx nw]; rfl
   simp only [hw,List.getElem?_map,hx,ak,al,sl,List.length_map,go_sem,reduceIte,zA,zB,zC,zD,zE,zF,reduceCtorEq]
   exact hK _ (congrArg bl ax)
  ·simp only [hw,List.getElem?_map,hx,ak,al,sl,List.length_map,go_sem,reduceIte,zA,zB,zC,zD,zE,zF,reduceCtorEq]
   refine aL (fun fu => ?_) (fun fu => ?_)
   ·have nw : rj x = false := by unfold rj; simp_all <;> omega
    have ax : false = uc l := by unfold uc; rw [nT hx nw]; rfl
    simp only [hw,List.getElem?_map,hx,ak,al,sl,List.length_map,go_sem,reduceIte,zA,zB,zC,zD,zE,zF,reduceCtorEq]
    exact hK _ (congrArg bl ax)
   ·simp only [hw,List.getElem?_map,hx,ak,al,sl,List.length_map,go_sem,reduceIte,zA,zB,zC,zD,zE,zF,reduceCtorEq]
    refine cE _ (eR (by omega) (by simp only [hw,List.getElem?_map,hx,ak,al,sl,List.length_map,go_sem,reduceIte,zA,zB,zC,zD,zE,zF,reduceCtorEq]) ?_ ?_) <;> simp only [ja,lk,reduceIte,zE]
    ·refine ⟨i + 1, rfl, aF, fun j hj => ?_⟩
     rcases Nat.lt_or_ge j i with h | h
     ·exact bn j h
     ·obtain rfl : j = i := by omega
      intro y hy
      rw [hx] at hy; cases hy; unfold rj; simp_all <;> omega
    ·simp only [Go.Eng.intOf,List.headD_cons]; omega
 ·have dg : ¬ i < l.length := by simpa using HJ
  have hlen : decide ((l.length : Int) ≤ 20) = decide (l.length ≤ 20) := by rw [Bool.eq_iff_iff, decide_eq_true_eq, decide_eq_true_eq]; omega
  have ax : decide ((l.length : Int) ≤ 20) = uc l := by rw [hlen]; unfold uc; rw [D1 dg bn]; rfl
  simp only [sl,List.length_map,go_sem,reduceIte,zA,zB,zC,zD,zE,zF,reduceCtorEq]
  exact hK _ (congrArg bl ax)
theorem LR (l : List Rl) (n : Nat) (hb : F8 l) : ∃ r_, (fun w => w = bl (mU l n)) r_ ∧ aP Tryz.prog 10 [bP l, num (n : Nat)] r_ := by
 refine ek tt_ok [] 59 [.tmp 4] (fn := Tryz.f10) Tryz.func10 rfl Tryz.call10 ⟨rfl, rfl, by simp⟩ fun K hK => ?_
 have JM := hb.1
 have eE : Tryz.prog.underlying 9 = some .string := by kernel_rfl
 have sl : ∀ (a : ByteArray) (ty : TypeId), cd Tryz.prog (Builtin.len_ #[9] ty) [.sc (.string a)] = some (num a.size) := fun a ty => bE (P := Tryz.prog) (tt := tt) (T := 9) a eE ty
 simp only [bP]
 simp only [sl,List.length_map,go_sem,reduceIte,zA,zB,zC,zD,zE,zF,reduceCtorEq]
 refine bO tt_ok [] [5] 0 [0,1] (fun vs => ((l.length : Int) - Go.Eng.intOf (vs.headD .undef)).toNat) (fun vs => ∃ i : Nat, vs = [num i] ∧ i ≤ l.length ∧ ∀ j < i, ∀ x, l[j]? = some x → jo x = true) (by omega) (by simp only [sl,List.length_map,go_sem,reduceIte,zA,zB,zC,zD,zE,zF,reduceCtorEq]) (⟨0, rfl, Nat.zero_le _, fun j hj => absurd hj (Nat.not_lt_zero j)⟩) fun vs hI Z1 cE => ?_
 obtain ⟨i, rfl, hi, bn⟩ := hI
 simp only [sl,List.length_map,go_sem,reduceIte,zA,zB,zC,zD,zE,zF,reduceCtorEq]
 refine aL (fun la => ?_) (fun la => ?_)
 ·have aF : i < l.length := by simpa using la
  have hw := aC i (by omega)
  obtain ⟨x, hx⟩ : ∃ x, l[i]? = some x := ⟨_, List.getElem?_eq_getElem aF⟩
  simp only [hw,List.getElem?_map,hx,af,ag,ah,sl,List.length_map,go_sem,reduceIte,zA,zB,zC,zD,zE,zF,reduceCtorEq]
  refine aL (fun II => ?_) (fun II => ?_)
  ·have nw : jo x = false := by unfold jo; simp_all <;> omega
   have ax : false = mU l n := by unfold mU; rw [nT hx nw]; rfl
   simp only [hw,List.getElem?_map,hx,af,ag,ah,sl,List.length_map,go_sem,reduceIte,zA,zB,zC,zD,zE,zF,reduceCtorEq]
   exact hK _ (congrArg bl ax)
  ·simp only [hw,List.getElem?_map,hx,af,ag,ah,sl,List.length_map,go_sem,reduceIte,zA,zB,zC,zD,zE,zF,reduceCtorEq]
   refine aL (fun P6 => ?_) (fun P6 => ?_)
   ·have nw : jo x = false := by unfold jo; simp_all <;> omega
    have ax : false = mU l n := by unfold mU; rw [nT hx nw]; rfl
    simp only [hw,List.getElem?_map,hx,af,ag,ah,sl,List.length_map,go_sem,reduceIte,zA,zB,zC,zD,zE,zF,reduceCtorEq]
    exact hK _ (congrArg bl ax)
   ·simp only [hw,List.getElem?_map,hx,af,ag,ah,sl,List.length_map,go_sem,reduceIte,zA,zB,zC,zD,zE,zF,reduceCtorEq]
    refine aL (fun P7 => ?_) (fun P7 => ?_)
    ·have nw : jo x = false := by unfold jo; simp_all <;> omega
     have ax : false = mU l n := by unfold mU; rw [nT hx nw]; rfl
     simp only [hw,List.getElem?_map,hx,af,ag,ah,sl,List.length_map,go_sem,reduceIte,zA,zB,zC,zD,zE,zF,reduceCtorEq]
     exact hK _ (congrArg bl ax)
    ·simp only [hw,List.getElem?_map,hx,af,ag,ah,sl,List.length_map,go_sem,reduceIte,zA,zB,zC,zD,zE,zF,reduceCtorEq]
     refine aL (fun P8 => ?_) (fun P8 => ?_)
     ·have nw : jo x = false := by unfold jo; simp_all <;> omega
      have ax : false = mU l n := by unfold mU; rw [nT hx nw]; rfl
      simp only [hw,List.getElem?_map,hx,af,ag,ah,sl,List.length_map,go_sem,reduceIte,zA,zB,zC,zD,zE,zF,reduceCtorEq]
      exact hK _ (congrArg bl ax)
     ·simp only [hw,List.getElem?_map,hx,af,ag,ah,sl,List.length_map,go_sem,reduceIte,zA,zB,zC,zD,zE,zF,reduceCtorEq]
      refine cF (by have h := LQ x.reqs (hb.2 x (List.mem_of_getElem? hx)).2.1; simp only [ah] at h; exact h) ?_
      rintro _ rfl
      simp only [hw,List.getElem?_map,hx,af,ag,ah,sl,List.length_map,go_sem,reduceIte,zA,zB,zC,zD,zE,zF,reduceCtorEq]
      refine aL (fun Ps => ?_) (fun Ps => ?_)
      ·have nw : jo x = false := by unfold jo; simp_all <;> omega
       have ax : false = mU l n := by unfold mU; rw [nT hx nw]; rfl
       simp only [hw,List.getElem?_map,hx,af,ag,ah,sl,List.length_map,go_sem,reduceIte,zA,zB,zC,zD,zE,zF,reduceCtorEq]
       exact hK _ (congrArg bl ax)
      ·simp only [hw,List.getElem?_map,hx,af,ag,ah,sl,List.length_map,go_sem,reduceIte,zA,zB,zC,zD,zE,zF,reduceCtorEq]
       refine cE _ (eR (by omega) (by simp only [hw,List.getElem?_map,hx,af,ag,ah,sl,List.length_map,go_sem,reduceIte,zA,zB,zC,zD,zE,zF,reduceCtorEq]) ?_ ?_) <;> simp only [ja,lk,reduceIte,zE]
       ·refine ⟨i + 1, rfl, aF, fun j hj => ?_⟩
        rcases Nat.lt_or_ge j i with h | h
        ·exact bn j h
        ·obtain rfl : j = i := by omega
         intro y hy
         rw [hx] at hy; cases hy; unfold jo; simp_all <;> omega
       ·simp only [Go.Eng.intOf,List.headD_cons]; omega
 ·have dg : ¬ i < l.length := by simpa using la
  have hlen : decide ((l.length : Int) ≤ (n : Int)) = decide (l.length ≤ n) := by rw [Bool.eq_iff_iff, decide_eq_true_eq, decide_eq_true_eq]; omega
  have ax : decide ((l.length : Int) ≤ (n : Int)) = mU l n := by rw [hlen]; unfold mU; rw [D1 dg bn]; rfl
  simp only [sl,List.length_map,go_sem,reduceIte,zA,zB,zC,zD,zE,zF,reduceCtorEq]
  exact hK _ (congrArg bl ax)
end Go.Proofs.YtnfeacnbgbggfaaGreatDoor
end

section
namespace Go.Proofs.YtnfeacnbgbggfaaGreatDoor
open Go.Eng
variable [aE]
set_option maxHeartbeats 4000000
set_option maxRecDepth 100000
theorem LS {l : List Rq} (h : uc l = true) : l.length ≤ 20 ∧ ∀ q ∈ l, q.path.size ≤ 100 ∧ q.set.length ≤ 8 := by
 unfold uc at h
 rw [Bool.and_eq_true, decide_eq_true_eq, List.all_eq_true] at h
 refine ⟨h.2, fun q hq => ?_⟩
 have := h.1 q hq
 unfold rj at this
 simp only [Bool.not_eq_true',Bool.or_eq_false_iff,decide_eq_false_iff_not] at this
 omega
theorem LU {l : List Rl} {n : Nat} (h : mU l n = true) : l.length ≤ n ∧ ∀ r ∈ l, r.path.size ≤ 100 ∧ r.ar.size ≤ 100 ∧ r.ei.size ≤ 100 ∧ r.ce.size ≤ 100 ∧ uc r.reqs = true := by
 unfold mU at h
 rw [Bool.and_eq_true, decide_eq_true_eq, List.all_eq_true] at h
 refine ⟨h.2, fun r hr => ?_⟩
 have := h.1 r hr
 unfold jo at this
 simp only [Bool.not_eq_true',Bool.or_eq_false_iff,decide_eq_false_iff_not,Bool.not_eq_false'] at this
 refine ⟨by omega, by omega, by omega, by omega, by simpa using this.2⟩
theorem pc (t : ByteArray) (k : Nat) (h : t.size ≤ k) (hk : k ≤ 1048576) : (eT t).length ≤ k + 10 := by
 unfold eT; rw [List.length_append, eX]
 have := iS (n := t.size) (by omega)
 omega
theorem LV {r : Rl} (hw : UA r) (h : mU [r] 1 = true) : (jA r).length ≤ 10000 := by
 obtain ⟨h1, h2, h3, h4, h5⟩ := (LU h).2 r (by simp)
 obtain ⟨h6, h7⟩ := LS h5
 have hv := mH hw.ay
 have a1 := pc r.path 100 h1 (by decide)
 have a2 := pc r.ar 100 h2 (by decide)
 have a3 := pc r.ei 100 h3 (by decide)
 have a4 := pc r.ce 100 h4 (by decide)
 have a5 := bK (n := r.ay.mn) (by omega) (by omega)
 have a6 := bK (n := r.ay.pt) (by omega) (by omega)
 have a7 := bK (n := lZ r) (by have := kO r; omega) (by have := kO r; omega)
 have a8 := bK (n := (r.reqs.length : Int)) (by omega) (by omega)
 have a9 := fO (g := iW) (l := r.reqs) (k := 280) fun q hq => by
  obtain ⟨b1, b2⟩ := h7 q hq
  have c1 := pc q.path 100 b1 (by decide)
  have c2 := bK (n := (q.set.length : Int)) (by omega) (by omega)
  have c3 := r7 (gu (hw.reqs q hq))
  unfold iW
  simp only [List.length_append]
  omega
 unfold jA AL
 simp only [List.length_append]
 omega
theorem TI {s : ByteArray} (hs : s.size ≤ 1048576) {n : Nat} {st : Nat × Int} (hn : n ≤ 1048576) (h : st.1 ≤ s.size) : (ur s n st).1.length ≤ 1048576 ∧ ∀ q ∈ (ur s n st).1, tH q := by
 have h1 := xz s n st h
 refine ⟨by omega, fun q hq => ?_⟩
 have := h1.2.2 q hq
 exact ⟨by omega, by omega⟩
theorem IJ {s : ByteArray} (hs : s.size ≤ 1048576) : xV (ll s).1 := by
 unfold ll qj
 dsimp only
 have hC : ∀ (a : Nat) (e : Int), (nM 16 s a e).1 ≤ 1048576 := fun a e => by have := l8 (m := 16) (s := s) (a := a) (e := e) (by decide); omega
 exact ⟨by have := o9 s 0 0; dsimp only; omega, TI hs (hC _ _) (l7 (fP (fP (fP (l7 (jB (jB (fP (Nat.zero_le _)))))))))⟩
theorem LW {r : Rl} (h : ir [r] = 0) : qg r = .bt [str (bs (jA r)), num 0] := if_pos h
theorem Aj {s : ByteArray} (h : gv s = false) : gO s = .bt [af dK, num 9] := by unfold gO; rw [h]; rfl
theorem Fy {s : ByteArray} (h : gv s = true) : gO s = .bt [af (ll s).1, num 0] := by unfold gO; rw [h]; rfl
end Go.Proofs.YtnfeacnbgbggfaaGreatDoor
end

section
namespace Go.Proofs.YtnfeacnbgbggfaaGreatDoor
open Go.Eng
open Nat renaming reduceAdd → zA, reduceLT → zB, reduceLeDiff → zC, reduceMul → zD, reduceEqDiff → zE, reduceSub → zF
variable [aE]
set_option maxHeartbeats 4000000
set_option maxRecDepth 100000
def JO (r : Rl) : br := ⟨r.ay.pl, r.ay.pl + 1⟩
def xI (t : List Rl) : List br := (t.filter fun r => !r.yk).map JO
theorem Ak {G : List Rl} {i : Nat} {x : Rl} (h : G[i]? = some x) : xI (G.take (i + 1)) = xI (G.take i) ++ (if x.yk = true then [] else [JO x]) := by
 unfold xI
 rw [List.take_add_one, h, List.filter_append, List.map_append]
 cases hx : x.yk <;> simp [hx]
theorem Nh (v : fA) : 0 ≤ v.pl ∧ v.pl < 1000000 := by
 unfold fA.pl
 split
 ·rename_i h; exact ⟨(nH h).2.2.1, (nH h).2.2.2⟩
 ·omega
theorem IK (hG : aE.g = some 0) (l : List Rl) (I : List V) (hb : F8 l) (p : ByteArray) : aP Tryz.prog 43 [dw l I, str p] (al (canon (xI (dy (aq l) p)))) := by
 refine QZ tt_ok [] 39 [.tmp 4] (fn := Tryz.f43) Tryz.func43 rfl Tryz.call43 ⟨rfl, rfl, by simp⟩ fun K hK => ?_
 simp only [dw,bP]
 have JM := hb.1
 simp only [ab,ae,List.length_map,go_sem,reduceIte,zA,zB,zC,zD,zE,zF,reduceCtorEq]
 refine cW (by have h := l6 hG l I hb; simp only [dw,bP] at h; exact h _) ?_
 rintro _ _ ⟨rfl, rfl⟩
 try simp only [F6,TF,List.length_cons,List.length_nil,zA]
 by_cases hY : p ∈ aM (aq l)
 ·have dL := fun (mem : List au) (b : Nat) hm => sd (aq l) p (mem := mem) (b := b) hm
  simp only [if_pos hY,bQ] at dL
  simp only [ab,ae,dL,List.length_map,go_sem,reduceIte,zA,zB,zC,zD,zE,zF,reduceCtorEq]
  refine EY 7 0 2 (by decide) rfl ?_
  refine cT tt_ok [] (fun a : Nat × List br => [(7, .ms 6 a.2.length 0 a.2.length), (18, .slice ((dy (aq l) p).map af)), (19, num (dy (aq l) p).length), (20, num a.1)]) (fun a : Nat × List br => [.box [.slice (l.map af), .slice I], .box [.slice (l.map af), .slice I], .box [.mp 3, .mp 4], .map (bC aN 0 (gK (aq l))) (gK (aq l)).length, .map (bC strVal 0 (gP (aq l))) (aM (aq l)).length, .box [.mp 3, .mp 4], .rows a.2.length 2 (a.2.map aj)]) (fun a => (dy (aq l) p).length - a.1) (fun a => a.1 ≤ (dy (aq l) p).length ∧ a.2 = xI ((dy (aq l) p).take a.1)) ((0, [])) 7 (bd (by omega) (by simp only [ab,ae,dL,List.length_map,List.map_nil,List.length_nil,Int.cast_ofNat_Int,go_sem,reduceIte,zA,zB,zC,zD,zE,zF,reduceCtorEq] <;> rfl)) (⟨Nat.zero_le _, rfl⟩) ?_
  rintro ⟨i, L⟩ ⟨hi, hL⟩
  try dsimp only at hi hL ⊢
  intro Z1 cE
  simp only [ab,ae,dL,List.length_map,go_sem,reduceIte,zA,zB,zC,zD,zE,zF,reduceCtorEq]
  refine aL (fun lX => ?_) (fun lX => ?_)
  ·have aF : i < (dy (aq l) p).length := by simpa using lX
   have IF : (dy (aq l) p).length ≤ 256 := Nat.le_trans (List.length_filter_le _ _) (iX l)
   have hw := aC i (by omega)
   obtain ⟨x, hx⟩ : ∃ x, (dy (aq l) p)[i]? = some x := ⟨_, List.getElem?_eq_getElem aF⟩
   have nb := Ak hx
   have ZS := Nh x.ay
   have LX : IntKind.i64.wrap (x.ay.pl + 1) = x.ay.pl + 1 := IntWalk.i64_in _ (by omega)
   have fJ : ∀ a b : Int, bM [V.agg [num a, num b]] 0 2 = true := fun _ _ => rfl
   have zQ : L.length ≤ 256 := by
    rw [hL]; unfold xI
    rw [List.length_map]
    exact Nat.le_trans (List.length_filter_le _ _) (by rw [List.length_take]; omega)
   have fS : L.length + 1 ≤ 34359738368 := by omega
   simp only [ab,ae,dL,hw,List.getElem?_map,hx,af,ag,ah,Option.map_some,List.length_map,go_sem,reduceIte,zA,zB,zC,zD,zE,zF,reduceCtorEq]
   refine aL (fun gr => ?_) (fun gr => ?_)
   ·have xF : x.yk = false := by simpa using gr
    rw [if_neg (by simp [xF])] at nb
    let nv : Nat × List br := (i + 1, L ++ [JO x])
    have P9 : L ++ [JO x] = xI ((dy (aq l) p).take (i + 1)) := by rw [nb, hL]
    simp only [ab,ae,dL,hw,List.getElem?_map,hx,af,ag,ah,Option.map_some,LX,fJ,fS,List.length_cons,List.length_nil,Nat.zero_add,List.length_map,go_sem,reduceIte,zA,zB,zC,zD,zE,zF,reduceCtorEq]
    refine bH tt_ok aK [⟨.n, 0, [], [], []⟩, ⟨.r, 0, [], [], []⟩, ⟨.n, 0, [], [1], []⟩, ⟨.r, 0, [], [], []⟩, ⟨.n, 0, [], [1,2,3], []⟩, ⟨.n, 0, [], [1,2,3,4], []⟩, ⟨.n, 0, [], [1,2,3,4,5], []⟩, ⟨.n, 0, [], [1,2,3,4,5,6], []⟩, ⟨.w, 0, [], [0,1,2,3,4,5,6,7], []⟩, ⟨.n, 0, [], [0,1,2,3,4,5,6,7,8], []⟩] 1 (by kernel_rfl) ?_
    simp only [ab,ae,dL,hw,List.getElem?_map,hx,af,ag,ah,Option.map_some,LX,fJ,fS,List.length_cons,List.length_nil,Nat.zero_add,List.length_map,go_sem,reduceIte,zA,zB,zC,zD,zE,zF,reduceCtorEq]
    refine cG (by have h := iN x; simp only [af,ag,ah] at h; exact h) ?_
    rintro _ rfl
    simp only [ab,ae,dL,hw,List.getElem?_map,hx,af,ag,ah,Option.map_some,LX,fJ,fS,List.length_cons,List.length_nil,Nat.zero_add,List.length_map,go_sem,reduceIte,zA,zB,zC,zD,zE,zF,reduceCtorEq]
    refine cG (by have h := iN x; simp only [af,ag,ah] at h; exact h) ?_
    rintro _ rfl
    simp only [ab,ae,dL,hw,List.getElem?_map,hx,af,ag,ah,Option.map_some,LX,fJ,fS,List.length_cons,List.length_nil,Nat.zero_add,List.length_map,go_sem,reduceIte,zA,zB,zC,zD,zE,zF,reduceCtorEq]
    refine cE _ ⟨nv, ?_, ?_, bd (by omega) (by (simp only [nv,hw,List.map_append,List.map_cons,List.map_nil,List.length_append,List.length_map,List.length_cons,List.length_nil,Nat.zero_add,aj,JO,ab,ae,go_sem,reduceIte,zA,zB,zC,zD,zE,zF,reduceCtorEq]))⟩
    ·exact ⟨aF, P9⟩
    ·dsimp only [nv]; omega
   ·have xF : x.yk = true := by simpa using gr
    rw [if_pos xF] at nb
    let nv : Nat × List br := (i + 1, L)
    have P9 : L = xI ((dy (aq l) p).take (i + 1)) := by rw [nb, hL, List.append_nil]
    simp only [ab,ae,dL,hw,List.getElem?_map,hx,af,ag,ah,Option.map_some,List.length_map,go_sem,reduceIte,zA,zB,zC,zD,zE,zF,reduceCtorEq]
    refine cE _ ⟨nv, ?_, ?_, bd (by omega) (by (simp only [nv,hw,List.map_append,List.map_cons,List.map_nil,List.length_append,List.length_map,List.length_cons,List.length_nil,Nat.zero_add,aj,JO,ab,ae,go_sem,reduceIte,zA,zB,zC,zD,zE,zF,reduceCtorEq]))⟩
    ·exact ⟨aF, P9⟩
    ·dsimp only [nv]; omega
  ·have dg : ¬ i < (dy (aq l) p).length := by simpa using lX
   have wz : i = (dy (aq l) p).length := by omega
   have TJ : L = xI (dy (aq l) p) := by rw [hL, wz, List.take_length]
   have zQ : L.length ≤ 1048576 := by
    rw [TJ]; unfold xI
    rw [List.length_map]
    exact Nat.le_trans (List.length_filter_le _ _) (Nat.le_trans (List.length_filter_le _ _) (by have := iX l; omega))
   have IL : List.take L.length (L.map aj) = L.map aj := List.take_of_length_le (by simp)
   have TK : L.length ≤ (L.map aj).length := by simp
   have qc : some (.slice ((canon L).map aj)) = some (al (canon (xI (dy (aq l) p)))) := by rw [TJ]; rfl
   simp only [ab,ae,dL,IL,TK,List.length_map,go_sem,reduceIte,zA,zB,zC,zD,zE,zF,reduceCtorEq]
   refine cF (⟨_, rfl, by have h := o3 L (by omega); simp only [al] at h; exact h⟩) ?_
   rintro _ rfl
   simp only [ab,ae,dL,IL,TK,List.length_map,go_sem,reduceIte,zA,zB,zC,zD,zE,zF,reduceCtorEq]
   exact hK _ (Option.some.inj (qc))
 ·have dL := fun (mem : List au) (b : Nat) hm => sd (aq l) p (mem := mem) (b := b) hm
  simp only [if_neg hY] at dL
  have IH : dy (aq l) p = [] := by have h := nO hY; unfold bQ at h; simpa using h
  simp only [ab,ae,dL,List.length_map,go_sem,reduceIte,zA,zB,zC,zD,zE,zF,reduceCtorEq]
  refine pW (v' := .slice ((dy (aq l) p).map af)) 18 (by decide) rfl (by rw [IH]; rfl) ?_
  refine M5 (v' := num ((dy (aq l) p).length : Int)) 19 (by rw [IH]; rfl) ?_
  refine EY 7 0 2 (by decide) rfl ?_
  refine cT tt_ok [] (fun a : Nat × List br => [(7, .ms 6 a.2.length 0 a.2.length), (18, .slice ((dy (aq l) p).map af)), (19, num (dy (aq l) p).length), (20, num a.1)]) (fun a : Nat × List br => [.box [.slice (l.map af), .slice I], .box [.slice (l.map af), .slice I], .box [.mp 3, .mp 4], .map (bC aN 0 (gK (aq l))) (gK (aq l)).length, .map (bC strVal 0 (gP (aq l))) (aM (aq l)).length, .box [.mp 3, .mp 4], .rows a.2.length 2 (a.2.map aj)]) (fun a => (dy (aq l) p).length - a.1) (fun a => a.1 ≤ (dy (aq l) p).length ∧ a.2 = xI ((dy (aq l) p).take a.1)) ((0, [])) 7 (bd (by omega) (by simp only [ab,ae,dL,List.length_map,List.map_nil,List.length_nil,Int.cast_ofNat_Int,go_sem,reduceIte,zA,zB,zC,zD,zE,zF,reduceCtorEq] <;> rfl)) (⟨Nat.zero_le _, rfl⟩) ?_
  rintro ⟨i, L⟩ ⟨hi, hL⟩
  try dsimp only at hi hL ⊢
  intro Z2 pn
  simp only [ab,ae,dL,List.length_map,go_sem,reduceIte,zA,zB,zC,zD,zE,zF,reduceCtorEq]
  refine aL (fun lX => ?_) (fun lX => ?_)
  ·have aF : i < (dy (aq l) p).length := by simpa using lX
   have IF : (dy (aq l) p).length ≤ 256 := Nat.le_trans (List.length_filter_le _ _) (iX l)
   have hw := aC i (by omega)
   obtain ⟨x, hx⟩ : ∃ x, (dy (aq l) p)[i]? = some x := ⟨_, List.getElem?_eq_getElem aF⟩
   have nb := Ak hx
   have ZS := Nh x.ay
   have LX : IntKind.i64.wrap (x.ay.pl + 1) = x.ay.pl + 1 := IntWalk.i64_in _ (by omega)
   have fJ : ∀ a b : Int, bM [V.agg [num a, num b]] 0 2 = true := fun _ _ => rfl
   have zQ : L.length ≤ 256 := by
    rw [hL]; unfold xI
    rw [List.length_map]
    exact Nat.le_trans (List.length_filter_le _ _) (by rw [List.length_take]; omega)
   have fS : L.length + 1 ≤ 34359738368 := by omega
   simp only [ab,ae,dL,hw,List.getElem?_map,hx,af,ag,ah,Option.map_some,List.length_map,go_sem,reduceIte,zA,zB,zC,zD,zE,zF,reduceCtorEq]
   refine aL (fun gr => ?_) (fun gr => ?_)
   ·have xF : x.yk = false := by simpa using gr
    rw [if_neg (by simp [xF])] at nb
    let nv : Nat × List br := (i + 1, L ++ [JO x])
    have P9 : L ++ [JO x] = xI ((dy (aq l) p).take (i + 1)) := by rw [nb, hL]
    simp only [ab,ae,dL,hw,List.getElem?_map,hx,af,ag,ah,Option.map_some,LX,fJ,fS,List.length_cons,List.length_nil,Nat.zero_add,List.length_map,go_sem,reduceIte,zA,zB,zC,zD,zE,zF,reduceCtorEq]
    refine bH tt_ok aK [⟨.n, 0, [], [], []⟩, ⟨.r, 0, [], [], []⟩, ⟨.n, 0, [], [1], []⟩, ⟨.r, 0, [], [], []⟩, ⟨.n, 0, [], [1,2,3], []⟩, ⟨.n, 0, [], [1,2,3,4], []⟩, ⟨.n, 0, [], [1,2,3,4,5], []⟩, ⟨.n, 0, [], [1,2,3,4,5,6], []⟩, ⟨.w, 0, [], [0,1,2,3,4,5,6,7], []⟩, ⟨.n, 0, [], [0,1,2,3,4,5,6,7,8], []⟩] 1 (by kernel_rfl) ?_
    simp only [ab,ae,dL,hw,List.getElem?_map,hx,af,ag,ah,Option.map_some,LX,fJ,fS,List.length_cons,List.length_nil,Nat.zero_add,List.length_map,go_sem,reduceIte,zA,zB,zC,zD,zE,zF,reduceCtorEq]
    refine cG (by have h := iN x; simp only [af,ag,ah] at h; exact h) ?_
    rintro _ rfl
    simp only [ab,ae,dL,hw,List.getElem?_map,hx,af,ag,ah,Option.map_some,LX,fJ,fS,List.length_cons,List.length_nil,Nat.zero_add,List.length_map,go_sem,reduceIte,zA,zB,zC,zD,zE,zF,reduceCtorEq]
    refine cG (by have h := iN x; simp only [af,ag,ah] at h; exact h) ?_
    rintro _ rfl
    simp only [ab,ae,dL,hw,List.getElem?_map,hx,af,ag,ah,Option.map_some,LX,fJ,fS,List.length_cons,List.length_nil,Nat.zero_add,List.length_map,go_sem,reduceIte,zA,zB,zC,zD,zE,zF,reduceCtorEq]
    refine pn _ ⟨nv, ?_, ?_, bd (by omega) (by (simp only [nv,hw,List.map_append,List.map_cons,List.map_nil,List.length_append,List.length_map,List.length_cons,List.length_nil,Nat.zero_add,aj,JO,ab,ae,go_sem,reduceIte,zA,zB,zC,zD,zE,zF,reduceCtorEq]))⟩
    ·exact ⟨aF, P9⟩
    ·dsimp only [nv]; omega
   ·have xF : x.yk = true := by simpa using gr
    rw [if_pos xF] at nb
    let nv : Nat × List br := (i + 1, L)
    have P9 : L = xI ((dy (aq l) p).take (i + 1)) := by rw [nb, hL, List.append_nil]
    simp only [ab,ae,dL,hw,List.getElem?_map,hx,af,ag,ah,Option.map_some,List.length_map,go_sem,reduceIte,zA,zB,zC,zD,zE,zF,reduceCtorEq]
    refine pn _ ⟨nv, ?_, ?_, bd (by omega) (by (simp only [nv,hw,List.map_append,List.map_cons,List.map_nil,List.length_append,List.length_map,List.length_cons,List.length_nil,Nat.zero_add,aj,JO,ab,ae,go_sem,reduceIte,zA,zB,zC,zD,zE,zF,reduceCtorEq]))⟩
    ·exact ⟨aF, P9⟩
    ·dsimp only [nv]; omega
  ·have dg : ¬ i < (dy (aq l) p).length := by simpa using lX
   have wz : i = (dy (aq l) p).length := by omega
   have TJ : L = xI (dy (aq l) p) := by rw [hL, wz, List.take_length]
   have zQ : L.length ≤ 1048576 := by
    rw [TJ]; unfold xI
    rw [List.length_map]
    exact Nat.le_trans (List.length_filter_le _ _) (Nat.le_trans (List.length_filter_le _ _) (by have := iX l; omega))
   have IL : List.take L.length (L.map aj) = L.map aj := List.take_of_length_le (by simp)
   have TK : L.length ≤ (L.map aj).length := by simp
   have qc : some (.slice ((canon L).map aj)) = some (al (canon (xI (dy (aq l) p)))) := by rw [TJ]; rfl
   simp only [ab,ae,dL,IL,TK,List.length_map,go_sem,reduceIte,zA,zB,zC,zD,zE,zF,reduceCtorEq]
   refine cF (⟨_, rfl, by have h := o3 L (by omega); simp only [al] at h; exact h⟩) ?_
   rintro _ rfl
   simp only [ab,ae,dL,IL,TK,List.length_map,go_sem,reduceIte,zA,zB,zC,zD,zE,zF,reduceCtorEq]
   exact hK _ (Option.some.inj (qc))
end Go.Proofs.YtnfeacnbgbggfaaGreatDoor
end

section
namespace Go.Proofs.YtnfeacnbgbggfaaGreatDoor
open Go.Eng
open Nat renaming reduceAdd → zA, reduceLT → zB, reduceLeDiff → zC, reduceMul → zD, reduceEqDiff → zE, reduceSub → zF
variable [aE]
set_option maxHeartbeats 4000000
set_option maxRecDepth 100000
def rG (s : List gR) : Bool := (List.range s.length).all fun i => match s[i]?, s[i + 1]? with | some a, some b => vF a.path b.path | _, _ => true
theorem ud (s : List gR) : rG s = true ↔ ∀ (i : Nat) (a b : gR), s[i]? = some a → s[i + 1]? = some b → vF a.path b.path = true := by
 unfold rG
 rw [List.all_eq_true]
 constructor
 ·intro h i a b ha hb
  have h1 := h i (by rw [List.mem_range]; exact (List.getElem?_eq_some_iff.1 ha).1)
  rw [ha, hb] at h1
  exact h1
 ·intro h i hi
  split
  ·rename_i a b ha hb; exact h i a b ha hb
  ·rfl
def ln (l : List Rl) (s : List gR) : Option (List Rl) := s.mapM (Ci l)
def mV (l : List Rl) (s : List gR) : V := if rG s = true then (match ln l s with | some m => .bt [.slice (m.map af), num 0] | none => .bt [.sc (.slice none 0 0), num 6]) else .bt [.sc (.slice none 0 0), num 1]
theorem Fz {l : List Rl} {s : List gR} {i : Nat} {y : gR} {R : List Rl} {r : Rl} (h : ln l (s.take i) = some R) (hy : s[i]? = some y) (hf : Ci l y = some r) : ln l (s.take (i + 1)) = some (R ++ [r]) := by
 unfold ln at h ⊢
 rw [List.take_add_one, hy, List.mapM_append, h]
 simp [hf]
theorem FA {l : List Rl} {s : List gR} {i : Nat} {y : gR} (hy : s[i]? = some y) (hf : Ci l y = none) : ln l s = none := by
 unfold ln
 have hs : s = s.take i ++ y :: s.drop (i + 1) := by
  obtain ⟨h1, h2⟩ := List.getElem?_eq_some_iff.1 hy
  rw [← h2, List.getElem_cons_drop, List.take_append_drop]
 rw [hs, List.mapM_append]
 cases (s.take i).mapM (Ci l) with
 | none => rfl
 | some R => simp [hf]
theorem Al {l : List Rl} {s : List gR} {R : List Rl} (h : ln l s = some R) : R.length = s.length := by
 unfold ln at h
 induction s generalizing R with
 | nil => simp at h; subst h; rfl
 | cons a t ih =>
  rw [List.mapM_cons] at h
  cases h1 : Ci l a with
  | none => rw [h1] at h; simp at h
  | some b =>
   rw [h1] at h
   cases h2 : t.mapM (Ci l) with
   | none => rw [h2] at h; simp at h
   | some r' =>
    rw [h2] at h
    simp at h
    subst h
    rw [List.length_cons, List.length_cons, ih h2]
theorem Am (l : List Rl) (s : List gR) (hs : s.length ≤ 1048576) : ∃ r_ m_, (fun r m => r = mV l s ∧ m = [.map (bC aN 0 (gK (aq l))) (gK (aq l)).length, .map (bC strVal 0 (gP (aq l))) (aM (aq l)).length]) r_ m_ ∧ aR Tryz.prog 51 [.agg [.mp 0, .mp 1], bT s] ([.map (bC aN 0 (gK (aq l))) (gK (aq l)).length, .map (bC strVal 0 (gP (aq l))) (aM (aq l)).length]) r_ m_ := by
 refine F4 tt_ok [15] 51 [.tmp 4, .tmp 5] (2) (by simp) (fn := Tryz.f51) Tryz.func51 rfl Tryz.call51 ⟨rfl, rfl, by simp⟩ fun K hK => ?_
 simp only [bT]
 simp only [ab,ae,List.length_map,dJ,go_sem,reduceIte,zA,zB,zC,zD,zE,zF,reduceCtorEq]
 refine bO tt_ok [15] [6] 3 [1,2] (fun vs => ((s.length : Int) - Go.Eng.intOf (vs.headD .undef)).toNat) (fun vs => ∃ i : Nat, vs = [num ((i + 1 : Nat) : Int)] ∧ (i = 0 ∨ i + 1 ≤ s.length) ∧ ∀ j < i, ∀ a b : gR, s[j]? = some a → s[j + 1]? = some b → vF a.path b.path = true) (by omega) (by simp only [ab,ae,List.length_map,dJ,go_sem,reduceIte,zA,zB,zC,zD,zE,zF,reduceCtorEq]) (⟨0, rfl, .inl rfl, fun j hj => absurd hj (Nat.not_lt_zero j)⟩) fun vs hI Z1 cE => ?_
 obtain ⟨i, rfl, hi, bn⟩ := hI
 simp only [ab,ae,List.length_map,dJ,go_sem,reduceIte,zA,zB,zC,zD,zE,zF,reduceCtorEq]
 refine aL (fun lS => ?_) (fun lS => ?_)
 ·have aF : i + 1 < s.length := by have := of_decide_eq_true lS; omega
  obtain ⟨x, hx⟩ : ∃ x, s[i]? = some x := ⟨_, List.getElem?_eq_getElem (by omega)⟩
  obtain ⟨y, hy⟩ : ∃ y, s[i + 1]? = some y := ⟨_, List.getElem?_eq_getElem aF⟩
  have hw := aC (i + 1) (by omega)
  have PI : IntKind.i64.wrap (((i + 1 : Nat) : Int) - 1) = (i : Int) := by rw [IntWalk.i64_in _ (by omega)]; omega
  simp only [ab,ae,hw,PI,List.getElem?_map,hx,hy,Option.map_some,bh,List.length_map,dJ,go_sem,reduceIte,zA,zB,zC,zD,zE,zF,reduceCtorEq]
  refine bH tt_ok aK [⟨.n, 0, [], [], []⟩, ⟨.n, 0, [], [], []⟩, ⟨.n, 0, [], [], []⟩, ⟨.r, 0, [], [], []⟩, ⟨.n, 0, [], [], []⟩, ⟨.r, 0, [], [], []⟩, ⟨.n, 0, [], [], []⟩, ⟨.n, 0, [], [], []⟩, ⟨.r, 0, [], [], []⟩, ⟨.n, 0, [], [], []⟩, ⟨.r, 0, [], [], []⟩, ⟨.n, 0, [], [], []⟩] 0 (by kernel_rfl) ?_
  simp only [ab,ae,hw,PI,List.getElem?_map,hx,hy,Option.map_some,bh,List.length_map,dJ,go_sem,reduceIte,zA,zB,zC,zD,zE,zF,reduceCtorEq]
  refine aL (fun zV => ?_) (fun zV => ?_)
  ·have TL : ¬ rG s = true := fun h => by
    have h1 := (ud s).1 h i x y hx hy
    unfold vF at h1
    rw [h1] at zV; cases zV
   have hV : mV l s = .bt [.sc (.slice none 0 0), num 1] := by unfold mV; rw [if_neg TL]
   simp only [ab,ae,hw,PI,List.getElem?_map,hx,hy,Option.map_some,bh,List.length_map,dJ,go_sem,reduceIte,zA,zB,zC,zD,zE,zF,reduceCtorEq]
   exact hK _ _ ⟨hV.symm, rfl⟩
  ·simp only [ab,ae,hw,PI,List.getElem?_map,hx,hy,Option.map_some,bh,List.length_map,dJ,go_sem,reduceIte,zA,zB,zC,zD,zE,zF,reduceCtorEq]
   refine cE _ (eR (by omega) (by simp only [ab,ae,hw,PI,List.getElem?_map,hx,hy,Option.map_some,bh,List.length_map,dJ,go_sem,reduceIte,zA,zB,zC,zD,zE,zF,reduceCtorEq]) ?_ ?_) <;> simp only [ja,lk,reduceIte,zE]
   ·refine ⟨i + 1, rfl, .inr (by omega), fun j hj a b ha hb => ?_⟩
    rcases Nat.lt_or_ge j i with h | h
    ·exact bn j h a b ha hb
    ·obtain rfl : j = i := by omega
     rw [hx] at ha; rw [hy] at hb; cases ha; cases hb
     unfold vF; simpa using zV
   ·simp only [Go.Eng.intOf,List.headD_cons]; omega
 ·have dg : ¬ i + 1 < s.length := by have := of_decide_eq_false lS; omega
  have IN : rG s = true := (ud s).2 fun j a b ha hb => bn j (by have := (List.getElem?_eq_some_iff.1 hb).1; omega) a b ha hb
  simp only [ab,ae,List.length_map,dJ,go_sem,reduceIte,zA,zB,zC,zD,zE,zF,reduceCtorEq]
  refine EY 7 0 9 (by decide) rfl ?_
  refine cT tt_ok [15] (fun b : Nat × List Rl => [(2, .ptr 2 0), (7, .ms 3 b.1 0 b.1), (30, .slice (s.map bh)), (31, num s.length), (32, num b.1)]) (fun b : Nat × List Rl => [.map (bC aN 0 (gK (aq l))) (gK (aq l)).length, .map (bC strVal 0 (gP (aq l))) (aM (aq l)).length, .box [.mp 0, .mp 1], .rows b.1 9 (b.2.map af)]) (fun b => s.length - b.1) (fun b => b.1 ≤ s.length ∧ ln l (s.take b.1) = some b.2 ∧ b.2.length = b.1) ((0, [])) 4 (bd (by omega) (by simp only [ab,ae,List.length_map,dJ,List.map_nil,Int.cast_ofNat_Int,go_sem,reduceIte,zA,zB,zC,zD,zE,zF,reduceCtorEq] <;> rfl)) (⟨Nat.zero_le _, rfl, rfl⟩) ?_
  rintro ⟨i, R⟩ ⟨hi, hR, LY⟩
  try dsimp only at hi hR LY ⊢
  intro Z2 pn
  simp only [ab,ae,List.length_map,dJ,go_sem,reduceIte,zA,zB,zC,zD,zE,zF,reduceCtorEq]
  refine aL (fun zR => ?_) (fun zR => ?_)
  ·have aF : i < s.length := by simpa using zR
   have hw := aC i (by omega)
   obtain ⟨x, hx⟩ : ∃ x, s[i]? = some x := ⟨_, List.getElem?_eq_getElem aF⟩
   have fJ : ∀ q : Rl, bM [V.agg [str q.path, num q.ay.mj, num q.ay.mn, num q.ay.pt, V.slice (q.reqs.map ak), str q.ar, str q.ei, str q.ce, bl q.yk]] 0 9 = true := fun q => rfl
   have fS : i + 1 ≤ 34359738368 := by omega
   have X8 : (R.map af).length = i := by rw [List.length_map, LY]
   rcases hf : Ci l x with _ | r
   ·have dL := fun (mem : List au) (b : Nat) hm => It hf (mem := mem) (b := b) hm
    simp only [mT] at dL
    have hV : mV l s = .bt [.sc (.slice none 0 0), num 6] := by unfold mV; rw [if_pos IN, FA hx hf]
    simp only [ab,ae,hw,List.getElem?_map,hx,Option.map_some,bh,fJ,fS,X8,List.length_append,List.length_cons,List.length_nil,Nat.zero_add,dL,List.length_map,dJ,go_sem,reduceIte,zA,zB,zC,zD,zE,zF,reduceCtorEq]
    exact hK _ _ ⟨hV.symm, rfl⟩
   ·have dL := fun (mem : List au) (b : Nat) hm => LK hf (mem := mem) (b := b) hm
    simp only [mT,af,ag,ah] at dL
    simp only [ab,ae,hw,List.getElem?_map,hx,Option.map_some,bh,fJ,fS,X8,List.length_append,List.length_cons,List.length_nil,Nat.zero_add,dL,af,ag,ah,List.length_map,dJ,go_sem,reduceIte,zA,zB,zC,zD,zE,zF,reduceCtorEq]
    refine pn _ ⟨(i + 1, R ++ [r]), ?_, ?_, bd (by omega) (by (simp only [hw,List.map_append,List.map_cons,List.map_nil,af,ag,ah,ab,ae,go_sem,reduceIte,zA,zB,zC,zD,zE,zF,reduceCtorEq]))⟩
    ·exact ⟨aF, Fz hR hx hf, by dsimp only; rw [List.length_append, LY]; rfl⟩
    ·dsimp only; omega
  ·have Tr : ¬ i < s.length := by simpa using zR
   have wz : i = s.length := by omega
   subst wz
   rw [List.take_length] at hR
   have hV : mV l s = .bt [.slice (R.map af), num 0] := by unfold mV; rw [if_pos IN, hR]
   simp only [ab,ae,List.length_map,dJ,go_sem,reduceIte,zA,zB,zC,zD,zE,zF,reduceCtorEq]
   refine pW (v' := .slice (R.map af)) 7 (by decide) rfl (by simp [lk, er, bz, LY, List.take_of_length_le]) ?_
   refine QY tt_ok [15] ?_
   simp only [ab,ae,List.length_map,dJ,go_sem,reduceIte,zA,zB,zC,zD,zE,zF,reduceCtorEq]
   exact hK _ _ ⟨hV.symm, rfl⟩
end Go.Proofs.YtnfeacnbgbggfaaGreatDoor
end

section
namespace Go.Proofs.YtnfeacnbgbggfaaGreatDoor
open Go.Eng
open Nat renaming reduceAdd → zA, reduceLT → zB, reduceLeDiff → zC, reduceMul → zD, reduceEqDiff → zE, reduceSub → zF
variable [aE]
set_option maxHeartbeats 4000000
set_option maxRecDepth 100000
def IP (m : List Rl) (p : ByteArray) : Option Rl := m.find? fun r => decide (r.path = p)
def gB (m : List Rl) : List (ByteArray × V) := m.map fun r => (r.path, af r)
theorem se (p : ByteArray) : ∀ m : List Rl, getM p (gB m) = (IP m p).map af
 | [] => rfl
 | r :: t => by
  show (if r.path = p then some (af r) else getM p (gB t)) = _
  unfold IP
  rw [List.find?_cons]
  by_cases h : r.path = p
  ·simp [h]
  ·have := se p t
   unfold IP at this
   simp [h, this]
theorem az (n : Nat) (m : List Rl) : ((bC strVal 0 (gB m)).all fun e => ai n e.2.2) = true := by
 rw [kP strVal (ai n)]
 unfold gB
 simp [l5]
theorem D2 (σ : Nat → Nat) (m : List Rl) (c : Nat) : cp σ (.map (bC strVal 0 (gB m)) c) = .map (bC strVal 0 (gB m)) c := by
 rw [o8]
 congr 2
 unfold gB
 rw [List.map_map]
 exact List.map_congr_left fun r _ => by simp [DS]
theorem IQ {m : List Rl} {p : ByteArray} (h : IP m p = none) {mem : List au} {b : Nat} (hm : mem[b]? = some (.map (bC strVal 0 (gB m)) (gB m).length)) :
  c7 Tryz.prog mem 92 (.mp b) (str p) true = some (.bt [.agg [str ⟨#[]⟩, num 0, num 0, num 0, .sc (.slice none 0 0), str ⟨#[]⟩, str ⟨#[]⟩, str ⟨#[]⟩, bl false], bl false]) := by
 rw [LD.get p (gB m) hm tV, se, h]; rfl
theorem IS {m : List Rl} {p : ByteArray} {r : Rl} (h : IP m p = some r) {mem : List au} {b : Nat} (hm : mem[b]? = some (.map (bC strVal 0 (gB m)) (gB m).length)) :
  c7 Tryz.prog mem 92 (.mp b) (str p) true = some (.bt [af r, bl true]) := by
 rw [LD.get p (gB m) hm tV, se, h]; rfl
theorem LZ {m : List Rl} {p : ByteArray} {r : Rl} (h : IP m p = some r) {mem : List au} {b : Nat} (hm : mem[b]? = some (.map (bC strVal 0 (gB m)) (gB m).length)) :
  c7 Tryz.prog mem 92 (.mp b) (str p) false = some (af r) := by
 rw [LD.get p (gB m) hm tV, se, h]; rfl
def brk (m : List Rl) (q : Rq) : Bool := match IP m q.path with | none => true | some r => !has q.set r.ay.pl
def σ2 (k k2 n j : Nat) : Nat := if j = 0 then k else if j = 1 then k2 else n + (j - 2)
theorem ue {P : Program} {f : FuncId} {vs : List V} {r : V} {B0 B1 rA : au} (h : aR P f vs [B0, B1] r [rA, B1]) (M : List au) (k k2 : Nat) (hv : vs.all (ai 2) = true) (hm : [B0, B1].all (aB 2) = true) (hr : ai 2 r = true) (G1 : [rA, B1].all (aB 2) = true)
  (hk : M[k]? = some (cp (σ2 k k2 M.length) B0)) (kC : M[k2]? = some (cp (σ2 k k2 M.length) B1)) (bD : k ≠ k2) :
  aR P f (bZ (σ2 k k2 M.length) vs) M (bj (σ2 k k2 M.length) r) (M.set k (cp (σ2 k k2 M.length) rA)) := by
 have h3 := h.zd M (σ2 k k2 M.length) 2 rfl hv hm hr G1 (by simp) (fun i B hi => by
  match i with
  | 0 => simp at hi; subst hi; exact hk
  | 1 => simp at hi; subst hi; exact kC
  | i + 2 => simp at hi) (fun i j hi hj he => by
  match i, j with
  | 0, 0 => rfl
  | 1, 1 => rfl
  | 0, 1 => exact absurd (by simpa [σ2] using he) bD
  | 1, 0 => exact absurd (by simpa [σ2] using he.symm) bD
  | i + 2, _ => omega
  | _, j + 2 => omega) (fun j hj => by unfold σ2; rw [if_neg (by omega), if_neg (by omega)])
 have hM : mQ (σ2 k k2 M.length) 2 [rA, B1] M = M.set k (cp (σ2 k k2 M.length) rA) := by
  unfold mQ
  simp only [F6,List.map_nil,List.append_nil,gh]
  show (M.set k (cp _ rA)).set k2 (cp _ B1) = _
  exact eW (by rw [List.getElem?_set_ne bD]; exact kC)
 rwa [hM] at h3
theorem IT (m : List Rl) (q : Rq) (hq : tH q) : ∃ r_, (fun w => w = bl (brk m q)) r_ ∧ aR Tryz.prog 52 [ak q, .ptr 1 0] ([.map (bC strVal 0 (gB m)) (gB m).length, .box [.mp 0]]) r_ ([.map (bC strVal 0 (gB m)) (gB m).length, .box [.mp 0]]) := by
 refine F5 tt_ok [] 23 [.tmp 3] (fn := Tryz.f52) Tryz.func52 rfl Tryz.call52 ⟨rfl, rfl, by simp⟩ fun K hK => ?_
 simp only [ak,al]
 obtain ⟨xY, NJ⟩ := hq
 rcases hf : IP m q.path with _ | r
 ·have dL := fun (mem : List au) (b : Nat) hm => IQ hf (mem := mem) (b := b) hm
  have hR : true = brk m q := by unfold brk; rw [hf]
  simp only [az,dL,go_sem,reduceIte,zA,zB,zC,zD,zE,zF,reduceCtorEq]
  refine bH tt_ok aK [⟨.n, 0, [], [], []⟩, ⟨.n, 0, [], [], []⟩, ⟨.n, 0, [], [], []⟩, ⟨.n, 0, [], [], []⟩, ⟨.r, 0, [], [], []⟩, ⟨.r, 0, [], [], []⟩, ⟨.n, 0, [], [], []⟩, ⟨.n, 0, [], [], []⟩, ⟨.n, 0, [], [], []⟩, ⟨.n, 0, [], [], []⟩, ⟨.n, 0, [], [], []⟩] 0 (by kernel_rfl) ?_
  simp only [az,dL,go_sem,reduceIte,zA,zB,zC,zD,zE,zF,reduceCtorEq]
  exact hK _ _ ⟨congrArg bl hR, rfl⟩
 ·have dL := fun (mem : List au) (b : Nat) hm => IS hf (mem := mem) (b := b) hm
  simp only [af,ag,ah] at dL
  have hR : (!has q.set r.ay.pl) = brk m q := by unfold brk; rw [hf]
  simp only [az,dL,go_sem,reduceIte,zA,zB,zC,zD,zE,zF,reduceCtorEq]
  refine bH tt_ok aK [⟨.n, 0, [], [], []⟩, ⟨.n, 0, [], [], []⟩, ⟨.n, 0, [], [], []⟩, ⟨.n, 0, [], [], []⟩, ⟨.r, 0, [], [], []⟩, ⟨.r, 0, [], [], []⟩, ⟨.n, 0, [], [], []⟩, ⟨.n, 0, [], [], []⟩, ⟨.n, 0, [], [], []⟩, ⟨.n, 0, [], [], []⟩, ⟨.n, 0, [], [], []⟩] 0 (by kernel_rfl) ?_
  simp only [az,dL,go_sem,reduceIte,zA,zB,zC,zD,zE,zF,reduceCtorEq]
  refine cG (by have h := iN r; simp only [af,ag,ah] at h; exact h) ?_
  rintro _ rfl
  simp only [az,dL,go_sem,reduceIte,zA,zB,zC,zD,zE,zF,reduceCtorEq]
  refine cG (by have h := BP q.set r.ay.pl NJ; simp only [al] at h; exact h) ?_
  rintro _ rfl
  simp only [az,dL,go_sem,reduceIte,zA,zB,zC,zD,zE,zF,reduceCtorEq]
  exact hK _ _ ⟨congrArg bl hR, rfl⟩
theorem L0 (m : List Rl) (l : List Rq) (hl : l.length ≤ 2097152) (JM : ∀ q ∈ l, tH q) : ∃ r_, (fun w => ∃ k : Int, w = num k ∧ decide (0 ≤ k) = l.any (brk m)) r_ ∧ aR Tryz.prog 79 [ah l, .fU (.func 52) [] [.ptr 1 0]] ([.map (bC strVal 0 (gB m)) (gB m).length, .box [.mp 0]]) r_ ([.map (bC strVal 0 (gB m)) (gB m).length, .box [.mp 0]]) := by
 refine F5 tt_ok [] 19 [.tmp 4] (fn := Tryz.f79) Tryz.func79 rfl Tryz.call79 ⟨rfl, rfl, by simp⟩ fun K hK => ?_
 simp only [ah]
 simp only [az,List.length_map,go_sem,reduceIte,zA,zB,zC,zD,zE,zF,reduceCtorEq]
 refine bO tt_ok [] [8] 2 [0,1,7] (fun vs => ((l.length : Int) - Go.Eng.intOf (vs.headD .undef)).toNat) (fun vs => ∃ i : Nat, vs = [num i] ∧ i ≤ l.length ∧ ∀ j < i, ∀ x, l[j]? = some x → (brk m) x = false) (by omega) (by simp only [az,List.length_map,go_sem,reduceIte,zA,zB,zC,zD,zE,zF,reduceCtorEq]) (⟨0, rfl, Nat.zero_le _, fun j hj => absurd hj (Nat.not_lt_zero j)⟩) fun vs hI Z1 cE => ?_
 obtain ⟨i, rfl, hi, bn⟩ := hI
 simp only [az,List.length_map,go_sem,reduceIte,zA,zB,zC,zD,zE,zF,reduceCtorEq]
 refine aL (fun la => ?_) (fun la => ?_)
 ·have aF : i < l.length := by simpa using la
  have hw := aC i (by omega)
  obtain ⟨x, hx⟩ : ∃ x, l[i]? = some x := ⟨_, List.getElem?_eq_getElem aF⟩
  have DJ := JM x (List.mem_of_getElem? hx)
  simp only [az,hw,List.getElem?_map,hx,ak,al,List.length_map,go_sem,reduceIte,zA,zB,zC,zD,zE,zF,reduceCtorEq]
  refine cS (by have h := IT m x DJ; simp only [ak,al] at h; exact h) ?_
  rintro _ rfl
  simp only [az,hw,List.getElem?_map,hx,ak,al,List.length_map,go_sem,reduceIte,zA,zB,zC,zD,zE,zF,reduceCtorEq]
  refine aL (fun kK => ?_) (fun kK => ?_)
  ·have ax : decide (0 ≤ (i : Int)) = l.any (brk m) := by rw [BN hx kK]; exact decide_eq_true (Int.natCast_nonneg i)
   simp only [az,hw,List.getElem?_map,hx,ak,al,List.length_map,go_sem,reduceIte,zA,zB,zC,zD,zE,zF,reduceCtorEq]
   exact hK _ _ ⟨⟨_, rfl, ax⟩, rfl⟩
  ·simp only [az,hw,List.getElem?_map,hx,ak,al,List.length_map,go_sem,reduceIte,zA,zB,zC,zD,zE,zF,reduceCtorEq]
   refine cE _ (eR (by omega) (by simp only [az,hw,List.getElem?_map,hx,ak,al,List.length_map,go_sem,reduceIte,zA,zB,zC,zD,zE,zF,reduceCtorEq]) ?_ ?_) <;> simp only [ja,lk,reduceIte,zE]
   ·refine ⟨i + 1, rfl, aF, fun j hj => ?_⟩
    rcases Nat.lt_or_ge j i with h | h
    ·exact bn j h
    ·obtain rfl : j = i := by omega
     intro y hy
     rw [hx] at hy; cases hy; exact kK
   ·simp only [Go.Eng.intOf,List.headD_cons]; omega
 ·have dg : ¬ i < l.length := by simpa using la
  have ax : decide (0 ≤ (-1 : Int)) = l.any (brk m) := (any_none fun j hj => bn j (by omega)).symm ▸ rfl
  simp only [az,List.length_map,go_sem,reduceIte,zA,zB,zC,zD,zE,zF,reduceCtorEq]
  exact hK _ _ ⟨⟨_, rfl, ax⟩, rfl⟩
theorem L2 (m : List Rl) (l : List Rq) (hl : l.length ≤ 2097152) (JM : ∀ q ∈ l, tH q) : ∃ r_, (fun w => w = bl (l.any (brk m))) r_ ∧ aR Tryz.prog 26 [ah l, .fU (.func 52) [] [.ptr 1 0]] ([.map (bC strVal 0 (gB m)) (gB m).length, .box [.mp 0]]) r_ ([.map (bC strVal 0 (gB m)) (gB m).length, .box [.mp 0]]) := by
 refine F5 tt_ok [] 9 [.tmp 4] (fn := Tryz.f26) Tryz.func26 rfl Tryz.call26 ⟨rfl, rfl, by simp⟩ fun K hK => ?_
 simp only [ah]
 simp only [az,go_sem,reduceIte,zA,zB,zC,zD,zE,zF,reduceCtorEq]
 refine cS (by have h := L0 m l hl JM; simp only [ah] at h; exact h) ?_
 rintro _ ⟨k, rfl, hk⟩
 simp only [az,go_sem,reduceIte,zA,zB,zC,zD,zE,zF,reduceCtorEq]
 exact hK _ _ ⟨congrArg bl hk, rfl⟩
theorem An (m : List Rl) (l : List Rq) (hl : l.length ≤ 2097152) (JM : ∀ q ∈ l, tH q) (M : List au) (k k2 : Nat) (hk : M[k]? = some (.map (bC strVal 0 (gB m)) (gB m).length)) (kC : M[k2]? = some (.box [.mp k])) (bD : k ≠ k2) :
  ∃ r_, (fun w => w = bl (l.any (brk m))) r_ ∧ aR Tryz.prog 26 [.slice (l.map ak), .fU (.func 52) [] [.ptr k2 0]] M r_ M := by
 obtain ⟨r, rfl, h⟩ := L2 m l hl JM
 have h3 := ue h M k k2 (by simp [ah, ai, dh]) (by simp [pU, w6, az, ai]) (by simp [ai]) (by simp [pU, w6, az, ai]) (by rw [D2]; exact hk) (by simpa [cp, bZ, bj, σ2] using kC) bD
 rw [D2, eW hk] at h3
 exact ⟨_, rfl, by simpa [bZ, bj, σ2, ah] using h3⟩
end Go.Proofs.YtnfeacnbgbggfaaGreatDoor
end

section
namespace Go.Proofs.YtnfeacnbgbggfaaGreatDoor
open Go.Eng
open Nat renaming reduceAdd → zA, reduceLT → zB, reduceLeDiff → zC, reduceMul → zD, reduceEqDiff → zE, reduceSub → zF
variable [aE]
set_option maxHeartbeats 4000000
set_option maxRecDepth 100000
noncomputable def eC (l : List Rl) (roots : List Rq) (s : List gR) : Int :=
 if ir l ≠ 0 then 1 else if rG s = true then (match ln l s with
  | none => 6
  | some m => if (m.any fun r => r.reqs.any (brk m)) = true ∨ roots.any (brk m) = true then 17 else if (de m roots).length < m.length then 8 else 0) else 1
theorem L3 {s : List gR} (h : rG s = true) : s.Pairwise fun a b => a.path.data.toList < b.path.data.toList := by
 have h1 := (ud s).1 h
 clear h
 induction s with
 | nil => exact List.Pairwise.nil
 | cons a t ih =>
  have ht := ih fun i x y hx hy => h1 (i + 1) x y (by simpa using hx) (by simpa using hy)
  refine List.pairwise_cons.2 ⟨?_, ht⟩
  cases t with
  | nil => intro b hb; simp at hb
  | cons b t =>
   have h2 : a.path.data.toList < b.path.data.toList := by
    have h3 := h1 0 a b rfl rfl
    rw [HK] at h3
    exact of_decide_eq_true h3
   intro c hc
   rcases List.mem_cons.1 hc with rfl | hc
   ·exact h2
   ·exact List.lt_trans h2 ((List.pairwise_cons.1 ht).1 c hc)
theorem IU {l : List Rl} {y : gR} {r : Rl} (h : Ci l y = some r) : r ∈ aq l ∧ r.key = y := by
 unfold Ci at h
 exact ⟨List.mem_of_find?_eq_some h, by simpa using List.find?_some h⟩
theorem qo {l : List Rl} : ∀ {s : List gR} {m : List Rl}, ln l s = some m → m.map Rl.key = s ∧ ∀ r ∈ m, r ∈ aq l
 | [], m, h => by unfold ln at h; simp at h; subst h; simp
 | y :: t, m, h => by
  unfold ln at h
  rw [List.mapM_cons] at h
  cases h1 : Ci l y with
  | none => rw [h1] at h; simp at h
  | some r =>
   rw [h1] at h
   cases h2 : t.mapM (Ci l) with
   | none => rw [h2] at h; simp at h
   | some m' =>
    rw [h2] at h
    simp at h
    subst h
    obtain ⟨e1, e2⟩ := qo (s := t) h2
    obtain ⟨e3, e4⟩ := IU h1
    refine ⟨by rw [List.map_cons, e1, e4], fun x hx => ?_⟩
    rcases List.mem_cons.1 hx with rfl | hx
    ·exact e3
    ·exact e2 x hx
theorem Cq {l : List Rl} {s : List gR} {m : List Rl} (h : ln l s = some m) (hi : rG s = true) : m.Pairwise fun a b => a.path.data.toList < b.path.data.toList := by
 have h1 := L3 hi
 rw [← (qo h).1, List.pairwise_map] at h1
 exact h1
theorem IV {a b : ByteArray} (h : a.data.toList < b.data.toList) : a ≠ b := fun e => by subst e; exact List.lt_irrefl _ h
theorem Cr {m : List Rl} (h : m.Pairwise fun a b => a.path.data.toList < b.path.data.toList) : ∀ a ∈ m, ∀ b ∈ m, a.path = b.path → a = b := by
 intro a ha b hb he
 obtain ⟨i, hi⟩ := List.mem_iff_getElem?.1 ha
 obtain ⟨j, hj⟩ := List.mem_iff_getElem?.1 hb
 rcases Nat.lt_trichotomy i j with sv | sv | sv
 ·exact absurd he (IV (List.pairwise_iff_getElem.1 h i j (List.getElem?_eq_some_iff.1 hi).1 (List.getElem?_eq_some_iff.1 hj).1 sv |> fun h => by rwa [(List.getElem?_eq_some_iff.1 hi).2, (List.getElem?_eq_some_iff.1 hj).2] at h))
 ·subst sv; rw [hi] at hj; cases hj; rfl
 ·exact absurd he.symm (IV (List.pairwise_iff_getElem.1 h j i (List.getElem?_eq_some_iff.1 hj).1 (List.getElem?_eq_some_iff.1 hi).1 sv |> fun h => by rwa [(List.getElem?_eq_some_iff.1 hj).2, (List.getElem?_eq_some_iff.1 hi).2] at h))
theorem Ao {m : List Rl} {p : ByteArray} {r : Rl} (h : IP m p = some r) : r ∈ m ∧ r.path = p := ⟨List.mem_of_find?_eq_some h, by simpa using List.find?_some h⟩
theorem Qa {m : List Rl} {r : Rl} (h : ∀ x ∈ m, x.path ≠ r.path) : lj r.path (af r) (gB m) = gB (m ++ [r]) := by
 have : dx r.path (gB m) 0 = none := by
  have key : ∀ (m : List Rl) (n : Nat), (∀ x ∈ m, x.path ≠ r.path) → dx r.path (gB m) n = none := by
   intro m
   induction m with
   | nil => intro n _; rfl
   | cons a t ih =>
    intro n h
    show (if a.path = r.path then _ else dx r.path (gB t) (n + 1)) = none
    rw [if_neg (h a (by simp))]
    exact ih _ fun x hx => h x (by simp [hx])
  exact key m 0 h
 unfold lj
 rw [this]
 simp [gB]
theorem L4 {m : List Rl} {r : Rl} (h : ∀ x ∈ m, x.path ≠ r.path) {mem : List au} {b : Nat} (hm : mem[b]? = some (.map (bC strVal 0 (gB m)) (gB m).length)) :
  ch Tryz.prog mem 92 (.mp b) (str r.path) (af r) = some (mem.set b (.map (bC strVal 0 (gB (m ++ [r]))) (gB (m ++ [r])).length)) := by
 rw [LD.put r.path (af r) (gB m) hm, Qa h]
def gN (S : List Rl) : List (ByteArray × V) := S.map fun r => (r.path, bl true)
def pd (S : List Rl) (p : ByteArray) : Bool := S.any fun r => decide (r.path = p)
theorem aS (n : Nat) (S : List Rl) : ((bC strVal 0 (gN S)).all fun e => ai n e.2.2) = true := by
 rw [kP strVal (ai n)]
 unfold gN
 simp [ai]
theorem D3 (p : ByteArray) : ∀ S : List Rl, (getM p (gN S)).getD (bl false) = bl (pd S p)
 | [] => rfl
 | r :: t => by
  show (if r.path = p then some (bl true) else getM p (gN t)).getD _ = _
  unfold pd
  rw [List.any_cons]
  by_cases h : r.path = p
  ·simp [h]
  ·have := D3 p t
   unfold pd at this
   simp [h, this]
theorem IW (S : List Rl) (p : ByteArray) {mem : List au} {b : Nat} (hm : mem[b]? = some (.map (bC strVal 0 (gN S)) (gN S).length)) : c7 Tryz.prog mem 93 (.mp b) (str p) false = some (bl (pd S p)) := by
 rw [TC.get p (gN S) hm Ng, D3]; rfl
theorem Qb {S : List Rl} {r : Rl} (h : ∀ x ∈ S, x.path ≠ r.path) : lj r.path (bl true) (gN S) = gN (S ++ [r]) := by
 have : dx r.path (gN S) 0 = none := by
  have key : ∀ (m : List Rl) (n : Nat), (∀ x ∈ m, x.path ≠ r.path) → dx r.path (gN m) n = none := by
   intro m
   induction m with
   | nil => intro n _; rfl
   | cons a t ih =>
    intro n h
    show (if a.path = r.path then _ else dx r.path (gN t) (n + 1)) = none
    rw [if_neg (h a (by simp))]
    exact ih _ fun x hx => h x (by simp [hx])
  exact key S 0 h
 unfold lj
 rw [this]
 simp [gN]
theorem IX {S : List Rl} {r : Rl} (h : ∀ x ∈ S, x.path ≠ r.path) {mem : List au} {b : Nat} (hm : mem[b]? = some (.map (bC strVal 0 (gN S)) (gN S).length)) :
  ch Tryz.prog mem 93 (.mp b) (str r.path) (bl true) = some (mem.set b (.map (bC strVal 0 (gN (S ++ [r]))) (gN (S ++ [r])).length)) := by
 rw [TC.put r.path (bl true) (gN S) hm, Qb h]
theorem Qc {m : List Rl} {q : Rq} (hg : ∀ r ∈ m, r.ay.ok = true) (h : brk m q = false) : ∃ r, IP m q.path = some r ∧ r ∈ m ∧ jQ q r = true := by
 unfold brk at h
 cases hb : IP m q.path with
 | none => rw [hb] at h; cases h
 | some r =>
  rw [hb] at h
  obtain ⟨h1, h2⟩ := Ao hb
  refine ⟨r, rfl, h1, ?_⟩
  have DG : r.ay.pl = r.ay.place := by unfold fA.pl; rw [if_pos (hg r h1)]
  unfold jQ
  have h3 : (!has q.set r.ay.pl) = false := h
  rw [DG] at h3
  simp only [Bool.not_eq_false'] at h3
  simp [h2, h3]
theorem Ni (a b c d e f g h i : V) : og Tryz.prog tt 40 2 (.agg [a, b, c, d, e, f, g, h, i]) = some e := by
 simp [og, Tryz.underlying40, dq, Si]
theorem L5 {S : List Rl} : ((bC strVal 0 (gN S)).length : Int) = S.length := by rw [tS]; simp [gN]
theorem L6 {α : Type} [DecidableEq α] {S T : List α} (hS : S.Nodup) (hT : T.Nodup) (h : ∀ x, x ∈ S ↔ x ∈ T) : S.length = T.length :=
 ((List.perm_ext_iff_of_nodup hS hT).2 h).length_eq
theorem L7 (l : List Rl) (s : List gR) : (∃ e : Int, mV l s = .bt [.sc (.slice none 0 0), num e] ∧ e ≠ 0 ∧ (ir l = 0 → ∀ roots, eC l roots s = e)) ∨ (∃ m, ln l s = some m ∧ rG s = true ∧ mV l s = .bt [.slice (m.map af), num 0]) := by
 unfold mV eC
 by_cases hi : rG s = true
 ·rw [if_pos hi]
  cases hm : ln l s with
  | none => exact .inl ⟨6, rfl, by decide, fun hx roots => by rw [if_neg (by simp [hx]), if_pos hi]⟩
  | some m => exact .inr ⟨m, rfl, hi, rfl⟩
 ·rw [if_neg hi]
  exact .inl ⟨1, rfl, by decide, fun hx roots => by rw [if_neg (by simp [hx]), if_neg hi]⟩
theorem IY (l : List Rl) (s : List gR) (hs : s.length ≤ 1048576) (M : List au) (k k2 : Nat) (hk : M[k]? = some (.map (bC aN 0 (gK (aq l))) (gK (aq l)).length)) (kC : M[k2]? = some (.map (bC strVal 0 (gP (aq l))) (aM (aq l)).length)) (bD : k ≠ k2) :
  ∃ r_ m_, (fun r m => r = mV l s ∧ m = M) r_ m_ ∧ aR Tryz.prog 51 [.agg [.mp k, .mp k2], bT s] M r_ m_ := by
 obtain ⟨r, m, ⟨rfl, rfl⟩, h⟩ := Am l s hs
 have Oe : ai 2 (mV l s) = true := by
  unfold mV
  split
  ·split <;> simp [ai, dh]
  ·simp [ai, dh]
 have UG : ∀ σ, bj σ (mV l s) = mV l s := fun σ => by
  unfold mV
  split
  ·split <;> simp [bj, bZ]
  ·simp [bj, bZ]
 have h3 := ue h M k k2 (by simp [bT, ai, dh]) (by simp [pU, ab, ae]) Oe (by simp [pU, ab, ae]) (by rw [r8]; exact hk) (by rw [DT]; exact kC) bD
 rw [r8, eW hk, UG] at h3
 exact ⟨_, _, ⟨rfl, rfl⟩, by simpa [bZ, bj, σ2, bT] using h3⟩
theorem vW (hG : aE.g = some 0) (l : List Rl) (I : List V) (hb : F8 l) (roots : List Rq) (hr : roots.length ≤ 1048576) (WX : ∀ q ∈ roots, tH q) (s : List gR) (hs : s.length ≤ 1048576) : aP Tryz.prog 15 [dw l I, ah roots, bT s] (num (eC l roots s)) := by
 refine QZ tt_ok [] 93 [.tmp 6] (fn := Tryz.f15) Tryz.func15 rfl Tryz.call15 ⟨rfl, rfl, by simp⟩ fun K hK => ?_
 simp only [dw,bP,ah,bT]
 have JM := hb.1
 simp only [ab,ae,az,aS,List.length_map,go_sem,reduceIte,zA,zB,zC,zD,zE,zF,reduceCtorEq]
 refine cW (by have h := l6 hG l I hb; simp only [dw,bP] at h; exact h _) ?_
 rintro _ _ ⟨rfl, rfl⟩
 simp only [F6,TF,List.length_cons,List.length_nil,zA]
 simp only [ab,ae,az,aS,List.length_map,go_sem,reduceIte,zA,zB,zC,zD,zE,zF,reduceCtorEq]
 refine aL (fun fu => ?_) (fun fu => ?_)
 ·have ca : ir l ≠ 0 := by simpa using fu
  have hR : (1 : Int) = eC l roots s := by unfold eC; rw [if_pos ca]
  simp only [ab,ae,az,aS,List.length_map,go_sem,reduceIte,zA,zB,zC,zD,zE,zF,reduceCtorEq]
  exact hK _ (Option.some.inj (congrArg (fun x => some (num x)) hR))
 ·have ca : ir l = 0 := by simpa using fu
  have hgl : aq l = l := by unfold aq; rw [if_pos ca]
  rcases L7 l s with ⟨e, hZ, JF, ZT⟩ | ⟨m, AK, IN, hZ⟩
  ·simp only [ab,ae,az,aS,List.length_map,go_sem,reduceIte,zA,zB,zC,zD,zE,zF,reduceCtorEq]
   refine cW (by have h := IY l s hs; simp only [bT] at h; exact h _ 3 4 rfl rfl (by decide)) ?_
   rintro _ _ ⟨rfl, rfl⟩
   rw [hZ]
   simp only [ab,ae,az,aS,List.length_map,go_sem,reduceIte,zA,zB,zC,zD,zE,zF,reduceCtorEq]
   refine aL (fun zR => ?_) (fun zR => ?_)
   ·have hR : e = eC l roots s := (ZT ca roots).symm
    simp only [ab,ae,az,aS,List.length_map,go_sem,reduceIte,zA,zB,zC,zD,zE,zF,reduceCtorEq]
    exact hK _ (Option.some.inj (congrArg (fun x => some (num x)) hR))
   ·exact absurd zR (by simp [JF])
  ·simp only [ab,ae,az,aS,List.length_map,go_sem,reduceIte,zA,zB,zC,zD,zE,zF,reduceCtorEq]
   refine cW (by have h := IY l s hs; simp only [bT] at h; exact h _ 3 4 rfl rfl (by decide)) ?_
   rintro _ _ ⟨rfl, rfl⟩
   rw [hZ]
   have hml : m.length ≤ 1048576 := by have := Al AK; omega
   obtain ⟨uG, W0⟩ := qo AK
   have W1 := Cq AK IN
   have L8 := Cr W1
   have AA : m.Pairwise jV := W1.imp fun h => .inl h
   have L9 : ∀ r ∈ m, r.ay.ok = true := fun r hr => ub (W0 r hr)
   have W2 : ∀ r ∈ m, r.reqs.length ≤ 16 := fun r hr => mL (W0 r hr)
   have ZU : ∀ r ∈ m, ∀ q ∈ r.reqs, tH q := fun r hr => (hb.2 r (Ah (W0 r hr))).2.2
   have ZV : cy m [] ≤ 16777216 := by
    refine Nat.le_trans (Af _ _) ?_
    have h1 := fO (g := fun r : Rl => r.reqs) (l := m) (k := 16) W2
    rw [List.length_flatMap] at h1
    omega
   have hS : eC l roots s = if (m.any fun r => r.reqs.any (brk m)) = true ∨ roots.any (brk m) = true then 17 else if (de m roots).length < m.length then 8 else 0 := by unfold eC; rw [if_neg (by simp [ca]), if_pos IN, AK]
   simp only [ab,ae,az,aS,List.length_map,go_sem,reduceIte,zA,zB,zC,zD,zE,zF,reduceCtorEq]
   refine cT tt_ok [] (fun i : Nat => [(1, .slice (roots.map ak)), (9, .slice (m.map af)), (10, .ptr 7 0), (36, .slice (m.map af)), (37, num m.length), (38, num i)]) (fun i : Nat => [.box [.slice (l.map af), .slice I], .box [.slice (l.map af), .slice I], .box [.mp 3, .mp 4], .map (bC aN 0 (gK (aq l))) (gK (aq l)).length, .map (bC strVal 0 (gP (aq l))) (aM (aq l)).length, .box [.mp 3, .mp 4], .map (bC strVal 0 (gB (m.take i))) (gB (m.take i)).length, .box [.mp 6]]) (fun i => m.length - i) (fun i => i ≤ m.length) (0) 8 (bd (by omega) (by simp only [ab,ae,az,aS,List.length_map,List.take_zero,gB,List.map_nil,bC,List.length_nil,Int.cast_ofNat_Int,go_sem,reduceIte,zA,zB,zC,zD,zE,zF,reduceCtorEq] <;> rfl)) (Nat.zero_le _) ?_
   intro i hi
   intro Z1 cE
   simp only [ab,ae,az,aS,List.length_map,go_sem,reduceIte,zA,zB,zC,zD,zE,zF,reduceCtorEq]
   refine aL (fun Qd => ?_) (fun Qd => ?_)
   ·have aF : i < m.length := by simpa using Qd
    have hw := aC i (by omega)
    obtain ⟨x, hx⟩ : ∃ x, m[i]? = some x := ⟨_, List.getElem?_eq_getElem aF⟩
    have rD := List.mem_of_getElem? hx
    have uq : m.take (i + 1) = m.take i ++ [x] := iw hx
    have iD : ∀ y ∈ m.take i, y.path ≠ x.path := fun y hy => by
     obtain ⟨j, hj⟩ := List.mem_iff_getElem?.1 hy
     have qw := (List.getElem?_eq_some_iff.1 hj).1
     rw [List.length_take] at qw
     rw [List.getElem?_take_of_lt (by omega)] at hj
     have h1 := List.pairwise_iff_getElem.1 W1 j i (by omega) (by omega) (by omega)
     rw [(List.getElem?_eq_some_iff.1 hj).2, (List.getElem?_eq_some_iff.1 hx).2] at h1
     exact IV h1
    have xZ := fun (mem : List au) (b : Nat) hm => L4 iD (mem := mem) (b := b) hm
    simp only [af,ag,ah] at xZ
    simp only [ab,ae,az,aS,hw,List.getElem?_map,hx,Option.map_some,af,ag,ah,xZ,List.length_map,go_sem,reduceIte,zA,zB,zC,zD,zE,zF,reduceCtorEq]
    refine cE _ ⟨i + 1, ?_, ?_, bd (by omega) (by (simp only [uq,hw,ab,ae,az,aS,go_sem,reduceIte,zA,zB,zC,zD,zE,zF,reduceCtorEq]))⟩
    ·exact aF
    ·omega
   ·have dg : ¬ i < m.length := by simpa using Qd
    have wz : i = m.length := by omega
    subst wz
    rw [List.take_length]
    simp only [ab,ae,az,aS,List.length_map,go_sem,reduceIte,zA,zB,zC,zD,zE,zF,reduceCtorEq]
    refine cT tt_ok [] (fun i : Nat => [(1, .slice (roots.map ak)), (9, .slice (m.map af)), (10, .ptr 7 0), (13, .fU (.func 52) [] [.ptr 7 0]), (48, .slice (m.map af)), (49, num m.length), (50, num i)]) (fun i : Nat => [.box [.slice (l.map af), .slice I], .box [.slice (l.map af), .slice I], .box [.mp 3, .mp 4], .map (bC aN 0 (gK (aq l))) (gK (aq l)).length, .map (bC strVal 0 (gP (aq l))) (aM (aq l)).length, .box [.mp 3, .mp 4], .map (bC strVal 0 (gB (m))) (gB (m)).length, .box [.mp 6]]) (fun i => m.length - i) (fun i => i ≤ m.length ∧ ∀ j < i, ∀ x, m[j]? = some x → x.reqs.any (brk m) = false) (0) 8 (bd (by omega) (by simp only [ab,ae,az,aS,List.length_map,Int.cast_ofNat_Int,go_sem,reduceIte,zA,zB,zC,zD,zE,zF,reduceCtorEq] <;> rfl)) (⟨Nat.zero_le _, fun j hj => absurd hj (Nat.not_lt_zero j)⟩) ?_
    rintro i ⟨hi, bn⟩
    intro Z2 pn
    simp only [ab,ae,az,aS,List.length_map,go_sem,reduceIte,zA,zB,zC,zD,zE,zF,reduceCtorEq]
    refine aL (fun Qe => ?_) (fun Qe => ?_)
    ·have aF : i < m.length := by simpa using Qe
     have hw := aC i (by omega)
     obtain ⟨x, hx⟩ : ∃ x, m[i]? = some x := ⟨_, List.getElem?_eq_getElem aF⟩
     have rD := List.mem_of_getElem? hx
     simp only [ab,ae,az,aS,hw,List.getElem?_map,hx,Option.map_some,af,ag,ah,List.length_map,go_sem,reduceIte,zA,zB,zC,zD,zE,zF,reduceCtorEq]
     refine cS (An m x.reqs (by have := W2 x rD; omega) (ZU x rD) _ 6 7 rfl rfl (by decide)) ?_
     rintro _ rfl
     simp only [ab,ae,az,aS,hw,List.getElem?_map,hx,Option.map_some,af,ag,ah,List.length_map,go_sem,reduceIte,zA,zB,zC,zD,zE,zF,reduceCtorEq]
     refine aL (fun rE => ?_) (fun rE => ?_)
     ·have hR : (17 : Int) = eC l roots s := by rw [hS, if_pos (.inl (List.any_eq_true.2 ⟨x, rD, rE⟩))]
      simp only [ab,ae,az,aS,hw,List.getElem?_map,hx,Option.map_some,af,ag,ah,List.length_map,go_sem,reduceIte,zA,zB,zC,zD,zE,zF,reduceCtorEq]
      exact hK _ (Option.some.inj (congrArg (fun x => some (num x)) hR))
     ·simp only [ab,ae,az,aS,hw,List.getElem?_map,hx,Option.map_some,af,ag,ah,List.length_map,go_sem,reduceIte,zA,zB,zC,zD,zE,zF,reduceCtorEq]
      refine pn _ ⟨i + 1, ?_, ?_, bd (by omega) (by (simp only [hw,ab,ae,az,aS,go_sem,reduceIte,zA,zB,zC,zD,zE,zF,reduceCtorEq]))⟩
      ·refine ⟨aF, fun j hj y hy => ?_⟩
       rcases Nat.lt_or_ge j i with h | h
       ·exact bn j h y hy
       ·obtain rfl : j = i := by omega
        rw [hx] at hy; cases hy; exact rE
      ·omega
    ·have dg : ¬ i < m.length := by simpa using Qe
     have Uq : ∀ x ∈ m, x.reqs.any (brk m) = false := fun x hx => by
      obtain ⟨j, hj⟩ := List.mem_iff_getElem?.1 hx
      exact bn j (by have := (List.getElem?_eq_some_iff.1 hj).1; omega) x hj
     simp only [ab,ae,az,aS,List.length_map,go_sem,reduceIte,zA,zB,zC,zD,zE,zF,reduceCtorEq]
     refine cS (An m roots (by omega) WX _ 6 7 rfl rfl (by decide)) ?_
     rintro _ rfl
     simp only [ab,ae,az,aS,List.length_map,go_sem,reduceIte,zA,zB,zC,zD,zE,zF,reduceCtorEq]
     refine aL (fun Ma => ?_) (fun Ma => ?_)
     ·have hR : (17 : Int) = eC l roots s := by rw [hS, if_pos (.inr Ma)]
      simp only [ab,ae,az,aS,List.length_map,go_sem,reduceIte,zA,zB,zC,zD,zE,zF,reduceCtorEq]
      exact hK _ (Option.some.inj (congrArg (fun x => some (num x)) hR))
     ·have bB : ∀ q, (q ∈ roots ∨ ∃ a ∈ m, q ∈ a.reqs) → brk m q = false := fun q hq => by
       rcases hq with hq | ⟨a, ha, hq⟩
       ·have := List.any_eq_false.1 Ma q hq; simpa using this
       ·have := List.any_eq_false.1 (Uq a ha) q hq; simpa using this
      have X9 : eC l roots s = if (de m roots).length < m.length then 8 else 0 := by
       rw [hS, if_neg]
       rintro (h | h)
       ·obtain ⟨a, ha, h⟩ := List.any_eq_true.1 h; rw [Uq a ha] at h; cases h
       ·rw [Ma] at h; cases h
      simp only [ab,ae,az,aS,List.length_map,go_sem,reduceIte,zA,zB,zC,zD,zE,zF,reduceCtorEq]
      refine cW (ri roots (by omega) _) ?_
      rintro _ _ ⟨rfl, rfl⟩
      try simp only [F6,List.length_cons,List.length_nil,zA]
      simp only [ab,ae,az,aS,List.length_map,go_sem,reduceIte,zA,zB,zC,zD,zE,zF,reduceCtorEq]
      refine cT tt_ok [] (fun a : List Rl × List Rq × Nat × Nat × List V => [(9, .slice (m.map af)), (10, .ptr 7 0), (16, .mp 8), (17, .ms 9 a.2.2.1 a.2.2.2.1 a.2.1.length)]) (fun a : List Rl × List Rq × Nat × Nat × List V => [.box [.slice (l.map af), .slice I], .box [.slice (l.map af), .slice I], .box [.mp 3, .mp 4], .map (bC aN 0 (gK (aq l))) (gK (aq l)).length, .map (bC strVal 0 (gP (aq l))) (aM (aq l)).length, .box [.mp 3, .mp 4], .map (bC strVal 0 (gB (m))) (gB (m)).length, .box [.mp 6], .map (bC strVal 0 (gN a.1)) (gN a.1).length, .rows a.2.2.1 2 a.2.2.2.2]) (fun a => a.2.1.length + cy m a.1) (fun a => RI m roots a.1 a.2.1 (fun _ => False) ∧ a.1.Pairwise (fun x y => x.path ≠ y.path) ∧ a.2.2.2.2.drop a.2.2.2.1 = a.2.1.map ak ∧ a.2.2.2.1 + a.2.1.length = a.2.2.2.2.length ∧ a.2.1.length + cy m a.1 ≤ roots.length + 16777216) (([], roots, 1, 0, roots.map ak)) 10 (bd (by omega) (by simp only [ab,ae,az,aS,List.length_map,gN,List.map_nil,bC,List.length_nil,Int.cast_ofNat_Int,go_sem,reduceIte,zA,zB,zC,zD,zE,zF,reduceCtorEq] <;> rfl)) (⟨RI.start _ _, List.Pairwise.nil, rfl, by simp, by dsimp only; have := ZV; omega⟩) ?_
      rintro ⟨S, P, v, o, rs⟩ ⟨ID, UH, AE, NQ, hW⟩
      try dsimp only at ID UH AE NQ hW ⊢
      intro Z3 AM
      simp only [ab,ae,az,aS,List.length_map,go_sem,reduceIte,zA,zB,zC,zD,zE,zF,reduceCtorEq]
      refine aL (fun xJ => ?_) (fun xJ => ?_)
      ·obtain ⟨q, P, rfl⟩ : ∃ q P2, P = q :: P2 := by
        cases P with
        | nil => simp at xJ
        | cons q r => exact ⟨q, r, rfl⟩
       simp only [List.length_cons] at xJ ⊢
       rw [xJ]
       obtain ⟨IE, hq⟩ := ID.pop
       have bW : rs[o]? = some (ak q) := by
        have h := congrArg (fun x => x[0]?) AE
        simpa using h
       have kQ : rs.drop (o + 1) = P.map ak := by
        rw [← List.drop_drop, AE]; rfl
       have jY : o + 1 + P.length = rs.length := by rw [List.length_cons] at NQ; omega
       rw [List.length_cons] at hW
       have h0 : (0 : Int) < ((P.length + 1 : Nat) : Int) := by omega
       have h1 : (1 : Int) ≤ ((P.length + 1 : Nat) : Int) := by omega
       have dN : (((P.length + 1 : Nat) : Int) - 1).toNat = P.length := by omega
       have cU : ∀ mem : List au, mem[9]? = some (.rows v 2 rs) → cutAt mem 2 1 none (.ms 9 v o (P.length + 1)) = some (.ms 9 v (o + 1) P.length) := fun mem hm => by
        unfold cutAt
        simp [eH, hm] <;> omega
       have Lw : q ∈ roots ∨ ∃ a ∈ m, q ∈ a.reqs := by
        rcases hq with hq | ⟨a, ha, hq⟩
        ·exact .inl hq
        ·exact .inr ⟨a, (ID.sub a ha).mem, hq⟩
       obtain ⟨r, Ya, uu, IG⟩ := Qc L9 (bB q Lw)
       have TN := (Ao Ya).2
       have UI := fun (mem : List au) (b : Nat) hm => IW S q.path (mem := mem) (b := b) hm
       simp only [ab,ae,az,aS,bW,h0,h1,dN,cU,List.length_cons,ak,al,Nat.add_zero,Int.le_refl,Int.toNat_one,Int.toNat_zero,UI,List.length_map,go_sem,reduceIte,zA,zB,zC,zD,zE,zF,reduceCtorEq]
       refine aL (fun Qf => ?_) (fun Qf => ?_)
       ·have nb : pd S q.path = false := by simpa using Qf
        have IZ : ∀ x ∈ S, x.path ≠ r.path := fun x hx he => by
         have : pd S q.path = true := by unfold pd; exact List.any_eq_true.2 ⟨x, hx, by rw [he, TN]; simp⟩
         rw [nb] at this; cases this
        have gf : seen S r.key = false := by
         cases hk : seen S r.key with
         | false => rfl
         | true => obtain ⟨x, hx, he⟩ := tY.1 hk; exact absurd (congrArg gR.path he) (IZ x hx)
        have xZ := fun (mem : List au) (b : Nat) hm => IX IZ (mem := mem) (b := b) hm
        rw [TN] at xZ
        have W3 := fun (mem : List au) (b : Nat) hm => LZ Ya (mem := mem) (b := b) hm
        simp only [af,ag,ah] at W3
        have Rf := ql AA uu gf
        have X6 := W2 r uu
        have fJ := cr r.reqs
        have fS : P.length + r.reqs.length ≤ 34359738368 := by omega
        simp only [ab,ae,az,aS,bW,h0,h1,dN,cU,List.length_cons,ak,al,Nat.add_zero,Int.le_refl,Int.toNat_one,Int.toNat_zero,UI,xZ,W3,jY,fJ,fS,Ni,List.length_map,go_sem,reduceIte,zA,zB,zC,zD,zE,zF,reduceCtorEq]
        refine VX ?_
        intro o2 D0 Ev DA
        try rw [List.length_map] at DA
        let nv : List Rl × List Rq × Nat × Nat × List V := (S ++ [r], P ++ r.reqs, v + 1, o2, D0)
        have rF : RI m roots (S ++ [r]) (P ++ r.reqs) (fun _ => False) ∧ (S ++ [r]).Pairwise (fun x y => x.path ≠ y.path) ∧ D0.drop o2 = (P ++ r.reqs).map ak ∧ o2 + (P ++ r.reqs).length = D0.length ∧ (P ++ r.reqs).length + cy m (S ++ [r]) ≤ roots.length + 16777216 := by
         refine ⟨(IE.WW hq uu IG).close fun y hy hh => ?_, ?_, by rw [Ev, kQ, List.map_append], by rw [List.length_append]; omega, by rw [List.length_append]; omega⟩
         ·rw [L8 y hy r uu (by rw [TN]; exact (mA hh).symm)]; simp
         ·exact List.pairwise_append.2 ⟨UH, List.pairwise_singleton _ _, fun x hx y hy => by rw [List.mem_singleton] at hy; exact hy ▸ IZ x hx⟩
        simp only [ab,ae,az,aS,bW,h0,h1,dN,cU,List.length_cons,ak,al,Nat.add_zero,Int.le_refl,Int.toNat_one,Int.toNat_zero,UI,xZ,W3,jY,fJ,fS,Ni,List.length_map,go_sem,reduceIte,zA,zB,zC,zD,zE,zF,reduceCtorEq]
        refine AM _ ⟨nv, ?_, ?_, bd (by omega) (by (simp only [nv,List.length_append,ab,ae,az,aS,go_sem,reduceIte,zA,zB,zC,zD,zE,zF,reduceCtorEq]))⟩
        ·exact rF
        ·dsimp only [nv]; omega
       ·have nb : pd S q.path = true := by simpa using Qf
        have ZW : r ∈ S := by
         unfold pd at nb
         obtain ⟨x, hx, he⟩ := List.any_eq_true.1 nb
         have he := of_decide_eq_true he
         rw [← L8 x (ID.sub x hx).mem r uu (by rw [he, TN])]; exact hx
        let nv : List Rl × List Rq × Nat × Nat × List V := (S, P, v, o + 1, rs)
        have rF : RI m roots S P (fun _ => False) ∧ S.Pairwise (fun x y => x.path ≠ y.path) ∧ rs.drop (o + 1) = P.map ak ∧ o + 1 + P.length = rs.length ∧ P.length + cy m S ≤ roots.length + 16777216 := by
         refine ⟨IE.close fun y hy hh => ?_, UH, kQ, jY, by omega⟩
         rw [L8 y hy r uu (by rw [TN]; exact (mA hh).symm)]; exact ZW
        simp only [ab,ae,az,aS,bW,h0,h1,dN,cU,List.length_cons,ak,al,Nat.add_zero,Int.le_refl,Int.toNat_one,Int.toNat_zero,UI,List.length_map,go_sem,reduceIte,zA,zB,zC,zD,zE,zF,reduceCtorEq]
        refine AM _ ⟨nv, ?_, ?_, bd (by omega) (by (simp only [nv,List.length_append,ab,ae,az,aS,go_sem,reduceIte,zA,zB,zC,zD,zE,zF,reduceCtorEq]))⟩
        ·exact rF
        ·dsimp only [nv]; omega
      ·obtain rfl : P = [] := by
        cases P with
        | nil => rfl
        | cons q r => simp at xJ
       have hSl : S.length = (de m roots).length := by
        classical
        refine L6 (S := S) (T := de m roots) (UH.imp fun h => fun e => h (congrArg Rl.path e)) ?_ fun x => by rw [ID.fin, zm]
        unfold de
        exact List.Pairwise.filter _ (AA.imp fun h => fun e => jW h (congrArg Rl.key e))
       have Qg : ((bC strVal 0 (gN S)).length : Int) = S.length := L5
       simp only [ab,ae,az,aS,Qg,oe,rq,List.length_map,go_sem,reduceIte,zA,zB,zC,zD,zE,zF,reduceCtorEq]
       refine aL (fun Qh => ?_) (fun Qh => ?_)
       ·have hR : (8 : Int) = eC l roots s := by rw [X9, if_pos (by have := of_decide_eq_true Qh; omega)]
        simp only [ab,ae,az,aS,Qg,oe,rq,List.length_map,go_sem,reduceIte,zA,zB,zC,zD,zE,zF,reduceCtorEq]
        exact hK _ (Option.some.inj (congrArg (fun x => some (num x)) hR))
       ·have hR : (0 : Int) = eC l roots s := by rw [X9, if_neg (by have := of_decide_eq_false Qh; omega)]
        simp only [ab,ae,az,aS,Qg,oe,rq,List.length_map,go_sem,reduceIte,zA,zB,zC,zD,zE,zF,reduceCtorEq]
        exact hK _ (Option.some.inj (congrArg (fun x => some (num x)) hR))
end Go.Proofs.YtnfeacnbgbggfaaGreatDoor
end

section
namespace Go.Proofs.YtnfeacnbgbggfaaGreatDoor
open Go.Eng
variable [aE]
def pA : ByteArray := ⟨#[97,47,118,49]⟩
def pB : ByteArray := ⟨#[98,47,118,49]⟩
def e0 : ByteArray := ⟨#[]⟩
def uw (p : ByteArray) (b : Int) (q : List Rq) (y : Bool) : Rl := ⟨p, ⟨1, b, 0⟩, q, e0, e0, e0, y⟩
def FB : List Rq := [⟨pB, [⟨1000, 1000000⟩]⟩]
def xA : Rl := uw pA 0 FB false
def vX : Rl := uw pB 0 [] false
def sf : Rl := uw pB 1 [] false
def Cs : Rl := uw pB 2 [] true
def kc : List Rl := [xA, vX, sf, Cs]
def bk : List Rq := [⟨pA, [⟨0, 1000000⟩]⟩]
def D4 : List gR := [⟨pA, ⟨1, 0, 0⟩⟩, ⟨pB, ⟨1, 0, 0⟩⟩]
def D5 : List gR := [⟨pA, ⟨1, 0, 0⟩⟩, ⟨pB, ⟨1, 1, 0⟩⟩]
theorem D6 : ir kc = 0 := by kernel_rfl
theorem Ct : ir [xA] = 0 := by kernel_rfl
theorem D7 : aq kc = kc := by unfold aq; rw [if_pos D6]
theorem FD : F8 kc := by
 refine ⟨by decide, fun r hr => ?_⟩
 unfold kc at hr
 simp only [List.mem_cons,List.not_mem_nil,or_false] at hr
 rcases hr with rfl | rfl | rfl | rfl
 ·refine ⟨by decide, by decide, fun q hq => ?_⟩
  unfold xA uw FB at hq
  simp only [List.mem_cons,List.not_mem_nil,or_false] at hq
  subst hq
  exact ⟨by decide, by decide⟩
 ·exact ⟨by decide, by decide, fun q hq => by simp [vX, uw] at hq⟩
 ·exact ⟨by decide, by decide, fun q hq => by simp [sf, uw] at hq⟩
 ·exact ⟨by decide, by decide, fun q hq => by simp [Cs, uw] at hq⟩
theorem I0 : ∀ q ∈ bk, tH q := fun q hq => by
 unfold bk at hq
 simp only [List.mem_cons,List.not_mem_nil,or_false] at hq
 subst hq
 exact ⟨by decide, by decide⟩
theorem Qi {l : List Rl} (h : xA ∈ l) : qZ l bk xA := .root _ _ (List.mem_singleton.2 rfl) h (by kernel_rfl)
theorem Qj {l : List Rl} (h : xA ∈ l) {r : Rl} (hr : r ∈ l) (hh : jQ ⟨pB, [⟨1000, 1000000⟩]⟩ r = true) : qZ l bk r := .step xA _ r (Qi h) (List.mem_singleton.2 rfl) hr hh
theorem TO : ¬ qZ kc bk vX := fun h => by
 have key := KU (l := kc) (roots := bk) (fun r => r ∈ kc ∧ r ≠ vX ∧ qZ kc bk r) (fun r h => h.2.2) (fun q hq r hr hh => ?_) (fun a ha q hq r hr hh => ?_) vX
 ·exact ((key.2 h).2.1) rfl
 ·refine ⟨hr, fun e => ?_, .root q r hq hr hh⟩
  subst e
  unfold bk at hq
  rw [List.mem_singleton] at hq
  subst hq
  exact absurd hh (by rw [show jQ ⟨pA, [⟨0, 1000000⟩]⟩ vX = false from by kernel_rfl]; decide)
 ·refine ⟨hr, fun e => ?_, .step a q r ha.2.2 hq hr hh⟩
  subst e
  have h1 := ha.1
  unfold kc at h1
  simp only [List.mem_cons,List.not_mem_nil,or_false] at h1
  rcases h1 with rfl | rfl | rfl | rfl
  ·unfold xA uw FB at hq
   rw [List.mem_singleton] at hq
   subst hq
   exact absurd hh (by rw [show jQ ⟨pB, [⟨1000, 1000000⟩]⟩ vX = false from by kernel_rfl]; decide)
  ·simp [vX, uw] at hq
  ·simp [sf, uw] at hq
  ·simp [Cs, uw] at hq
theorem I1 : (de (aq kc) bk).length = 3 := by
 rw [D7]
 have hA : qZ kc bk xA := Qi (by simp [kc])
 have h1 : qZ kc bk sf := Qj (by simp [kc]) (by simp [kc]) (by kernel_rfl)
 have h2 : qZ kc bk Cs := Qj (by simp [kc]) (by simp [kc]) (by kernel_rfl)
 unfold de
 show (List.filter _ [xA, vX, sf, Cs]).length = 3
 rw [List.filter_cons_of_pos (by simpa using hA), List.filter_cons_of_neg (by simpa using TO), List.filter_cons_of_pos (by simpa using h1), List.filter_cons_of_pos (by simpa using h2)]
 rfl
theorem FE : eC kc bk D4 = 17 := by
 unfold eC
 rw [if_neg (by rw [D6]; simp), if_pos (show rG D4 = true by kernel_rfl), show ln kc D4 = some [xA, vX] by kernel_rfl]
 exact if_pos (.inl (by kernel_rfl))
theorem FF : eC kc bk D5 = 0 := by
 unfold eC
 rw [if_neg (by rw [D6]; simp), if_pos (show rG D5 = true by kernel_rfl), show ln kc D5 = some [xA, sf] by kernel_rfl]
 dsimp only
 rw [if_neg (by rw [show ([xA, sf].any fun r => r.reqs.any (brk [xA, sf])) = false by kernel_rfl, show bk.any (brk [xA, sf]) = false by kernel_rfl]; simp)]
 have hA : qZ [xA, sf] bk xA := Qi (by simp)
 have h1 : qZ [xA, sf] bk sf := Qj (by simp) (by simp) (by kernel_rfl)
 have : de [xA, sf] bk = [xA, sf] := by
  unfold de
  rw [List.filter_cons_of_pos (by simpa using hA), List.filter_cons_of_pos (by simpa using h1)]
  rfl
 rw [this]
 rfl
theorem I2 : canon (xI (dy (aq kc) pB)) = [⟨0, 1⟩, ⟨1000, 1001⟩] := by rw [D7]; kernel_rfl
theorem Cu (hG : aE.g = some 0) : aP Tryz.prog 45 [] (.agg [.slice [.agg [str pA, num 1, num 0, num 0, .slice [.agg [str pB, .slice [.agg [num 1000, num 1000000]]]], str e0, str e0, str e0, bl false], .agg [str pB, num 1, num 0, num 0, .slice [], str e0, str e0, str e0, bl false],
  .agg [str pB, num 1, num 1, num 0, .slice [], str e0, str e0, str e0, bl false], .agg [str pB, num 1, num 2, num 0, .slice [], str e0, str e0, str e0, bl true]], .slice []]) := Di zP (KD hG) 200 (by kernel_rfl)
end Go.Proofs.YtnfeacnbgbggfaaGreatDoor
end

section
namespace Go.Proofs.YtnfeacnbgbggfaaGreatDoor
open Go.Eng
open Nat renaming reduceAdd → zA, reduceLT → zB, reduceLeDiff → zC, reduceMul → zD, reduceEqDiff → zE, reduceSub → zF
variable [aE]
set_option maxHeartbeats 4000000
set_option maxRecDepth 100000
theorem I3 (hG : aE.g = some 0) : ∃ r_, (fun w => w = bl (true)) r_ ∧ aP Tryz.prog 9 [] r_ := by
 refine ek tt_ok [8] 89 [.tmp 0] (fn := Tryz.f9) Tryz.func9 rfl Tryz.call9 ⟨rfl, rfl, by simp⟩ fun K hK => ?_
 obtain ⟨RE, Yb⟩ : ∃ x, x = (de (aq kc) bk).map Rl.key := ⟨_, rfl⟩
 have Cj : ((RE.length : Nat) : Int) = 3 := by rw [Yb, List.length_map, I1]; rfl
 have bo : ∀ (mem : List au) (ks : List (Nat × Nat)) (n : Int), cI mem ks (num n) = mem := fun _ _ _ => rfl
 have rH : ∀ (mem : List au) (ks : List (Nat × Nat)) (b : Bool), cI mem ks (bl b) = mem := fun _ _ _ => rfl
 have W4 : xV xA := FD.2 xA (by simp [kc])
 have Yc : (jA xA).length ≤ 1048576 := by have h := LV (zX (qf xA ▸ Ct)) (by kernel_rfl); omega
 obtain ⟨MS, UJ⟩ : ∃ x, x = bs (jA xA) := ⟨_, rfl⟩
 have W5 : MS.size ≤ 1048576 := by rw [UJ, ib]; exact Yc
 simp only [List.length_map,Cj,bo,rH,go_sem,reduceIte,zA,zB,zC,zD,zE,zF,reduceCtorEq]
 refine cF (by have h : ∃ r_, (fun w => w = V.agg _) r_ ∧ aP Tryz.prog 45 [] r_ := ⟨_, rfl, Cu hG⟩; simp only [kc,bk,D4,D5,xA,vX,sf,Cs,uw,FB,pA,pB,e0,dw,bP,ah,bT,List.map_cons,List.map_nil,af,ag,ak,al,aj,bh] at h; exact h) ?_
 rintro _ rfl
 simp only [ny,C1,fh,List.length_map,Cj,bo,rH,go_sem,reduceIte,zA,zB,zC,zD,zE,zF,reduceCtorEq]
 refine cF (by have h := rh hG xA W4; rw [LW Ct, ← UJ] at h; simp only [kc,bk,D4,D5,xA,vX,sf,Cs,uw,FB,pA,pB,e0,dw,bP,ah,bT,List.map_cons,List.map_nil,af,ag,ak,al,aj,bh] at h; exact h) ?_
 rintro _ rfl
 simp only [ny,C1,fh,List.length_map,Cj,bo,rH,go_sem,reduceIte,zA,zB,zC,zD,zE,zF,reduceCtorEq]
 refine cF (by have h := DU hG MS W5; rw [UJ, Ae Ct W4 Yc, ← UJ] at h; simp only [kc,bk,D4,D5,xA,vX,sf,Cs,uw,FB,pA,pB,e0,dw,bP,ah,bT,List.map_cons,List.map_nil,af,ag,ak,al,aj,bh] at h; exact h) ?_
 rintro _ rfl
 simp only [ny,C1,fh,List.length_map,Cj,bo,rH,go_sem,reduceIte,zA,zB,zC,zD,zE,zF,reduceCtorEq]
 refine pW (v' := .slice [.agg [str ⟨#[97,47,118,49]⟩, .slice [.agg [num 0, num 1000000]]]]) 2 (by decide) rfl rfl ?_
 refine pW (v' := .slice [.agg [str ⟨#[97,47,118,49]⟩, num 1, num 0, num 0], .agg [str ⟨#[98,47,118,49]⟩, num 1, num 0, num 0]]) 5 (by decide) rfl rfl ?_
 refine pW (v' := .slice [.agg [str ⟨#[97,47,118,49]⟩, num 1, num 0, num 0], .agg [str ⟨#[98,47,118,49]⟩, num 1, num 1, num 0]]) 6 (by decide) rfl rfl ?_
 refine We tt_ok [8] aK [⟨.r, 0, [], [], []⟩, ⟨.n, 0, [], [], []⟩, ⟨.n, 0, [], [], []⟩, ⟨.n, 0, [], [], []⟩, ⟨.r, 0, [], [], []⟩, ⟨.n, 0, [], [], []⟩, ⟨.n, 0, [], [], []⟩, ⟨.n, 0, [], [], []⟩, ⟨.n, 0, [], [], []⟩, ⟨.n, 0, [], [], []⟩, ⟨.n, 0, [], [], []⟩, ⟨.r, 0, [], [], []⟩, ⟨.n, 0, [], [], []⟩, ⟨.n, 0, [], [], []⟩, ⟨.n, 0, [], [], []⟩, ⟨.n, 0, [], [], []⟩, ⟨.n, 0, [], [], []⟩, ⟨.n, 0, [], [], []⟩, ⟨.n, 0, [], [], []⟩, ⟨.r, 0, [], [], []⟩, ⟨.n, 0, [], [], []⟩, ⟨.n, 0, [], [], []⟩, ⟨.n, 0, [], [], []⟩, ⟨.n, 0, [], [], []⟩, ⟨.n, 0, [], [], []⟩, ⟨.n, 0, [], [], []⟩, ⟨.r, 0, [], [], []⟩, ⟨.n, 0, [], [], []⟩, ⟨.n, 0, [], [], []⟩, ⟨.n, 0, [], [], []⟩, ⟨.n, 0, [], [], []⟩, ⟨.n, 0, [], [], []⟩, ⟨.n, 0, [], [], []⟩, ⟨.n, 0, [], [], []⟩, ⟨.n, 0, [], [], []⟩, ⟨.n, 0, [], [], []⟩, ⟨.n, 0, [], [], []⟩, ⟨.n, 0, [], [], []⟩, ⟨.n, 0, [], [], []⟩, ⟨.n, 0, [], [], []⟩, ⟨.n, 0, [], [], []⟩, ⟨.r, 0, [], [], []⟩, ⟨.n, 0, [], [], []⟩, ⟨.r, 0, [], [], []⟩, ⟨.r, 0, [], [], []⟩, ⟨.r, 0, [], [], []⟩, ⟨.n, 0, [], [], []⟩, ⟨.n, 0, [], [], []⟩, ⟨.n, 0, [], [], []⟩] 0 (by kernel_rfl) ?_
 simp only [ny,C1,fh,List.length_map,Cj,bo,rH,go_sem,reduceIte,zA,zB,zC,zD,zE,zF,reduceCtorEq]
 refine cG (by have h := tK hG kc [] FD; rw [D6] at h; simp only [kc,bk,D4,D5,xA,vX,sf,Cs,uw,FB,pA,pB,e0,dw,bP,ah,bT,List.map_cons,List.map_nil,af,ag,ak,al,aj,bh] at h; exact h) ?_
 rintro _ rfl
 simp only [ny,C1,fh,List.length_map,Cj,bo,rH,go_sem,reduceIte,zA,zB,zC,zD,zE,zF,reduceCtorEq]
 refine cG (by have h := IC hG kc [] FD bk (by decide) I0; rw [← Yb] at h; simp only [kc,bk,D4,D5,xA,vX,sf,Cs,uw,FB,pA,pB,e0,dw,bP,ah,bT,List.map_cons,List.map_nil,af,ag,ak,al,aj,bh] at h; exact ⟨_, rfl, h⟩) ?_
 rintro _ rfl
 simp only [ny,C1,fh,List.length_map,Cj,bo,rH,go_sem,reduceIte,zA,zB,zC,zD,zE,zF,reduceCtorEq]
 refine cG (by have h := IK hG kc [] FD pB; rw [I2] at h; simp only [kc,bk,D4,D5,xA,vX,sf,Cs,uw,FB,pA,pB,e0,dw,bP,ah,bT,List.map_cons,List.map_nil,af,ag,ak,al,aj,bh] at h; exact ⟨_, rfl, h⟩) ?_
 rintro _ rfl
 simp only [ny,C1,fh,List.length_map,Cj,bo,rH,go_sem,reduceIte,zA,zB,zC,zD,zE,zF,reduceCtorEq]
 refine cG (by have h := xm [⟨0, 1⟩, ⟨1000, 1001⟩] [⟨0, 1⟩, ⟨1000, 1001⟩] (by decide); rw [show decide (([⟨0, 1⟩, ⟨1000, 1001⟩] : List br) = [⟨0, 1⟩, ⟨1000, 1001⟩]) = true from decide_eq_true rfl] at h; simp only [kc,bk,D4,D5,xA,vX,sf,Cs,uw,FB,pA,pB,e0,dw,bP,ah,bT,List.map_cons,List.map_nil,af,ag,ak,al,aj,bh] at h; exact h) ?_
 rintro _ rfl
 simp only [ny,C1,fh,List.length_map,Cj,bo,rH,go_sem,reduceIte,zA,zB,zC,zD,zE,zF,reduceCtorEq]
 refine cG (by have h := vW hG kc [] FD bk (by decide) I0 D4 (by decide); rw [FE] at h; simp only [kc,bk,D4,D5,xA,vX,sf,Cs,uw,FB,pA,pB,e0,dw,bP,ah,bT,List.map_cons,List.map_nil,af,ag,ak,al,aj,bh] at h; exact ⟨_, rfl, h⟩) ?_
 rintro _ rfl
 simp only [ny,C1,fh,List.length_map,Cj,bo,rH,go_sem,reduceIte,zA,zB,zC,zD,zE,zF,reduceCtorEq]
 refine cG (by have h := vW hG kc [] FD bk (by decide) I0 D5 (by decide); rw [FF] at h; simp only [kc,bk,D4,D5,xA,vX,sf,Cs,uw,FB,pA,pB,e0,dw,bP,ah,bT,List.map_cons,List.map_nil,af,ag,ak,al,aj,bh] at h; exact ⟨_, rfl, h⟩) ?_
 rintro _ rfl
 simp only [ny,C1,fh,List.length_map,Cj,bo,rH,go_sem,reduceIte,zA,zB,zC,zD,zE,zF,reduceCtorEq]
 refine cG (by have h := vT xA xA W4; rw [show decide (xA = xA) = true from decide_eq_true rfl] at h; simp only [kc,bk,D4,D5,xA,vX,sf,Cs,uw,FB,pA,pB,e0,dw,bP,ah,bT,List.map_cons,List.map_nil,af,ag,ak,al,aj,bh] at h; exact h) ?_
 rintro _ rfl
 simp only [ny,C1,fh,List.length_map,Cj,bo,rH,go_sem,reduceIte,zA,zB,zC,zD,zE,zF,reduceCtorEq]
 exact hK _ rfl
end Go.Proofs.YtnfeacnbgbggfaaGreatDoor
end

section
namespace Go.Proofs.YtnfeacnbgbggfaaGreatDoor
open Go.Eng
set_option maxRecDepth 100000
open Go.ChangeShapes Go.WideShapes Go.ChangeAt Go.RowKit
@[reducible] def Yd (n : Int) : aE := { n := n, κ := fun _ => none, ok := fun j b hb => (by cases hb), g := some 0, Ny := fun _ => none }
theorem I4 {W : World} {v : Value} (bB : Cell.ok Tryz.prog W .any 0 3 v) : ∃ n : Int, v = .int .i64 n := by
 unfold Cell.ok at bB
 rw [Tryz.underlying3] at bB
 cases v with
 | int k n => exact ⟨n, by rw [show k = .i64 from bB.1]⟩
 | _ => exact bB.elim
theorem FG {W : World} (hS : W.ShapedOpen Tryz.prog) : ∃ n : Int, W.cell? ⟨0, 0, none⟩ = some (.int .i64 n) := by
 have h0 : (((begin Tryz.prog (fun _ _ => 0) default).world.heap[0]?).bind Obj.row?) = some (#[.int .i64 0], 3) := by kernel_rfl
 obtain ⟨cs, hc, hz, hr⟩ := hS.1 0 _ _ (of_decide_eq_true (by kernel_rfl)) h0
 obtain ⟨ts, h1, -, h3⟩ := hr (by kernel_rfl)
 obtain rfl : [3] = ts := Option.some.inj ((show Tryz.prog.cellTypes Tryz.prog.depth 3 = some [3] by kernel_rfl).symm.trans h1)
 have hz' : cs.size = 1 := hz
 obtain ⟨v, hv⟩ : ∃ v, cs[0]? = some v := ⟨cs[0], Array.getElem?_eq_getElem (by omega)⟩
 obtain ⟨u, hu, bB⟩ := h3 0 v hv
 obtain rfl : 3 = u := by simpa using hu
 obtain ⟨n, rfl⟩ := I4 bB
 exact ⟨n, by simp [World.cell?, hc, hv]⟩
theorem Mb {F : Addr → Option Value} [aE] {hg : Gl F} {cs : List V} {v : Value} (bD : cs.length ≠ 1) (h : Rd F hg cs v.cells.toList) : aT ⟨F, fun _ _ => none, hg⟩ (.agg cs) v := by
 cases v with
 | agg xs => exact .agg _ _ _ (by simpa [Value.cells] using h.1.1) fun i c x hc hx => h.1.2 i c x hc (by simpa [Value.cells] using hx)
 | _ => exact absurd h.1.1 (by simpa [Value.cells] using bD)
theorem FH {H : Type} {enc : TypeId × Value → H} {P : Program} {f : Func} {s : ChangeSpec} {apart fresh handsOn again : Bool} {W W' : World} {args : Array Value} {v : Value} {ds gs : List (DataW H)} {before pa pv : List MemPlace}
  (hW : DataW.Whole enc P f.params.toList s.vars apart W args.toList ds gs before)
  (ax : ∀ (b : Nat) (sp : Nat → Bool) (hd : Bool), DataW.TrodAll enc P W' b sp hd f.resultTypes.toList (v.resultList f.resultTypes.size) (s.fn H (ds ++ gs)).results [])
  (jm : ∀ sp : Nat → Bool, (∀ p ∈ before, sp p.block = true) → DataW.TrodAll enc P W' 0 sp true f.params.toList args.toList (s.fn H (ds ++ gs)).args pa)
  (Nj : ∀ sp : Nat → Bool, (∀ p ∈ before, sp p.block = true) → DataW.TrodVars enc P W' sp s.vars (s.fn H (ds ++ gs)).vars pv)
  (TP : before = pa ++ pv) (hb : Below W.heap.size W W')
  (bB : ∀ (j : Nat) (t : TypeId) (r : Value), f.resultTypes[j]? = some t → (v.resultList f.resultTypes.size)[j]? = some r → Value.okWide P W' .any 0 t r) :
  s.post enc P f apart fresh handsOn again W args v W' := by
 have aF := hW.lt
 refine ⟨ds, gs, before, [], pa, pv, hW, ax _ _ _, jm _ (fun p hp => by simpa using aF p hp), Nj _ (fun p hp => by simpa using aF p hp), hb.frame _, fun _ => ?_⟩
 obtain ⟨_, _, _, _, _, hz, hn⟩ := hW
 refine ⟨bB, _, _, ([] ++ pa) ++ pv, ⟨[] ++ pa, pv, trodAll_append (jm _ (fun _ _ => rfl)) (ax _ _ _), Nj _ (fun _ _ => rfl), rfl, fun b off hp => ?_, fun ha => ?_⟩, fun p hp _ => ?_⟩
 ·have MJ : MemPlace.cell b off ∈ before := by rw [TP]; simpa using hp
  rw [hb.frozen (show (⟨b, off, none⟩ : Addr).block < W.heap.size from aF _ MJ)]
  exact hz b off MJ
 ·have := hn ha
  rw [TP] at this
  simpa using this
 ·rw [TP]
  simpa using hp
end Go.Proofs.YtnfeacnbgbggfaaGreatDoor
end
