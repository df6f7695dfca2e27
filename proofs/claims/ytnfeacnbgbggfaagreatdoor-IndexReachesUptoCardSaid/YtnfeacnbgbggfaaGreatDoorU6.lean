/-
  MAPS with keys of one kind: what reading and writing come to, as lists of keys and values.
  TABLES: the order of a good index, its groups by path (plain).
  TABLES: the maps' types, and what freezing and changing keys make of the tables.
  CONTRACTS: the table of an index.
  CONTRACTS: clones.
  CONTRACTS: Find.
  CONTRACTS: Read.
  PLAIN LAWS of manifests: what is written is read, what is read is written.
  CONTRACTS: equal releases.
  REACHING: what the loop of Reachable keeps (plain).
  CONTRACTS: what Reachable needs.
  CONTRACTS: Reachable.
  CONTRACTS: few releases; a selection that is contained.
  THE LAW IndexReturns.
  CONTRACTS: Available.
  CONTRACTS: the releases of a selection.
  CONTRACTS: requirements that a selection breaks.
  CONTRACTS: Solves.
  AWAKE: the example of the chapter.
  AWAKE.
  CLOSING: what is common to the laws of chapter 32.
-/
import Derived.Test.YtnfeacnbgbggfaaGreatDoorU5
import Derived.WalkKit
import Derived.ProofKit
import Derived.OpenShut
import Derived.WideKeyArgs
import Derived.Deep.DeepHandedRow
set_option linter.all false
section
namespace Go.Proofs.YtnfeacnbgbggfaaGreatDoor
open Go.Eng
variable [aE]
section
variable {α : Type} [DecidableEq α]
def bJ (kv : α → Value) : Nat → List (α × V) → List (Value × Nat × V)
 | _, [] => []
 | n, (k, v) :: r => (kv k, n, v) :: bJ kv (n + 1) r
theorem tb (kv : α → Value) : ∀ (g : List (α × V)) (n : Nat), (bJ kv n g).length = g.length
 | [], _ => rfl
 | _ :: r, n => by simp [bJ, tb kv r (n + 1)]
theorem yW (kv : α → Value) : ∀ (g : List (α × V)) (n : Nat), (bJ kv n g).map (fun e => e.2.2) = g.map (·.2)
 | [], _ => rfl
 | _ :: r, n => by simp [bJ, yW kv r (n + 1)]
theorem CL (kv : α → Value) : ∀ (g : List (α × V)) (n i : Nat), (bJ kv n g)[i]? = g[i]?.map fun e => (kv e.1, n + i, e.2)
 | [], _, _ => rfl
 | e :: r, n, 0 => rfl
 | e :: r, n, i + 1 => by
  show (bJ kv (n + 1) r)[i]? = _
  rw [CL kv r (n + 1) i, show n + 1 + i = n + (i + 1) by omega]; rfl
theorem yX (kv : α → Value) (k : α) (v : V) : ∀ (g : List (α × V)) (n : Nat), bJ kv n (g ++ [(k, v)]) = bJ kv n g ++ [(kv k, n + g.length, v)]
 | [], _ => rfl
 | e :: r, n => by
  show (kv e.1, n, e.2) :: bJ kv (n + 1) (r ++ [(k, v)]) = (kv e.1, n, e.2) :: (bJ kv (n + 1) r ++ _)
  rw [yX kv k v r (n + 1), List.length_cons, show n + 1 + r.length = n + (r.length + 1) by omega]
theorem CM (kv : α → Value) (k : α) (v : V) : ∀ (g : List (α × V)) (n i : Nat), i < g.length → bJ kv n (g.set i (k, v)) = (bJ kv n g).set i (kv k, n + i, v)
 | [], _, _, h => by simp at h
 | e :: r, n, 0, _ => rfl
 | e :: r, n, i + 1, h => by
  show (kv e.1, n, e.2) :: bJ kv (n + 1) (r.set i (k, v)) = (kv e.1, n, e.2) :: (bJ kv (n + 1) r).set i _
  rw [CM kv k v r (n + 1) i (by simpa using h), show n + 1 + i = n + (i + 1) by omega]
theorem kA (kv : α → Value) (p : V → Bool) : ∀ (g : List (α × V)) (n : Nat), ((bJ kv n g).all fun e => p e.2.2) = g.all fun e => p e.2
 | [], _ => rfl
 | _ :: r, n => by simp [bJ, kA kv p r (n + 1)]
theorem CN (kv : α → Value) : ∀ (g : List (α × V)) (vs : List V) (n : Nat), sH (bJ kv n g) vs = bJ kv n (List.zipWith (fun e v => (e.1, v)) g vs)
 | [], _, _ => rfl
 | e :: r, [], _ => rfl
 | e :: r, v :: vs, n => by
  show _ :: sH (bJ kv (n + 1) r) vs = _
  rw [CN kv r vs (n + 1)]; rfl
def dB (a : α) : List (α × V) → Nat → Option (Nat × V)
 | [], _ => none
 | e :: r, i => if e.1 = a then some (i, e.2) else dB a r (i + 1)
def getM (a : α) : List (α × V) → Option V
 | [] => none
 | e :: r => if e.1 = a then some e.2 else getM a r
theorem pP (a : α) : ∀ (g : List (α × V)) (i : Nat), (dB a g i).map (·.2) = getM a g
 | [], _ => rfl
 | e :: r, i => by
  unfold dB getM
  split
  ·rfl
  ·exact pP a r (i + 1)
theorem yY {a : α} : ∀ {g : List (α × V)} {n i : Nat} {v : V}, dB a g n = some (i, v) → n ≤ i ∧ g[i - n]? = some (a, v)
 | [], _, _, _, h => by simp [dB] at h
 | e :: r, n, i, v, h => by
  unfold dB at h
  split at h
  ·rename_i he; cases h; subst he; simp
  ·obtain ⟨h1, h2⟩ := yY h
   refine ⟨by omega, ?_⟩
   rw [show i - n = (i - (n + 1)) + 1 by omega]; simpa using h2
structure KT (P : Program) (T kt et : TypeId) (kv : α → Value) (ky : α → V) : Prop where
 map : cQ P T = some (kt, et)
 val : ∀ a, bw (ky a) = some (kv a)
 ok : ∀ a, mJ P kt (kv a) = true
 bits : ∀ a, Instr.sameBits 10000 (kv a) (kv a) = true
 find : ∀ (a : α) (g : List (α × V)), kE P kt (kv a) (bJ kv 0 g) = some (dB a g 0)
theorem KT.now {P : Program} {kt : TypeId} {kv : α → Value} {d : TypeDesc} (hd : P.underlying kt = some d) (h : ∀ a b, Instr.sameNow d (kv a) (kv b) = some (decide (b = a))) (a : α) (g : List (α × V)) : kE P kt (kv a) (bJ kv 0 g) = some (dB a g 0) := by
 have key : ∀ (g : List (α × V)) (n i : Nat), dR d (kv a) (bJ kv n g) i = some (dB a g i) := by
  intro g
  induction g with
  | nil => intro n i; rfl
  | cons e r ih =>
   intro n i
   obtain ⟨k, v⟩ := e
   simp only [bJ,dR,dB,h]
   by_cases hk : k = a
   ·simp [hk]
   ·rw [decide_eq_false hk, if_neg hk]; exact ih _ _
 unfold kE
 rw [hd]
 dsimp only
 rw [key]
theorem KT.ask {P : Program} {kt : TypeId} {kv : α → Value} {d : TypeDesc} (hd : P.underlying kt = some d) (h0 : ∀ a b, Instr.sameNow d (kv a) (kv b) = none) (h : ∀ a b, aF P (Op.equal kt (kv a) (kv b)) = some (decide (a = b))) (a : α) (g : List (α × V)) : kE P kt (kv a) (bJ kv 0 g) = some (dB a g 0) := by
 have key : ∀ (g : List (α × V)) (n i : Nat), il P kt (kv a) (bJ kv n g) i = some (dB a g i) := by
  intro g
  induction g with
  | nil => intro n i; rfl
  | cons e r ih =>
   intro n i
   obtain ⟨k, v⟩ := e
   simp only [bJ,il,dB,h]
   by_cases hk : k = a
   ·simp [hk]
   ·rw [decide_eq_false (fun e => hk e.symm), if_neg hk]; exact ih _ _
 unfold kE
 rw [hd]
 dsimp only
 cases g with
 | nil => rfl
 | cons e r =>
  have : dR d (kv a) (bJ kv 0 (e :: r)) 0 = none := by
   obtain ⟨k, v⟩ := e
   simp only [bJ,dR,h0]
  rw [this]
  dsimp only
  exact key _ _ _
section
variable {P : Program} {T kt et : TypeId} {kv : α → Value} {ky : α → V}
def kQ (a : α) (v : V) (g : List (α × V)) : List (α × V) := match dB a g 0 with
 | none => g ++ [(a, v)]
 | some (i, _) => g.set i (a, v)
theorem KT.put (h : KT P T kt et kv ky) (a : α) (v : V) (g : List (α × V)) {mem : List aw} {b : Nat} (hm : mem[b]? = some (.map (bJ kv 0 g) g.length)) :
  cn P mem T (.mp b) (ky a) v = some (mem.set b (.map (bJ kv 0 (kQ a v g)) (kQ a v g).length)) := by
 unfold cn
 rw [h.map]
 dsimp only
 rw [h.val]
 dsimp only
 rw [if_pos (h.ok a), hm]
 dsimp only
 unfold insertAt
 rw [h.find]
 unfold kQ
 cases hf : dB a g 0 with
 | none =>
  dsimp only
  rw [yX, Nat.zero_add, List.length_append, List.length_singleton]
 | some p =>
  obtain ⟨i, w⟩ := p
  obtain ⟨-, h2⟩ := yY hf
  rw [Nat.sub_zero] at h2
  dsimp only
  rw [CL, h2]
  dsimp only [Option.map_some]
  rw [if_pos (h.bits a)]
  dsimp only
  rw [CM _ _ _ _ _ _ (List.getElem?_eq_some_iff.1 h2).1, List.length_set]
theorem KT.get (h : KT P T kt et kv ky) (a : α) (g : List (α × V)) {mem : List aw} {b : Nat} (hm : mem[b]? = some (.map (bJ kv 0 g) g.length)) {z : V} (hz : zeroV P et = some z) (ok : Bool) :
  df P mem T (.mp b) (ky a) ok = some (P6 ok (getM a g).isSome ((getM a g).getD z)) := by
 unfold df
 rw [h.map]
 dsimp only
 rw [h.val]
 dsimp only
 rw [if_pos (h.ok a)]
 unfold nW
 dsimp only
 rw [hm]
 dsimp only
 rw [h.find, ← pP a g 0]
 cases hf : dB a g 0 with
 | none => dsimp only; rw [hz]; rfl
 | some p => rfl
end
end
end Go.Proofs.YtnfeacnbgbggfaaGreatDoor
end

section
namespace Go.Proofs.YtnfeacnbgbggfaaGreatDoor
open Go.Eng
variable [aE]
instance lawfulBA : LawfulBEq ByteArray where
 eq_of_beq h := (hD _ _).1 h
 rfl := (hD _ _).2 rfl
def CO (a b : er) : Prop := a.mj < b.mj ∨ (a.mj = b.mj ∧ (a.mn < b.mn ∨ (a.mn = b.mn ∧ a.pt < b.pt)))
def jF (a b : Rl) : Prop := a.path.data.toList < b.path.data.toList ∨ (a.path = b.path ∧ CO a.aA b.aA)
theorem jF.trans {a b c : Rl} (h1 : jF a b) (h2 : jF b c) : jF a c := by
 rcases h1 with h1 | ⟨h1, Fc⟩ <;> rcases h2 with h2 | ⟨h2, Qz⟩
 ·exact .inl (List.lt_trans h1 h2)
 ·exact .inl (h2 ▸ h1)
 ·exact .inl (h1 ▸ h2)
 ·refine .inr ⟨h1.trans h2, ?_⟩
  unfold CO at *
  omega
theorem nC {a b : ByteArray} (h : a.data.toList < b.data.toList) : a ≠ b := fun e => by
 subst e; exact absurd h (List.lt_irrefl _)
theorem O7 (a b : ByteArray) : a = b ∨ a.data.toList < b.data.toList ∨ b.data.toList < a.data.toList := by
 by_cases h : a = b
 ·exact .inl h
 ·rcases Decidable.em (a.data.toList < b.data.toList) with h1 | h1
  ·exact .inr (.inl h1)
  ·refine .inr (.inr ?_)
   have h2 : b.data.toList ≤ a.data.toList := h1
   rcases List.le_iff_lt_or_eq.1 h2 with h3 | h3
   ·exact h3
   ·exact absurd (ByteArray.ext (Array.toList_inj.1 h3)).symm h
theorem KJ {a b : Rl} (h1 : ¬ 0 < a.cmp b) (h2 : a.key ≠ b.key) : jF a b := by
 unfold Rl.cmp km at h1
 rw [nr] at h1
 rcases O7 a.path b.path with he | hl | hg
 ·right
  refine ⟨he, ?_⟩
  rw [he] at h1
  have hn : ¬ b.path.data.toList < b.path.data.toList := List.lt_irrefl _
  simp only [decide_eq_true_eq,hn,if_false,if_true,ne_eq,not_true_eq_false] at h1
  have hv : a.aA ≠ b.aA := fun e => h2 (dA.ext' he e)
  have qJ : ¬ (a.aA.mj = b.aA.mj ∧ a.aA.mn = b.aA.mn ∧ a.aA.pt = b.aA.pt) := fun ⟨p, q, r⟩ => hv (er.ext' p q r)
  unfold er.cmp fk at h1
  unfold CO
  by_cases q1 : a.aA.mj = b.aA.mj
  ·by_cases q2 : a.aA.mn = b.aA.mn
   ·simp [q1, q2] at h1
    have q3 : a.aA.pt ≠ b.aA.pt := fun e => qJ ⟨q1, q2, e⟩
    split at h1 <;> (try split at h1) <;> omega
   ·simp [q1] at h1
    split at h1 <;> (try split at h1) <;> omega
  ·split at h1 <;> (try split at h1) <;> omega
 ·exact .inl hl
 ·have bL : a.path ≠ b.path := fun e => nC hg e.symm
  have CE : ¬ a.path.data.toList < b.path.data.toList := fun h => absurd (List.lt_trans h hg) (List.lt_irrefl _)
  simp [CE, bL] at h1
theorem mT : ∀ (l : List Rl) (p : Rl), c5 (some p) l = 0 → (p :: l).Pairwise jF
 | [], p, _ => List.pairwise_singleton _ _
 | r :: t, p, h => by
  rw [eE] at h
  by_cases h0 : gi r = 0
  ·rw [if_neg (by simp [h0])] at h
   dsimp only at h
   split at h
   ·omega
   ·rename_i hk
    split at h
    ·omega
    ·rename_i hc
     have ih := mT t r h
     have QA := KJ hc hk
     rw [List.pairwise_cons] at ih
     refine List.Pairwise.cons (fun x hx => ?_) (List.pairwise_cons.2 ih)
     rcases List.mem_cons.1 hx with rfl | hx
     ·exact QA
     ·exact QA.trans (ih.1 x hx)
  ·rw [if_pos h0] at h; exact absurd h h0
theorem uX {l : List Rl} (h : ey l = 0) : l.Pairwise jF := by
 unfold ey at h
 split at h
 ·omega
 ·cases l with
  | nil => exact List.Pairwise.nil
  | cons r t =>
   rw [eE] at h
   by_cases h0 : gi r = 0
   ·rw [if_neg (by simp [h0])] at h
    exact mT t r h
   ·rw [if_pos h0] at h; exact absurd h h0
theorem O8 {l : List Rl} (h : ey l = 0) : l.length ≤ 256 := by
 unfold ey at h
 split at h
 ·omega
 ·omega
theorem jG {a b : Rl} (h : jF a b) : a.key ≠ b.key := fun e => by
 have e1 : a.path = b.path := congrArg dA.path e
 have e2 : a.aA = b.aA := congrArg dA.aA e
 rcases h with h | ⟨-, h⟩
 ·exact nC h e1
 ·rw [e2] at h; unfold CO at h; omega
def Bi (ps : List ByteArray) (p : ByteArray) : List ByteArray := if p ∈ ps then ps else ps ++ [p]
def aO (l : List Rl) : List ByteArray := l.foldl (fun ps r => Bi ps r.path) []
theorem gW (l : List Rl) (r : Rl) : aO (l ++ [r]) = Bi (aO l) r.path := by unfold aO; rw [List.foldl_append]; rfl
theorem Hu {ps : List ByteArray} {p q : ByteArray} : q ∈ Bi ps p ↔ q ∈ ps ∨ q = p := by
 unfold Bi
 split
 ·exact ⟨.inl, fun h => h.elim id fun e => e ▸ ‹_›⟩
 ·simp
theorem lJ {α : Type} {p : List α → Prop} (h0 : p []) (hs : ∀ l x, p l → p (l ++ [x])) (l : List α) : p l := by
 have : ∀ m : List α, p m.reverse := fun m => by
  induction m with
  | nil => exact h0
  | cons x r ih => rw [List.reverse_cons]; exact hs _ _ ih
 have h := this l.reverse
 rwa [List.reverse_reverse] at h
theorem lK {l : List Rl} {p : ByteArray} : p ∈ aO l ↔ ∃ r ∈ l, r.path = p := by
 induction l using lJ with
 | h0 => simp [aO]
 | hs l x ih =>
  rw [gW, Hu, ih]
  constructor
  ·rintro (⟨r, hr, h⟩ | rfl)
   ·exact ⟨r, List.mem_append_left _ hr, h⟩
   ·exact ⟨x, by simp, rfl⟩
  ·rintro ⟨r, hr, h⟩
   rcases List.mem_append.1 hr with hr | hr
   ·exact .inl ⟨r, hr, h⟩
   ·rw [List.mem_singleton] at hr; subst hr; exact .inr h.symm
theorem tY (l : List Rl) : (aO l).Nodup := by
 induction l using lJ with
 | h0 => exact List.nodup_nil
 | hs l x ih =>
  rw [gW]
  unfold Bi
  split
  ·exact ih
  ·rename_i h
   rw [List.nodup_append]
   exact ⟨ih, by simp, fun a ha b hb => by rw [List.mem_singleton] at hb; subst hb; exact fun e => h (e ▸ ha)⟩
def dC (l : List Rl) (p : ByteArray) : List Rl := l.filter fun r => decide (r.path = p)
theorem yZ (l : List Rl) (r : Rl) (p : ByteArray) : dC (l ++ [r]) p = if r.path = p then dC l p ++ [r] else dC l p := by
 unfold dC
 rw [List.filter_append]
 by_cases h : r.path = p <;> simp [h]
def bX (l : List Rl) (p : ByteArray) : List V := (dC l p).map ag
theorem mU {l : List Rl} {r : Rl} {p : ByteArray} (h : r.path ≠ p) : bX (l ++ [r]) p = bX l p := by unfold bX; rw [yZ, if_neg h]
theorem tc (l : List Rl) (r : Rl) : bX (l ++ [r]) r.path = bX l r.path ++ [ag r] := by unfold bX; rw [yZ, if_pos rfl, List.map_append]; rfl
theorem nD {l : List Rl} {p : ByteArray} (h : p ∉ aO l) : bX l p = [] := by
 unfold bX dC
 rw [List.filter_eq_nil_iff.2, List.map_nil]
 intro r hr
 simp only [decide_eq_true_eq]
 exact fun e => h (lK.2 ⟨r, hr, e⟩)
def gP (l : List Rl) : List (ByteArray × V) := (aO l).map fun p => (p, .slice (bX l p))
def gL (q : ByteArray) (x : V) (l : List Rl) : List (ByteArray × V) := (aO l).map fun p => (p, if p = q then x else .slice (bX l p))
theorem mo (f : ByteArray → V) (q : ByteArray) : ∀ (ps : List ByteArray) (n : Nat), dB q (ps.map fun p => (p, f p)) n = if q ∈ ps then some (n + ps.idxOf q, f q) else none
 | [], _ => by simp [dB]
 | p :: r, n => by
  simp only [List.map_cons,dB]
  by_cases h : p = q
  ·subst h; simp
  ·rw [if_neg h, mo f q r (n + 1)]
   by_cases h2 : q ∈ r
   ·rw [if_pos h2, if_pos (List.mem_cons_of_mem _ h2), List.idxOf_cons, show (p == q) = false by simpa using h]
    simp only [cond_false]
    rw [show n + 1 + r.idxOf q = n + (r.idxOf q + 1) by omega]
   ·rw [if_neg h2, if_neg (by simp [h2]; exact fun e => h e.symm)]
theorem td (f : ByteArray → V) (q : ByteArray) (ps : List ByteArray) : getM q (ps.map fun p => (p, f p)) = if q ∈ ps then some (f q) else none := by
 rw [← pP q _ 0, mo]
 split <;> rfl
theorem y0 (f : ByteArray → V) {q : ByteArray} {ps : List ByteArray} (hn : ps.Nodup) (h : q ∈ ps) (v : V) : kQ q v (ps.map fun p => (p, f p)) = ps.map fun p => (p, if p = q then v else f p) := by
 unfold kQ
 rw [mo, if_pos h]
 dsimp only
 apply List.ext_getElem?
 intro i
 rw [List.getElem?_set, List.getElem?_map, List.getElem?_map, Nat.zero_add, List.length_map]
 by_cases hi : ps.idxOf q = i
 ·rw [if_pos hi]
  have az := List.idxOf_lt_length_of_mem h
  have hq : ps[i]? = some q := by rw [← hi, List.getElem?_eq_getElem az, List.getElem_idxOf az]
  rw [if_pos (by omega), hq]; simp
 ·rw [if_neg hi]
  cases hp : ps[i]? with
  | none => rfl
  | some p =>
   have : p ≠ q := fun e => by
    subst e
    have h1 := (List.getElem?_eq_some_iff.1 hp)
    obtain ⟨h2, h3⟩ := h1
    have := hn.idxOf_getElem i h2
    rw [h3] at this
    exact hi this
   simp [this]
theorem wH (f : ByteArray → V) {q : ByteArray} {ps : List ByteArray} (h : q ∉ ps) (v : V) : kQ q v (ps.map fun p => (p, f p)) = ps.map (fun p => (p, f p)) ++ [(q, v)] := by
 unfold kQ
 rw [mo, if_neg h]
theorem KK {q : ByteArray} {l : List Rl} {r : Rl} (hq : r.path = q) (hl : q ∈ aO l) (x y : V) : kQ q y (gL q x l) = gL q y (l ++ [r]) := by
 unfold gL
 rw [y0 _ (tY l) hl, gW, hq, show Bi (aO l) q = aO l from if_pos hl]
 refine List.map_congr_left fun p _ => ?_
 by_cases hp : p = q
 ·simp [hp]
 ·rw [if_neg hp, if_neg hp, if_neg hp, mU (fun e => hp (e.symm.trans hq))]
theorem O9 {l : List Rl} {r : Rl} (h : r.path ∉ aO l) (y : V) : kQ r.path y (gP l) = gL r.path y (l ++ [r]) := by
 unfold gP gL
 rw [wH _ h, gW, show Bi (aO l) r.path = aO l ++ [r.path] from if_neg h, List.map_append]
 congr 1
 ·refine List.map_congr_left fun p hp => ?_
  have : p ≠ r.path := fun e => h (e ▸ hp)
  rw [if_neg this, mU (fun e => this e.symm)]
 ·simp
theorem Pa {q : ByteArray} {l : List Rl} (hl : q ∈ aO l) (x : V) : getM q (gL q x l) = some x := by
 unfold gL
 rw [td, if_pos hl, if_pos rfl]
theorem y3 {q : ByteArray} {l : List Rl} (hl : q ∉ aO l) : getM q (gP l) = none := by
 unfold gP
 rw [td, if_neg hl]
theorem Hv {l : List Rl} {p r : Rl} (h : (l ++ [p]).Pairwise jF) (QA : jF p r) (bL : p.path ≠ r.path) : r.path ∉ aO (l ++ [p]) := fun hm => by
 obtain ⟨x, hx, he⟩ := lK.1 hm
 rcases QA with QA | ⟨e, -⟩
 ·rcases List.mem_append.1 hx with hx | hx
  ·have h1 := (List.pairwise_append.1 h).2.2 x hx p (by simp)
   rcases h1 with h1 | ⟨e, -⟩
   ·exact nC (List.lt_trans h1 QA) he
   ·exact bL (e ▸ he)
  ·rw [List.mem_singleton] at hx; subst hx; exact bL he
 ·exact bL e
def gK (l : List Rl) : List (dA × V) := l.map fun r => (r.key, ag r)
theorem nE {α : Type} [DecidableEq α] {a : α} : ∀ {g : List (α × V)} {n : Nat}, (∀ e ∈ g, e.1 ≠ a) → dB a g n = none
 | [], _, _ => rfl
 | e :: r, n, h => by
  unfold dB
  rw [if_neg (h e (by simp))]
  exact nE fun e' he => h e' (by simp [he])
theorem KL {l : List Rl} {r : Rl} (h : ∀ x ∈ l, x.key ≠ r.key) : kQ r.key (ag r) (gK l) = gK (l ++ [r]) := by
 unfold kQ gK
 rw [nE (fun e he => by obtain ⟨x, hx, rfl⟩ := List.mem_map.1 he; exact h x hx), List.map_append]
 rfl
end Go.Proofs.YtnfeacnbgbggfaaGreatDoor
end

section
namespace Go.Proofs.YtnfeacnbgbggfaaGreatDoor
open Go.Eng
variable [aE]
set_option maxHeartbeats 4000000
set_option maxRecDepth 100000
def mD (s : dA) : V := .agg [str s.path, num s.aA.mj, num s.aA.mn, num s.aA.pt]
theorem Eu (u : dA) : mJ Tryz.prog 54 (aL u) = true := by
 obtain ⟨a, b, c, d⟩ := u
 kernel_rfl
theorem Hw (u : dA) : Instr.sameBits 10000 (aL u) (aL u) = true := by
 have h : ∀ s : ByteArray, Instr.sameBits 9999 (.string s) (.string s) = true := fun s => (hD s s).2 rfl
 have h2 : ∀ n : Int, Instr.sameBits 9999 (.int .i64 n) (.int .i64 n) = true := fun n => by
  show Instr.sameBits (9998 + 1) _ _ = true
  simp [Instr.sameBits]
 show Instr.sameBits (9999 + 1) (aL u) (aL u) = true
 unfold aL
 rw [Instr.sameBits]
 simp [h, h2]
theorem Ms {T et : TypeId} (h : cQ Tryz.prog T = some (54, et)) : KT Tryz.prog T 54 et aL mD :=
 ⟨h, fun _ => rfl, Eu, Hw, KT.ask Tryz.underlying54 (fun a b => by unfold aL; rfl) Ov⟩
def strVal (s : ByteArray) : Value := .string s
theorem Hx {T et : TypeId} (h : cQ Tryz.prog T = some (9, et)) : KT Tryz.prog T 9 et strVal str :=
 ⟨h, fun _ => rfl, fun a => by unfold mJ; rw [Tryz.underlying9], fun a => (hD a a).2 rfl,
  KT.now Tryz.underlying9 fun a b => by
   show some (a == b) = some (decide (b = a))
   congr 1
   rw [Bool.eq_iff_iff, hD, decide_eq_true_eq]
   exact ⟨fun h => h.symm, fun h => h.symm⟩⟩
theorem SU : cQ Tryz.prog 79 = some (54, 40) := by kernel_rfl
theorem SV : cQ Tryz.prog 80 = some (9, 22) := by kernel_rfl
theorem SX : cQ Tryz.prog 85 = some (54, 4) := by kernel_rfl
theorem SY : cQ Tryz.prog 92 = some (9, 40) := by kernel_rfl
theorem SZ : cQ Tryz.prog 93 = some (9, 4) := by kernel_rfl
theorem Hy : zeroV Tryz.prog 22 = some (.sc (.slice none 0 0)) := by kernel_rfl
theorem Mt : zeroV Tryz.prog 4 = some (bl false) := by kernel_rfl
theorem te : zeroV Tryz.prog 40 = some (.agg [str ⟨#[]⟩, num 0, num 0, num 0, .sc (.slice none 0 0), str ⟨#[]⟩, str ⟨#[]⟩, str ⟨#[]⟩, bl false]) := by kernel_rfl
theorem Pb : KT Tryz.prog 79 54 40 aL mD := Ms SU
theorem Pc : KT Tryz.prog 80 9 22 strVal str := Hx SV
theorem S0 : KT Tryz.prog 85 54 4 aL mD := Ms SX
theorem KM : KT Tryz.prog 92 9 40 strVal str := Hx SY
theorem S2 : KT Tryz.prog 93 9 4 strVal str := Hx SZ
theorem lL (n : Nat) (r : Rl) : ai n (ag r) = true := by simp [ag, ab, ah, ai, dk]
theorem ae (n : Nat) (l : List Rl) : ((bJ aL 0 (gK l)).all fun e => ai n e.2.2) = true := by
 rw [kA aL (ai n)]
 unfold gK
 simp [lL]
theorem bY {n b : Nat} (h : b < n) (v o k : Nat) (q : ByteArray) (l : List Rl) : ((bJ strVal 0 (gL q (.ms b v o k) l)).all fun e => ai n e.2.2) = true := by
 rw [kA strVal (ai n)]
 unfold gL
 rw [List.all_map, List.all_eq_true]
 intro p _
 simp only [Function.comp]
 split
 ·simpa [ai] using h
 ·rfl
theorem af (n : Nat) (l : List Rl) : ((bJ strVal 0 (gP l)).all fun e => ai n e.2.2) = true := by
 rw [kA strVal (ai n)]
 unfold gP
 rw [List.all_map, List.all_eq_true]
 intro p _
 rfl
theorem mq (q : ByteArray) (x : V) (l : List Rl) : (gL q x l).length = (aO l).length := by simp [gL]
theorem pQ (l : List Rl) : (gP l).length = (aO l).length := by simp [gP]
theorem y4 {α : Type} {mem : List aw} {f g : α → V} : ∀ {ps : List α}, (∀ p ∈ ps, fi mem (f p) = some (g p)) → cy mem (ps.map f) = some (ps.map g)
 | [], _ => rfl
 | p :: r, h => by
  have ih := y4 (mem := mem) (f := f) (g := g) (ps := r) fun q hq => h q (List.mem_cons_of_mem _ hq)
  simp only [List.map_cons,cy,h p (by simp),ih]
theorem tf (B0 B1 B2 B3 B4 : aw) (rest : List aw) (v e : Nat) (rs : List V) : ∀ (keys : List (Nat × Nat)), (∀ k ∈ keys, k = (5, v)) → ∀ B5, (B5 = .rows v e rs ∨ B5 = .mv v e rs) →
  ∃ Wl, (Wl = .rows v e rs ∨ Wl = .mv v e rs) ∧ bT (B0 :: B1 :: B2 :: B3 :: B4 :: B5 :: rest) keys = B0 :: B1 :: B2 :: B3 :: B4 :: Wl :: rest
 | [], _, B5, h => ⟨B5, h, rfl⟩
 | k :: r, hk, B5, h => by
  obtain rfl := hk k (by simp)
  unfold bT
  rw [List.foldl_cons]
  rcases h with rfl | rfl
  ·have h1 : rX (B0 :: B1 :: B2 :: B3 :: B4 :: .rows v e rs :: rest) (5, v) = B0 :: B1 :: B2 :: B3 :: B4 :: .mv v e rs :: rest := by simp [rX]
   rw [h1]
   exact tf B0 B1 B2 B3 B4 rest v e rs r (fun k eP => hk k (by simp [eP])) _ (.inr rfl)
  ·have h1 : rX (B0 :: B1 :: B2 :: B3 :: B4 :: .mv v e rs :: rest) (5, v) = B0 :: B1 :: B2 :: B3 :: B4 :: .mv v e rs :: rest := by simp [rX]
   rw [h1]
   exact tf B0 B1 B2 B3 B4 rest v e rs r (fun k eP => hk k (by simp [eP])) _ (.inr rfl)
theorem Hz (l : List Rl) (q : ByteArray) (v e : Nat) (B0 B1 B2 B3 B4 : aw) (rest : List aw) :
  cy (B0 :: B1 :: B2 :: B3 :: B4 :: .rows v e (bX l q) :: rest) ((bJ strVal 0 (gL q (.ms 5 v 0 (bX l q).length) l)).map fun e => e.2.2) = some ((aO l).map fun p => .slice (bX l p)) ∧
  ∃ B5, (∀ n, aB n B5 = true) ∧ (∀ σ, cq σ B5 = B5) ∧ bT (B0 :: B1 :: B2 :: B3 :: B4 :: .rows v e (bX l q) :: rest) (((bJ strVal 0 (gL q (.ms 5 v 0 (bX l q).length) l)).map fun e => e.2.2).flatMap cp) = B0 :: B1 :: B2 :: B3 :: B4 :: B5 :: rest := by
 rw [yW]
 unfold gL
 rw [List.map_map]
 constructor
 ·refine y4 fun p _ => ?_
  simp only [Function.comp]
  split
  ·rename_i h; subst h
   simp [fi, bU]
  ·rfl
 ·obtain ⟨B5, h1, h2⟩ := tf B0 B1 B2 B3 B4 rest v e (bX l q) (((aO l).map ((fun x => x.2) ∘ fun p => (p, if p = q then V.ms 5 v 0 (bX l q).length else V.slice (bX l p)))).flatMap cp) (fun k hk => by
   obtain ⟨x, hx, hk⟩ := List.mem_flatMap.1 hk
   obtain ⟨p, -, rfl⟩ := List.mem_map.1 hx
   simp only [Function.comp] at hk
   split at hk
   ·simpa [cp, ek] using hk
   ·simp [cp, ek] at hk) _ (.inl rfl)
  exact ⟨B5, fun n => by rcases h1 with rfl | rfl <;> rfl, fun σ => by rcases h1 with rfl | rfl <;> rfl, h2⟩
theorem CP (l : List Rl) (q : ByteArray) (x : V) : sH (bJ strVal 0 (gL q x l)) ((aO l).map fun p => .slice (bX l p)) = bJ strVal 0 (gP l) := by
 rw [CN]
 congr 1
 unfold gL gP
 rw [List.zipWith_map, List.zipWith_self]
theorem oT {α : Type} (kv : α → Value) (σ : Nat → Nat) (c : Nat) : ∀ (g : List (α × V)) (n : Nat), cq σ (.map (bJ kv n g) c) = .map (bJ kv n (g.map fun e => (e.1, bo σ e.2))) c := by
 have key : ∀ (g : List (α × V)) (n : Nat), (bJ kv n g).map (fun e => (e.1, e.2.1, bo σ e.2.2)) = bJ kv n (g.map fun e => (e.1, bo σ e.2)) := by
  intro g
  induction g with
  | nil => intro n; rfl
  | cons e r ih => intro n; simp only [bJ,List.map_cons,ih]
 intro g n
 show aw.map _ _ = _
 rw [key]
theorem CQ (σ : Nat → Nat) (r : Rl) : bo σ (ag r) = ag r := DZ σ (lL 0 r)
theorem rv (σ : Nat → Nat) (l : List Rl) (c : Nat) : cq σ (.map (bJ aL 0 (gK l)) c) = .map (bJ aL 0 (gK l)) c := by
 rw [oT]
 congr 2
 unfold gK
 rw [List.map_map]
 exact List.map_congr_left fun r _ => by simp only [Function.comp,CQ]
theorem KN (σ : Nat → Nat) (q : ByteArray) (x : V) (l : List Rl) (c : Nat) : cq σ (.map (bJ strVal 0 (gL q x l)) c) = .map (bJ strVal 0 (gL q (bo σ x) l)) c := by
 rw [oT]
 congr 2
 unfold gL
 rw [List.map_map]
 refine List.map_congr_left fun p _ => ?_
 simp only [Function.comp]
 split <;> rfl
theorem CR (σ : Nat → Nat) (l : List Rl) (c : Nat) : cq σ (.map (bJ strVal 0 (gP l)) c) = .map (bJ strVal 0 (gP l)) c := by
 rw [oT]
 congr 2
 unfold gP
 rw [List.map_map]
 exact List.map_congr_left fun p _ => rfl
def eV (l : List Rl) : ByteArray := match l.getLast? with | some r => r.path | none => ⟨#[]⟩
theorem nF (l : List Rl) (r : Rl) : eV (l ++ [r]) = r.path := by simp [eV]
theorem hY {l : List Rl} {i : Nat} {r : Rl} (h : l[i]? = some r) : l.take (i + 1) = l.take i ++ [r] := by rw [List.take_add_one, h]; rfl
theorem y5 {l : List Rl} (hs : l.Pairwise jF) {i : Nat} {r : Rl} (h : l[i]? = some r) : (r.path = eV (l.take i) ∧ r.path ∈ aO (l.take i)) ∨ r.path ∉ aO (l.take i) := by
 have az := (List.getElem?_eq_some_iff.1 h).1
 rcases Nat.eq_zero_or_pos i with rfl | hi
 ·exact .inr (by simp [aO])
 ·obtain ⟨j, rfl⟩ : ∃ j, i = j + 1 := ⟨i - 1, by omega⟩
  have hp : l[j]? = some l[j] := List.getElem?_eq_getElem (by omega)
  have ht : (l.take (j + 1)).Pairwise jF := List.Pairwise.sublist (List.take_sublist _ _) hs
  have Zm : jF l[j] r := by
   have h1 := List.pairwise_iff_getElem.1 hs j (j + 1) (by omega) az (by omega)
   rwa [(List.getElem?_eq_some_iff.1 h).2] at h1
  rw [hY hp] at ht ⊢
  rw [nF]
  by_cases he : r.path = l[j].path
  ·exact .inl ⟨he, lK.2 ⟨l[j], List.mem_append_right _ (List.mem_singleton.2 rfl), he.symm⟩⟩
  ·exact .inr (Hv ht Zm fun e => he e.symm)
theorem KO {l : List Rl} (hs : l.Pairwise jF) {i : Nat} {r : Rl} (h : l[i]? = some r) : ∀ x ∈ l.take i, x.key ≠ r.key := fun x hx => by
 obtain ⟨az, hr⟩ := List.getElem?_eq_some_iff.1 h
 obtain ⟨j, hj, rfl⟩ := List.getElem_of_mem hx
 rw [List.length_take] at hj
 rw [List.getElem_take]
 have h1 := List.pairwise_iff_getElem.1 hs j i (by omega) az (by omega)
 rw [hr] at h1
 exact jG h1
theorem KP {l : List Rl} (hs : l.Pairwise jF) {i : Nat} {r : Rl} (h : l[i]? = some r) (B0 B1 : aw) (rest : List aw) :
  cn Tryz.prog (B0 :: B1 :: .map (bJ aL 0 (gK (l.take i))) (gK (l.take i)).length :: rest) 79 (.mp 2) (mD r.key) (ag r) = some (B0 :: B1 :: .map (bJ aL 0 (gK (l.take i ++ [r]))) (gK (l.take i ++ [r])).length :: rest) := by
 have := Pb.put r.key (ag r) (gK (l.take i)) (mem := B0 :: B1 :: .map (bJ aL 0 (gK (l.take i))) (gK (l.take i)).length :: rest) (b := 2) rfl
 rw [KL (KO hs h)] at this
 exact this
theorem HA {g : List (ByteArray × V)} {q : ByteArray} {x : V} {c : Nat} (hc : c = g.length) (h : (getM q g).getD (.sc (.slice none 0 0)) = x) (B0 B1 B2 : aw) (rest : List aw) :
  df Tryz.prog (B0 :: B1 :: B2 :: .map (bJ strVal 0 g) c :: rest) 80 (.mp 3) (str q) false = some x := by
 subst hc
 rw [Pc.get q g (b := 3) rfl Hy, h]; rfl
theorem HB {g g' : List (ByteArray × V)} {q : ByteArray} {y : V} {c c' : Nat} (hc : c = g.length) (h : kQ q y g = g') (LD : c' = g'.length) (B0 B1 B2 : aw) (rest : List aw) :
  cn Tryz.prog (B0 :: B1 :: B2 :: .map (bJ strVal 0 g) c :: rest) 80 (.mp 3) (str q) y = some (B0 :: B1 :: B2 :: .map (bJ strVal 0 g') c' :: rest) := by
 subst hc; subst LD; subst h
 exact Pc.put q y g (b := 3) rfl
theorem HC (l : List Rl) (p : ByteArray) (i : Nat) : (bX (l.take i) p).length ≤ l.length := by
 unfold bX dC
 rw [List.length_map]
 exact Nat.le_trans (List.length_filter_le _ _) (by rw [List.length_take]; omega)
def aq (l : List Rl) : List Rl := if ey l = 0 then l else []
def KQ (l : List Rl) (I : List V) : List aw := [.box [.slice (l.map ag), .slice I], .box [.mp 2, .mp 3], .map (bJ aL 0 (gK (aq l))) (gK (aq l)).length, .map (bJ strVal 0 (gP (aq l))) (aO (aq l)).length]
theorem uY (l : List Rl) (I : List V) : (KQ l I).all (aB 4) = true := by
 unfold KQ
 simp only [List.all_cons,List.all_nil,pC,vZ,ae,af,ai,Bool.and_true,decide_eq_true_eq,Bool.true_and]
 decide
theorem KR {l : List Rl} (h : ey l ≠ 0) (I : List V) : KQ l I = [.box [.slice (l.map ag), .slice I], .box [.mp 2, .mp 3], .map [] 0, .map [] 0] := by
 unfold KQ aq
 rw [if_neg h]; rfl
theorem Pd {l : List Rl} (h : ey l = 0) (I : List V) : KQ l I = [.box [.slice (l.map ag), .slice I], .box [.mp 2, .mp 3], .map (bJ aL 0 (gK l)) (gK l).length, .map (bJ strVal 0 (gP l)) (aO l).length] := by
 unfold KQ aq
 rw [if_pos h]
end Go.Proofs.YtnfeacnbgbggfaaGreatDoor
end

section
namespace Go.Proofs.YtnfeacnbgbggfaaGreatDoor
open Go.Eng
open Nat renaming reduceAdd → zA, reduceLT → zB, reduceLeDiff → zC, reduceMul → zD, reduceEqDiff → zE, reduceSub → zF
variable [aE]
set_option maxHeartbeats 4000000
set_option maxRecDepth 100000
theorem y6 (hG : aE.g = some 0) (l : List Rl) (I : List V) (hb : w6 l) : ∃ r_ m_, (fun r m => r = .bP [.agg [.mp 2, .mp 3], num (ey l)] ∧ m = KQ l I) r_ m_ ∧ aT Tryz.prog 46 [bA l I] ([]) r_ m_ := by
 refine E8 tt_ok [9,10,11] 43 [.cell 2 82, .tmp 3] (4) (by decide) (fn := Tryz.f46) Tryz.func46 rfl Tryz.call46 ⟨rfl, rfl, by simp⟩ fun K hK => ?_
 simp only [bA,bh]
 have Bj := hb.1
 have Ns := uY l I
 simp only [ae,bY (show 5 < 6 by decide),af,List.length_map,go_sem,reduceIte,zA,zB,zC,zD,zE,zF,reduceCtorEq]
 refine cF (by have h := s4 hG l I hb; simp only [bA,bh] at h; exact h) ?_
 rintro _ rfl
 simp only [ae,bY (show 5 < 6 by decide),af,List.length_map,go_sem,reduceIte,zA,zB,zC,zD,zE,zF,reduceCtorEq]
 refine aN (fun cX => ?_) (fun cX => ?_)
 ·have cV : ey l ≠ 0 := by simpa using cX
  have Wm := KR cV I
  have hr : V.bP [.agg [.mp 2, .mp 3], num (ey l)] = .bP [.agg [.mp 2, .mp 3], num (ey l)] := rfl
  simp only [ae,bY (show 5 < 6 by decide),af,List.length_map,go_sem,reduceIte,zA,zB,zC,zD,zE,zF,reduceCtorEq]
  exact hK _ _ ⟨hr, Wm.symm⟩
 ·have cV : ey l = 0 := by simpa using cX
  have Wm := Pd cV I
  have hr : V.bP [.agg [.mp 2, .mp 3], num 0] = .bP [.agg [.mp 2, .mp 3], num (ey l)] := by rw [cV]
  have hs := uX cV
  simp only [ae,bY (show 5 < 6 by decide),af,List.length_map,go_sem,reduceIte,zA,zB,zC,zD,zE,zF,reduceCtorEq]
  refine GG 0 9 ?_
  refine cY tt_ok [9,10,11] (fun a : Nat × Nat => [(2, .ptr 1 0), (4, .ptr 4 0), (18, .slice (l.map ag)), (19, num l.length), (20, num a.1)]) (fun a : Nat × Nat => [.box [.slice (l.map ag), .slice I], .box [.sc (.map none), .sc (.map none)], .map (bJ aL 0 (gK (l.take a.1))) (gK (l.take a.1)).length, .map (bJ strVal 0 (gL (eV (l.take a.1)) (.ms 5 a.2 0 (bX (l.take a.1) (eV (l.take a.1))).length) (l.take a.1))) (aO (l.take a.1)).length, .box [.mp 2, .mp 3], .rows a.2 9 (bX (l.take a.1) (eV (l.take a.1)))]) (fun a => l.length - a.1) (fun a => a.1 ≤ l.length) ((0, 0)) 6 (bj (by omega) (by simp only [ae,bY (show 5 < 6 by decide),af,List.length_map,Int.cast_ofNat_Int,go_sem,reduceIte,zA,zB,zC,zD,zE,zF,reduceCtorEq] <;> rfl)) (Nat.zero_le _) ?_
  rintro ⟨i, v⟩ hi
  try dsimp only at hi ⊢
  intro Z1 cd
  simp only [ae,bY (show 5 < 6 by decide),af,List.length_map,go_sem,reduceIte,zA,zB,zC,zD,zE,zF,reduceCtorEq]
  refine aN (fun gV => ?_) (fun gV => ?_)
  ·have az : i < l.length := by simpa using gV
   have hw := ay i (by omega)
   obtain ⟨x, hx⟩ : ∃ x, l[i]? = some x := ⟨_, List.getElem?_eq_getElem az⟩
   have tG := hY hx
   have jc := fun B0 B1 rest => KP hs hx B0 B1 rest
   simp only [mD,ag,ab,ah] at jc
   simp only [ae,bY (show 5 < 6 by decide),af,hw,List.getElem?_map,hx,ag,ab,ah,jc,List.length_map,go_sem,reduceIte,zA,zB,zC,zD,zE,zF,reduceCtorEq]
   refine bu tt_ok aG [⟨.n, 0, [], [], []⟩, ⟨.r, 0, [], [], []⟩, ⟨.r, 0, [], [], []⟩, ⟨.n, 0, [], [], []⟩, ⟨.r, 0, [], [], []⟩, ⟨.w, 0, [], [], []⟩] 1 (by kernel_rfl) ?_
   simp only [ae,bY (show 5 < 6 by decide),af,hw,List.getElem?_map,hx,ag,ab,ah,jc,List.length_map,go_sem,reduceIte,zA,zB,zC,zD,zE,zF,reduceCtorEq]
   refine cG (by have h := kp x; simp only [ag,ab,ah,aH] at h; exact h) ?_
   rintro _ rfl
   rcases y5 hs hx with ⟨hq, KE⟩ | Wn
   ·simp only [ae,bY (show 5 < 6 by decide),af,hw,List.getElem?_map,hx,ag,ab,ah,jc,List.length_map,go_sem,reduceIte,zA,zB,zC,zD,zE,zF,reduceCtorEq]
    have fO : ck [V.agg [str x.path, num x.aA.mj, num x.aA.mn, num x.aA.pt, V.slice (x.reqs.map aj), str x.ar, str x.fY, str x.ce, bl x.yk]] 0 9 = true := rfl
    have eO : (bX (l.take i) (eV (l.take i))).length + 1 ≤ 34359738368 := by have := HC l (eV (l.take i)) i; omega
    have S3 := fun B0 B1 B2 rest => HA (g := gL (eV (l.take i)) (.ms 5 v 0 (bX (l.take i) (eV (l.take i))).length) (l.take i)) (q := x.path) (x := .ms 5 v 0 (bX (l.take i) (eV (l.take i))).length) (mq _ _ _).symm (by rw [hq, Pa (hq ▸ KE), Option.getD_some]) B0 B1 B2 rest
    have pc := fun y B0 B1 B2 rest => HB (g := gL (eV (l.take i)) (.ms 5 v 0 (bX (l.take i) (eV (l.take i))).length) (l.take i)) (g' := gL x.path y (l.take i ++ [x])) (q := x.path) (y := y) (mq _ _ _).symm (by rw [hq]; exact KK hq (hq ▸ KE) _ y) (mq _ _ _).symm B0 B1 B2 rest
    have b9 : bX (l.take i ++ [x]) x.path = bX (l.take i) (eV (l.take i)) ++ [V.agg [str x.path, num x.aA.mj, num x.aA.mn, num x.aA.pt, V.slice (x.reqs.map aj), str x.ar, str x.fY, str x.ce, bl x.yk]] := by rw [tc, ← hq]; rfl
    have jb : (bX (l.take i) (eV (l.take i)) ++ [V.agg [str x.path, num x.aA.mj, num x.aA.mn, num x.aA.pt, V.slice (x.reqs.map aj), str x.ar, str x.fY, str x.ce, bl x.yk]]).length = (bX (l.take i ++ [x]) x.path).length := by rw [b9]
    refine bu tt_ok aG [⟨.n, 0, [], [], []⟩, ⟨.b, 0, [], [0], []⟩, ⟨.n, 0, [], [], []⟩, ⟨.b, 0, [], [2], []⟩, ⟨.n, 0, [], [], []⟩, ⟨.r, 0, [], [4], []⟩, ⟨.n, 0, [], [], []⟩, ⟨.r, 0, [], [6], []⟩, ⟨.r, 0, [], [4,5,6,7], []⟩, ⟨.r, 0, [], [], []⟩, ⟨.n, 0, [], [9], []⟩, ⟨.w, 0, [], [4,5,6,7,8,9,10], []⟩, ⟨.w, 1, [], [0,1,2,3,4,5,6,7,8,9,10,11], []⟩] 2 (by kernel_rfl) ?_
    simp only [ae,bY (show 5 < 6 by decide),af,hw,List.getElem?_map,hx,ag,ab,ah,jc,S3,pc,fO,eO,List.length_cons,List.length_nil,Nat.zero_add,List.length_map,go_sem,reduceIte,zA,zB,zC,zD,zE,zF,reduceCtorEq]
    refine AB tt_ok ?_
    simp only [ae,bY (show 5 < 6 by decide),af,hw,List.getElem?_map,hx,ag,ab,ah,jc,S3,pc,fO,eO,List.length_cons,List.length_nil,Nat.zero_add,List.length_map,go_sem,reduceIte,zA,zB,zC,zD,zE,zF,reduceCtorEq]
    refine cd _ ⟨(i + 1, v + 1), ?_, ?_, bj (by omega) (by (simp only [tG,nF,b9,← jb,hw,ae,bY (show 5 < 6 by decide),af,go_sem,reduceIte,zA,zB,zC,zD,zE,zF,reduceCtorEq]))⟩
    ·exact az
    ·dsimp only; omega
   ·simp only [ae,bY (show 5 < 6 by decide),af,hw,List.getElem?_map,hx,ag,ab,ah,jc,List.length_map,go_sem,reduceIte,zA,zB,zC,zD,zE,zF,reduceCtorEq]
    have fO : ck [V.agg [str x.path, num x.aA.mj, num x.aA.mn, num x.aA.pt, V.slice (x.reqs.map aj), str x.ar, str x.fY, str x.ce, bl x.yk]] 0 9 = true := rfl
    have eO : (0 : Nat) + 1 ≤ 34359738368 := by decide
    obtain ⟨T9, B5, XC, S4, Wo⟩ := Hz (l.take i) (eV (l.take i)) v 9 (.box [.slice (l.map ag), .slice I]) (.box [.sc (.map none), .sc (.map none)]) (.map (bJ aL 0 (gK (l.take i ++ [x]))) (gK (l.take i ++ [x])).length) (.map (bJ strVal 0 (gL (eV (l.take i)) (.ms 5 v 0 (bX (l.take i) (eV (l.take i))).length) (l.take i))) (aO (l.take i)).length) (.box [.mp 2, .mp 3]) [.box [str x.path, num x.aA.mj, num x.aA.mn, num x.aA.pt, V.slice (x.reqs.map aj), str x.ar, str x.fY, str x.ce, bl x.yk], .hole]
    refine Ct (k := 3) rfl T9 ?_
    simp only [Wo,CP,List.set_cons_succ,List.set_cons_zero]
    have S3 := fun B0 B1 B2 rest => HA (g := gP (l.take i)) (q := x.path) (x := .sc (.slice none 0 0)) (pQ _).symm (by rw [y3 Wn, Option.getD_none]) B0 B1 B2 rest
    have pc := fun y B0 B1 B2 rest => HB (g := gP (l.take i)) (g' := gL x.path y (l.take i ++ [x])) (q := x.path) (y := y) (pQ _).symm (O9 Wn y) (mq _ _ _).symm B0 B1 B2 rest
    have b9 : bX (l.take i ++ [x]) x.path = [V.agg [str x.path, num x.aA.mj, num x.aA.mn, num x.aA.pt, V.slice (x.reqs.map aj), str x.ar, str x.fY, str x.ce, bl x.yk]] := by rw [tc, nD Wn]; rfl
    have jb : [V.agg [str x.path, num x.aA.mj, num x.aA.mn, num x.aA.pt, V.slice (x.reqs.map aj), str x.ar, str x.fY, str x.ce, bl x.yk]].length = 1 := rfl
    refine bu tt_ok aG [⟨.n, 0, [], [], []⟩, ⟨.b, 0, [], [0], []⟩, ⟨.n, 0, [], [], []⟩, ⟨.b, 0, [], [2], []⟩, ⟨.n, 0, [], [], []⟩, ⟨.r, 0, [], [4], []⟩, ⟨.n, 0, [], [], []⟩, ⟨.r, 0, [], [6], []⟩, ⟨.r, 0, [], [4,5,6,7], []⟩, ⟨.r, 0, [], [], []⟩, ⟨.n, 0, [], [9], []⟩, ⟨.w, 0, [], [4,5,6,7,8,9,10], []⟩, ⟨.w, 1, [], [0,1,2,3,4,5,6,7,8,9,10,11], []⟩] 2 (by kernel_rfl) ?_
    simp only [ae,bY (show 5 < 6 by decide),af,hw,List.getElem?_map,hx,ag,ab,ah,jc,S3,pc,fO,eO,List.length_cons,List.length_nil,Nat.zero_add,List.length_map,go_sem,reduceIte,zA,zB,zC,zD,zE,zF,reduceCtorEq]
    refine Sf 5 8 (by omega) (by omega) (by simp) (by simp) (by simp [bz, bR, ai, dk]) (by simp [pC, vZ, JM, XC, ae, bY, bz, bR, ai, dk, JN, JO]) ?_
    simp only [qz,rv,KN,S4,List.map_cons,List.map_nil,List.set_cons_succ,List.set_cons_zero,List.getD_cons_succ,List.getD_cons_zero]
    simp only [cq,cb,bo,show swp 5 8 8 = 5 from rfl,show swp 5 8 0 = 0 from rfl,show swp 5 8 1 = 1 from rfl,show swp 5 8 2 = 2 from rfl,show swp 5 8 3 = 3 from rfl,show swp 5 8 4 = 4 from rfl,show swp 5 8 6 = 6 from rfl,show swp 5 8 7 = 7 from rfl]
    refine AB tt_ok ?_
    simp only [ae,bY (show 5 < 6 by decide),af,hw,List.getElem?_map,hx,ag,ab,ah,jc,S3,pc,fO,eO,List.length_cons,List.length_nil,Nat.zero_add,List.length_map,go_sem,reduceIte,zA,zB,zC,zD,zE,zF,reduceCtorEq]
    refine cd _ ⟨(i + 1, 0), ?_, ?_, bj (by omega) (by (simp only [tG,nF,b9,jb,hw,ae,bY (show 5 < 6 by decide),af,go_sem,reduceIte,zA,zB,zC,zD,zE,zF,reduceCtorEq]))⟩
    ·exact az
    ·dsimp only; omega
  ·have cH : ¬ i < l.length := by simpa using gV
   have vu : i = l.length := by omega
   subst vu
   rw [List.take_length]
   obtain ⟨T9, B5, XC, S4, Wo⟩ := Hz l (eV l) v 9 (.box [.slice (l.map ag), .slice I]) (.box [.sc (.map none), .sc (.map none)]) (.map (bJ aL 0 (gK l)) (gK l).length) (.map (bJ strVal 0 (gL (eV l) (.ms 5 v 0 (bX l (eV l)).length) l)) (aO l).length) (.box [.mp 2, .mp 3]) []
   simp only [ae,bY (show 5 < 6 by decide),af,List.length_map,go_sem,reduceIte,zA,zB,zC,zD,zE,zF,reduceCtorEq]
   refine Ct (k := 3) rfl T9 ?_
   simp only [Wo,CP,List.set_cons_succ,List.set_cons_zero]
   refine TY tt_ok [9,10,11] ?_
   simp only [ae,bY (show 5 < 6 by decide),af,List.length_map,go_sem,reduceIte,zA,zB,zC,zD,zE,zF,reduceCtorEq]
   exact hK _ _ ⟨hr, Wm.symm⟩
end Go.Proofs.YtnfeacnbgbggfaaGreatDoor
end

section
namespace Go.Proofs.YtnfeacnbgbggfaaGreatDoor
open Go.Eng
variable [aE]
set_option maxHeartbeats 4000000
set_option maxRecDepth 100000
theorem bI (l : List Rq) : ck (l.map aj) 0 2 = true := by
 cases l <;> rfl
end Go.Proofs.YtnfeacnbgbggfaaGreatDoor
end

section
namespace Go.Proofs.YtnfeacnbgbggfaaGreatDoor
open Go.Eng
variable [aE]
set_option maxHeartbeats 4000000
set_option maxRecDepth 100000
def S5 (k : Nat) (l : List Rl) (I : List V) : List aw := [.box [.slice (l.map ag), .slice I], .box [.mp (k + 2), .mp (k + 3)], .map (bJ aL 0 (gK (aq l))) (gK (aq l)).length, .map (bJ strVal 0 (gP (aq l))) (aO (aq l)).length]
theorem lM (hG : aE.g = some 0) (l : List Rl) (I : List V) (hb : w6 l) (M : List aw) : ∃ r_ m_, (fun r m => r = .bP [.agg [.mp (M.length + 2), .mp (M.length + 3)], num (ey l)] ∧ m = M ++ S5 M.length l I) r_ m_ ∧ aT Tryz.prog 46 [bA l I] M r_ m_ := by
 obtain ⟨r, m, ⟨rfl, rfl⟩, h⟩ := y6 hG l I hb
 have h2 := h.ym M (fun j => M.length + j) 0 rfl (by simp [bA, bh, ai, dk]) rfl (by simp [ai, dk, KQ]) (uY l I) (Nat.zero_le _) (fun i B hi => by simp at hi) (fun i j hi => by omega) (fun j _ => by omega)
 refine ⟨_, _, ⟨?_, ?_⟩, by simpa only [cb, bo, bA, bh] using h2⟩
 ·simp only [cb,bo]
 ·unfold mz KQ S5
  simp only [Fa,fX,List.map_cons,List.map_nil,rv,CR]
  simp only [cq,cb,bo]
def qV (l : List Rl) (s : dA) : Option Rl := (aq l).find? fun r => decide (r.key = s)
def nG : Rl := ⟨⟨#[]⟩, ⟨0, 0, 0⟩, [], ⟨#[]⟩, ⟨#[]⟩, ⟨#[]⟩, false⟩
theorem wI (s : dA) : ∀ (l : List Rl), getM s (gK l) = (l.find? fun r => decide (r.key = s)).map ag
 | [] => rfl
 | r :: t => by
  show (if r.key = s then some (ag r) else getM s (gK t)) = _
  rw [List.find?_cons]
  by_cases h : r.key = s
  ·simp [h]
  ·simp [h, wI s t]
theorem KS {l : List Rl} {s : dA} {r : Rl} (h : qV l s = some r) {mem : List aw} {b : Nat} (hm : mem[b]? = some (.map (bJ aL 0 (gK (aq l))) (gK (aq l)).length)) :
  df Tryz.prog mem 79 (.mp b) (mD s) true = some (.bP [ag r, bl true]) := by
 rw [Pb.get s (gK (aq l)) hm te, wI]
 unfold qV at h
 rw [h]; rfl
theorem HD {l : List Rl} {s : dA} (h : qV l s = none) {mem : List aw} {b : Nat} (hm : mem[b]? = some (.map (bJ aL 0 (gK (aq l))) (gK (aq l)).length)) :
  df Tryz.prog mem 79 (.mp b) (mD s) true = some (.bP [.agg [str ⟨#[]⟩, num 0, num 0, num 0, .sc (.slice none 0 0), str ⟨#[]⟩, str ⟨#[]⟩, str ⟨#[]⟩, bl false], bl false]) := by
 rw [Pb.get s (gK (aq l)) hm te, wI]
 unfold qV at h
 rw [h]; rfl
end Go.Proofs.YtnfeacnbgbggfaaGreatDoor
end

section
namespace Go.Proofs.YtnfeacnbgbggfaaGreatDoor
open Go.Eng
open Nat renaming reduceAdd → zA, reduceLT → zB, reduceLeDiff → zC, reduceMul → zD, reduceEqDiff → zE, reduceSub → zF
variable [aE]
set_option maxHeartbeats 4000000
set_option maxRecDepth 100000
theorem pR {s : ByteArray} {a : Nat} {e : Int} (h : a ≤ s.size) : (kP s a e).2.1 ≤ s.size := by
 unfold kP
 split
 ·exact h
 ·cases hr : oM s a with
  | none => exact h
  | some p => exact (Bf hr).2
theorem HE {s t : ByteArray} {a j : Nat} (h : AM s a = some (t, j)) : t.size ≤ s.size ∧ j ≤ s.size := by
 have := Oj h
 omega
theorem pS {s : ByteArray} {a : Nat} {e : Int} (h : a ≤ s.size) : (lH s a e).2.1 ≤ s.size := by
 unfold lH
 split
 ·exact h
 ·cases hr : AM s a with
  | none => exact h
  | some p => exact (HE hr).2
theorem tg (s : ByteArray) (a : Nat) (e : Int) : (lH s a e).1.size ≤ s.size := by
 unfold lH
 split
 ·exact Nat.zero_le _
 ·cases hr : AM s a with
  | none => exact Nat.zero_le _
  | some p => exact (HE hr).1
theorem wJ {m : Int} {s : ByteArray} {a : Nat} {e : Int} (h : a ≤ s.size) : (qG m s a e).2.1 ≤ s.size := by
 unfold qG
 split
 ·exact h
 ·cases hr : oM s a with
  | none => exact h
  | some p =>
   dsimp only
   split
   ·exact (Bf hr).2
   ·exact h
theorem th {m : Int} {s : ByteArray} {a : Nat} {e : Int} (hm : 0 ≤ m) : ((qG m s a e).1 : Int) ≤ m := by
 unfold qG
 split
 ·exact hm
 ·cases hr : oM s a with
  | none => exact hm
  | some p =>
   dsimp only
   split
   ·assumption
   ·exact hm
def zy (s : ByteArray) : Nat → Nat × Int → List bF × Nat × Int
 | 0, st => ([], st)
 | n + 1, st => if st.2 ≠ 0 then ([], st) else
   (⟨((kP s st.1 st.2).1 : Int), ((kP s (kP s st.1 st.2).2.1 (kP s st.1 st.2).2.2).1 : Int)⟩ :: (zy s n (kP s (kP s st.1 st.2).2.1 (kP s st.1 st.2).2.2).2).1, (zy s n (kP s (kP s st.1 st.2).2.1 (kP s st.1 st.2).2.2).2).2)
def nH (s : ByteArray) (st : Nat × Int) : Rq × Nat × Int :=
 let t := lH s st.1 st.2
 let c := qG (s.size : Int) s t.2.1 t.2.2
 let r := zy s c.1 c.2
 (⟨t.1, r.1⟩, r.2)
def zH (s : ByteArray) : Nat → Nat × Int → List Rq × Nat × Int
 | 0, st => ([], st)
 | n + 1, st => ((nH s st).1 :: (zH s n (nH s st).2).1, (zH s n (nH s st).2).2)
theorem HF (s : ByteArray) : ∀ (n : Nat) (st : Nat × Int), st.1 ≤ s.size → (zy s n st).2.1 ≤ s.size ∧ (zy s n st).1.length ≤ n
 | 0, st, h => ⟨h, Nat.le_refl _⟩
 | n + 1, st, h => by
  rw [zy]
  split
  ·exact ⟨h, Nat.zero_le _⟩
  ·have := HF s n _ (pR (e := (kP s st.1 st.2).2.2) (pR (e := st.2) h))
   exact ⟨this.1, by rw [List.length_cons]; omega⟩
theorem KU (s : ByteArray) (st : Nat × Int) (h : st.1 ≤ s.size) : (nH s st).2.1 ≤ s.size ∧ (nH s st).1.path.size ≤ s.size ∧ (nH s st).1.set.length ≤ s.size := by
 unfold nH
 dsimp only
 have h1 := pS (e := st.2) h
 have h2 := wJ (m := (s.size : Int)) (e := (lH s st.1 st.2).2.2) h1
 have h3 := HF s (qG (s.size : Int) s (lH s st.1 st.2).2.1 (lH s st.1 st.2).2.2).1 _ h2
 have h4 := th (m := (s.size : Int)) (s := s) (a := (lH s st.1 st.2).2.1) (e := (lH s st.1 st.2).2.2) (by omega)
 exact ⟨h3.1, tg _ _ _, by omega⟩
theorem HG (s : ByteArray) : ∀ (n : Nat) (st : Nat × Int), st.1 ≤ s.size → (zH s n st).2.1 ≤ s.size ∧ (zH s n st).1.length = n ∧ ∀ q ∈ (zH s n st).1, q.path.size ≤ s.size ∧ q.set.length ≤ s.size
 | 0, st, h => ⟨h, rfl, fun q hq => by simp [zH] at hq⟩
 | n + 1, st, h => by
  have h1 := KU s st h
  have h2 := HG s n _ h1.1
  rw [zH]
  refine ⟨h2.1, by rw [List.length_cons, h2.2.1], fun q hq => ?_⟩
  rcases List.mem_cons.1 hq with rfl | hq
  ·exact h1.2
  ·exact h2.2.2 q hq
theorem wK (s : ByteArray) : ∀ (n : Nat) (st : Nat × Int), zH s (n + 1) st = ((zH s n st).1 ++ [(nH s (zH s n st).2).1], (nH s (zH s n st).2).2)
 | 0, st => rfl
 | n + 1, st => by
  rw [zH, wK s n]
  rfl
def wL (s : ByteArray) : Rl × Nat × Nat × Int :=
 let p := lH s 0 0
 let mn := kP s p.2.1 p.2.2
 let pt := kP s mn.2.1 mn.2.2
 let y := qG 1 s pt.2.1 pt.2.2
 let ar := lH s y.2.1 y.2.2
 let fY := lH s ar.2.1 ar.2.2
 let ce := lH s fY.2.1 fY.2.2
 let n := qG 16 s ce.2.1 ce.2.2
 (⟨p.1, ⟨bN p.1, (mn.1 : Int), (pt.1 : Int)⟩, [], ar.1, fY.1, ce.1, decide ((y.1 : Int) = 1)⟩, n)
def y7 (s : ByteArray) : Rl × Nat × Int :=
 let h := wL s
 let q := zH s h.2.1 h.2.2
 ({ h.1 with reqs := q.1 }, q.2)
def nI (s : ByteArray) : Bool := decide (bC (lH s 0 0).1 = 0) && decide (pK s (y7 s).2.1 (y7 s).2.2 = 0) && decide (ey [(y7 s).1] = 0)
def lN (s : ByteArray) : V := if nI s = true then .bP [ag (y7 s).1, num 0] else .bP [ag nG, num 9]
theorem KV (hG : aE.g = some 0) (s : ByteArray) (hs : s.size ≤ 1048576) : ∃ r_, (fun w => w = lN s) r_ ∧ aQ Tryz.prog 19 [str s] r_ := by
 refine dZ tt_ok [17,19] 91 [.cell 2 40, .tmp 3] (fn := Tryz.f19) Tryz.func19 rfl Tryz.call19 ⟨rfl, rfl, by simp⟩ fun K hK => ?_
 have fL : Tryz.prog.underlying 9 = some .string := by kernel_rfl
 have sl : ∀ (a : ByteArray) (ty : TypeId), cI Tryz.prog (Builtin.len_ #[9] ty) [.sc (.string a)] = some (num a.size) := fun a ty => ct (P := Tryz.prog) (tt := tt) (T := 9) a fL ty
 have gE : s.size ≤ 1073741824 := by omega
 have bt : ∀ (mem : List aw) (ks : List (Nat × Nat)) (n : Int), cK mem ks (num n) = mem := fun _ _ _ => rfl
 simp only [sl,List.length_map,bt,go_sem,reduceIte,zA,zB,zC,zD,zE,zF,reduceCtorEq]
 refine cW (wE s _) ?_
 rintro _ _ ⟨rfl, rfl⟩
 try simp only [Fa,List.length_cons,List.length_nil,zA]
 simp only [sl,List.length_map,bt,go_sem,reduceIte,zA,zB,zC,zD,zE,zF,reduceCtorEq]
 refine cW (lI s gE 0 0 (Nat.zero_le _) _ 1 rfl) ?_
 rintro _ _ ⟨rfl, rfl⟩
 obtain ⟨x1, rK⟩ : ∃ x, x = lH s 0 0 := ⟨_, rfl⟩
 rw [← rK]
 have LP : x1.2.1 ≤ s.size := rK ▸ pS (Nat.zero_le _)
 have Fo : x1.1.size ≤ s.size := rK ▸ tg _ _ _
 try simp only [List.set_cons_zero,List.set_cons_succ]
 simp only [sl,List.length_map,bt,go_sem,reduceIte,zA,zB,zC,zD,zE,zF,reduceCtorEq]
 refine cF (rn hG x1.1 (by omega)) ?_
 rintro _ ⟨nm, rfl⟩
 simp only [sl,List.length_map,bt,go_sem,reduceIte,zA,zB,zC,zD,zE,zF,reduceCtorEq]
 refine aN (fun iI => ?_) (fun iI => ?_)
 ·have hR : lN s = .bP [ag nG, num 9] := by
   unfold lN nI
   rw [← rK, if_neg (by have : ¬ bC x1.1 = 0 := (by simpa using iI); simp [this])]
  simp only [sl,List.length_map,bt,go_sem,reduceIte,zA,zB,zC,zD,zE,zF,reduceCtorEq]
  exact hK _ (hR.symm)
 ·have Zn : bC x1.1 = 0 := by simpa using iI
  simp only [sl,List.length_map,bt,go_sem,reduceIte,zA,zB,zC,zD,zE,zF,reduceCtorEq]
  refine cW (s8 s gE x1.2.1 x1.2.2 LP _ 1 rfl) ?_
  rintro _ _ ⟨rfl, rfl⟩
  obtain ⟨x2, wZ⟩ : ∃ x, x = kP s x1.2.1 x1.2.2 := ⟨_, rfl⟩
  rw [← wZ]
  have zw : x2.2.1 ≤ s.size := wZ ▸ pR LP
  try simp only [List.set_cons_zero,List.set_cons_succ]
  simp only [sl,List.length_map,bt,go_sem,reduceIte,zA,zB,zC,zD,zE,zF,reduceCtorEq]
  refine cW (s8 s gE x2.2.1 x2.2.2 zw _ 1 rfl) ?_
  rintro _ _ ⟨rfl, rfl⟩
  obtain ⟨x3, I8⟩ : ∃ x, x = kP s x2.2.1 x2.2.2 := ⟨_, rfl⟩
  rw [← I8]
  have Bl : x3.2.1 ≤ s.size := I8 ▸ pR zw
  try simp only [List.set_cons_zero,List.set_cons_succ]
  simp only [sl,List.length_map,bt,go_sem,reduceIte,zA,zB,zC,zD,zE,zF,reduceCtorEq]
  refine cW (pL s gE 1 x3.2.1 x3.2.2 Bl _ 1 rfl) ?_
  rintro _ _ ⟨rfl, rfl⟩
  obtain ⟨x4, Fu⟩ : ∃ x, x = qG 1 s x3.2.1 x3.2.2 := ⟨_, rfl⟩
  rw [← Fu]
  have XD : x4.2.1 ≤ s.size := Fu ▸ wJ Bl
  try simp only [List.set_cons_zero,List.set_cons_succ]
  simp only [sl,List.length_map,bt,go_sem,reduceIte,zA,zB,zC,zD,zE,zF,reduceCtorEq]
  refine cW (lI s gE x4.2.1 x4.2.2 XD _ 1 rfl) ?_
  rintro _ _ ⟨rfl, rfl⟩
  obtain ⟨x5, Wp⟩ : ∃ x, x = lH s x4.2.1 x4.2.2 := ⟨_, rfl⟩
  rw [← Wp]
  have XE : x5.2.1 ≤ s.size := Wp ▸ pS XD
  try simp only [List.set_cons_zero,List.set_cons_succ]
  simp only [sl,List.length_map,bt,go_sem,reduceIte,zA,zB,zC,zD,zE,zF,reduceCtorEq]
  refine cW (lI s gE x5.2.1 x5.2.2 XE _ 1 rfl) ?_
  rintro _ _ ⟨rfl, rfl⟩
  obtain ⟨x6, Wq⟩ : ∃ x, x = lH s x5.2.1 x5.2.2 := ⟨_, rfl⟩
  rw [← Wq]
  have XF : x6.2.1 ≤ s.size := Wq ▸ pS XE
  try simp only [List.set_cons_zero,List.set_cons_succ]
  simp only [sl,List.length_map,bt,go_sem,reduceIte,zA,zB,zC,zD,zE,zF,reduceCtorEq]
  refine cW (lI s gE x6.2.1 x6.2.2 XF _ 1 rfl) ?_
  rintro _ _ ⟨rfl, rfl⟩
  obtain ⟨x7, Wr⟩ : ∃ x, x = lH s x6.2.1 x6.2.2 := ⟨_, rfl⟩
  rw [← Wr]
  have XG : x7.2.1 ≤ s.size := Wr ▸ pS XF
  try simp only [List.set_cons_zero,List.set_cons_succ]
  simp only [sl,List.length_map,bt,go_sem,reduceIte,zA,zB,zC,zD,zE,zF,reduceCtorEq]
  refine cW (pL s gE 16 x7.2.1 x7.2.2 XG _ 1 rfl) ?_
  rintro _ _ ⟨rfl, rfl⟩
  obtain ⟨x8, Ua⟩ : ∃ x, x = qG 16 s x7.2.1 x7.2.2 := ⟨_, rfl⟩
  rw [← Ua]
  have XH : x8.2.1 ≤ s.size := Ua ▸ wJ XG
  have hm8 : (x8.1 : Int) ≤ 16 := Ua ▸ th (by decide)
  try simp only [List.set_cons_zero,List.set_cons_succ]
  simp only [sl,List.length_map,bt,go_sem,reduceIte,zA,zB,zC,zD,zE,zF,reduceCtorEq]
  obtain ⟨h, hh⟩ : ∃ x : Rl, x = ⟨x1.1, ⟨bN x1.1, (x2.1 : Int), (x3.1 : Int)⟩, [], x5.1, x6.1, x7.1, decide ((x4.1 : Int) = 1)⟩ := ⟨_, rfl⟩
  obtain ⟨N, hN⟩ : ∃ x, x = x8.1 := ⟨_, rfl⟩
  have Ws : wL s = (h, N, x8.2) := by rw [hh, hN, Ua, Wr, Wq, Wp, Fu, I8, wZ, rK]; rfl
  have e1 : x1.1 = h.path := by rw [hh]
  have e2 : bN x1.1 = h.aA.mj := by rw [hh]
  have e3 : (x2.1 : Int) = h.aA.mn := by rw [hh]
  have e4 : (x3.1 : Int) = h.aA.pt := by rw [hh]
  have e5 : x5.1 = h.ar := by rw [hh]
  have e6 : x6.1 = h.fY := by rw [hh]
  have e7 : x7.1 = h.ce := by rw [hh]
  have e8 : decide ((x4.1 : Int) = 1) = h.yk := by rw [hh]
  rw [e1] at Fo
  simp only [e2,e3,e4,e5,e6,e7,e8,← hN]
  rw [e1]
  have Zo : N ≤ 16 := by omega
  have hhr : h.reqs = [] := by rw [hh]
  refine Cs 2 4 0 2 rfl rfl ?_
  refine cY tt_ok [17,19] (fun b : Nat × List Rq × Nat × Int => [(0, str s), (2, .ptr 0 0), (4, .ptr 1 0), (5, .ptr 2 0), (46, num N), (47, num b.1)]) (fun b : Nat × List Rq × Nat × Int => [.box [str ⟨#[]⟩, num 0, num 0, num 0, .sc (.slice none 0 0), str ⟨#[]⟩, str ⟨#[]⟩, str ⟨#[]⟩, bl false], .box [str s, num b.2.2.1, num b.2.2.2], .box [str h.path, num h.aA.mj, num h.aA.mn, num h.aA.pt, .ms 3 b.1 0 b.1, str h.ar, str h.fY, str h.ce, bl h.yk], .rows b.1 2 (b.2.1.map aj)]) (fun b => N - b.1) (fun b => b.1 ≤ N ∧ b.2 = zH s b.1 x8.2 ∧ b.2.2.1 ≤ s.size ∧ b.2.1.length = b.1) ((0, [], x8.2)) 4 (bj (by omega) (by simp only [sl,List.length_map,bt,List.map_nil,Int.cast_ofNat_Int,go_sem,reduceIte,zA,zB,zC,zD,zE,zF,reduceCtorEq] <;> rfl)) (⟨Nat.zero_le _, rfl, XH, rfl⟩) ?_
  rintro ⟨i, Q, a, e⟩ ⟨hi, hq, LH, QB⟩
  try dsimp only at hi hq LH QB ⊢
  intro Z1 cd
  simp only [sl,List.length_map,bt,go_sem,reduceIte,zA,zB,zC,zD,zE,zF,reduceCtorEq]
  refine aN (fun Pe => ?_) (fun Pe => ?_)
  ·have az : i < N := by simpa using Pe
   have hw := ay i (by omega)
   simp only [hw,sl,List.length_map,bt,go_sem,reduceIte,zA,zB,zC,zD,zE,zF,reduceCtorEq]
   refine cW (lI s gE a e LH _ 1 rfl) ?_
   rintro _ _ ⟨rfl, rfl⟩
   obtain ⟨y1, Of⟩ : ∃ x, x = lH s a e := ⟨_, rfl⟩
   rw [← Of]
   have fC : y1.2.1 ≤ s.size := Of ▸ pS LH
   have hzk : y1.1.size ≤ s.size := Of ▸ tg _ _ _
   try simp only [List.set_cons_zero,List.set_cons_succ]
   simp only [hw,sl,List.length_map,bt,go_sem,reduceIte,zA,zB,zC,zD,zE,zF,reduceCtorEq]
   refine cW (pL s gE (s.size : Int) y1.2.1 y1.2.2 fC _ 1 rfl) ?_
   rintro _ _ ⟨rfl, rfl⟩
   obtain ⟨y2, Og⟩ : ∃ x, x = qG (s.size : Int) s y1.2.1 y1.2.2 := ⟨_, rfl⟩
   rw [← Og]
   have jl : y2.2.1 ≤ s.size := Og ▸ wJ fC
   have Nu : (y2.1 : Int) ≤ (s.size : Int) := Og ▸ th (by omega)
   obtain ⟨C, hC⟩ : ∃ x, x = y2.1 := ⟨_, rfl⟩
   rw [← hC]
   obtain ⟨T, hT⟩ : ∃ x, x = y1.1 := ⟨_, rfl⟩
   rw [← hT]
   try simp only [List.set_cons_zero,List.set_cons_succ]
   simp only [hw,sl,List.length_map,bt,go_sem,reduceIte,zA,zB,zC,zD,zE,zF,reduceCtorEq]
   refine Cs 4 1 0 2 rfl rfl ?_
   refine cY tt_ok [17,19] (fun d : Nat × List bF × Nat × Int => [(0, str s), (2, .ptr 0 0), (4, .ptr 1 0), (5, .ptr 2 0), (9, .ptr 4 0), (46, num N), (47, num i), (55, num C), (56, num d.1)]) (fun d : Nat × List bF × Nat × Int => [.box [str ⟨#[]⟩, num 0, num 0, num 0, .sc (.slice none 0 0), str ⟨#[]⟩, str ⟨#[]⟩, str ⟨#[]⟩, bl false], .box [str s, num d.2.2.1, num d.2.2.2], .box [str h.path, num h.aA.mj, num h.aA.mn, num h.aA.pt, .ms 3 i 0 i, str h.ar, str h.fY, str h.ce, bl h.yk], .rows i 2 (Q.map aj), .box [str T, .ms 5 d.1 0 d.1], .rows d.1 2 (d.2.1.map ak)]) (fun d => C - d.1) (fun d => d.1 ≤ C ∧ zy s C y2.2 = (d.2.1 ++ (zy s (C - d.1) d.2.2).1, (zy s (C - d.1) d.2.2).2) ∧ d.2.2.1 ≤ s.size ∧ d.2.1.length = d.1) ((0, [], y2.2)) 6 (bj (by omega) (by simp only [hw,sl,List.length_map,bt,List.map_nil,Int.cast_ofNat_Int,go_sem,reduceIte,zA,zB,zC,zD,zE,zF,reduceCtorEq] <;> rfl)) (⟨Nat.zero_le _, rfl, jl, rfl⟩) ?_
   rintro ⟨j, L, a2, e2⟩ ⟨hj, tE, HH, Ed⟩
   try dsimp only at hj tE HH Ed ⊢
   intro Z2 nw
   simp only [hw,sl,List.length_map,bt,go_sem,reduceIte,zA,zB,zC,zD,zE,zF,reduceCtorEq]
   refine aN (fun qW => ?_) (fun qW => ?_)
   ·have Wt : j < C := by simpa using qW
    have KW := ay j (by omega)
    simp only [hw,KW,sl,List.length_map,bt,go_sem,reduceIte,zA,zB,zC,zD,zE,zF,reduceCtorEq]
    refine cS (En s gE a2 e2 _ 1 rfl) ?_
    rintro _ rfl
    simp only [hw,KW,sl,List.length_map,bt,go_sem,reduceIte,zA,zB,zC,zD,zE,zF,reduceCtorEq]
    refine aN (fun Pf => ?_) (fun Pf => ?_)
    ·have T0 : e2 ≠ 0 := by simpa using Pf
     simp only [hw,KW,sl,List.length_map,bt,go_sem,reduceIte,zA,zB,zC,zD,zE,zF,reduceCtorEq]
     refine pE (k := 4) (vs' := [str T, .slice (L.map ak)]) rfl (by simp [cy, fi, bU, Ed, jT, List.take_of_length_le]) ?_
     have ti : ∀ (x : ByteArray) (y : List V), ck [V.agg [str x, .slice y]] 0 2 = true := fun x y => rfl
     have Pg : i + 1 ≤ 34359738368 := by omega
     have Wu : (Q.map aj).length = i := by rw [List.length_map, QB]
     refine AB tt_ok ?_
     simp only [hw,KW,ti,Pg,Wu,List.length_append,List.length_cons,List.length_nil,Nat.zero_add,sl,List.length_map,bt,go_sem,reduceIte,zA,zB,zC,zD,zE,zF,reduceCtorEq]
     have w8 : nH s (a, e) = (⟨T, L⟩, a2, e2) := by
      unfold nH
      dsimp only
      rw [← Of, ← Og, ← hC, ← hT]
      have hb := tE
      have kr : zy s (C - j) (a2, e2) = ([], a2, e2) := by first | (rw [show C - j = 0 by omega]; rfl) | (obtain ⟨k, hk⟩ : ∃ k, C - j = k + 1 := ⟨C - j - 1, by omega⟩; rw [hk, zy, if_pos T0])
      rw [kr] at hb
      simp only [List.append_nil] at hb
      rw [hb]
     refine cd _ ⟨(i + 1, Q ++ [⟨T, L⟩], a2, e2), ?_, ?_, bj (by omega) (by (simp only [hw,List.map_append,List.map_cons,List.map_nil,aj,al,go_sem,reduceIte,zA,zB,zC,zD,zE,zF,reduceCtorEq]))⟩
     ·exact ⟨az, by dsimp only; rw [wK, ← hq]; dsimp only; rw [w8], HH, by dsimp only; rw [List.length_append, QB]; rfl⟩
     ·dsimp only; omega
    ·have IL : e2 = 0 := by simpa using Pf
     have fO : ∀ x y : Int, ck [V.agg [num x, num y]] 0 2 = true := fun x y => rfl
     have KX : j + 1 ≤ 34359738368 := by omega
     have Ub : (L.map ak).length = j := by rw [List.length_map, Ed]
     simp only [hw,KW,fO,KX,Ub,List.length_append,List.length_cons,List.length_nil,Nat.zero_add,sl,List.length_map,bt,go_sem,reduceIte,zA,zB,zC,zD,zE,zF,reduceCtorEq]
     refine bu tt_ok aG [⟨.n, 0, [], [], []⟩, ⟨.r, 0, [], [0], [1]⟩, ⟨.n, 0, [], [], []⟩, ⟨.e, 1, [], [2], []⟩, ⟨.n, 0, [], [], []⟩, ⟨.e, 1, [], [2,3,4], []⟩, ⟨.n, 0, [], [2,3,4,5], []⟩, ⟨.n, 0, [], [2,3,4,5,6], []⟩, ⟨.w, 0, [], [0,1,2,3,4,5,6,7], []⟩, ⟨.n, 0, [], [0,1,2,3,4,5,6,7,8], []⟩, ⟨.w, 1, [], [0,1,2,3,4,5,6,7,8,9], []⟩] 2 (by kernel_rfl) ?_
     simp only [hw,KW,fO,KX,Ub,List.length_append,List.length_cons,List.length_nil,Nat.zero_add,sl,List.length_map,bt,go_sem,reduceIte,zA,zB,zC,zD,zE,zF,reduceCtorEq]
     refine Xi rfl rfl (s9 s gE a2 e2 HH 1) ?_
     rintro _ _ ⟨rfl, rfl⟩
     obtain ⟨z1, Fo⟩ : ∃ x, x = kP s a2 e2 := ⟨_, rfl⟩
     rw [← Fo]
     have XI : z1.2.1 ≤ s.size := Fo ▸ pR HH
     try simp only [List.set_cons_zero,List.set_cons_succ]
     simp only [hw,KW,fO,KX,Ub,List.length_append,List.length_cons,List.length_nil,Nat.zero_add,sl,List.length_map,bt,go_sem,reduceIte,zA,zB,zC,zD,zE,zF,reduceCtorEq]
     refine Xi rfl rfl (s9 s gE z1.2.1 z1.2.2 XI 1) ?_
     rintro _ _ ⟨rfl, rfl⟩
     obtain ⟨z2, Ev⟩ : ∃ x, x = kP s z1.2.1 z1.2.2 := ⟨_, rfl⟩
     rw [← Ev]
     have Zp : z2.2.1 ≤ s.size := Ev ▸ pR XI
     try simp only [List.set_cons_zero,List.set_cons_succ]
     simp only [hw,KW,fO,KX,Ub,List.length_append,List.length_cons,List.length_nil,Nat.zero_add,sl,List.length_map,bt,go_sem,reduceIte,zA,zB,zC,zD,zE,zF,reduceCtorEq]
     refine nw _ ⟨(j + 1, L ++ [⟨(z1.1 : Int), (z2.1 : Int)⟩], z2.2), ?_, ?_, bj (by omega) (by (simp only [KW,List.map_append,List.map_cons,List.map_nil,ak,go_sem,reduceIte,zA,zB,zC,zD,zE,zF,reduceCtorEq]))⟩
     ·refine ⟨Wt, ?_, Zp, by dsimp only; rw [List.length_append, Ed]; rfl⟩
      dsimp only
      rw [tE, show C - j = C - (j + 1) + 1 by omega, zy, if_neg (by simp [IL])]
      dsimp only
      rw [← Fo, ← Ev, List.append_assoc]; rfl
     ·dsimp only; omega
   ·have Zq : ¬ j < C := by simpa using qW
    simp only [hw,sl,List.length_map,bt,go_sem,reduceIte,zA,zB,zC,zD,zE,zF,reduceCtorEq]
    refine pE (k := 4) (vs' := [str T, .slice (L.map ak)]) rfl (by simp [cy, fi, bU, Ed, jT, List.take_of_length_le]) ?_
    have ti : ∀ (x : ByteArray) (y : List V), ck [V.agg [str x, .slice y]] 0 2 = true := fun x y => rfl
    have Pg : i + 1 ≤ 34359738368 := by omega
    have Wu : (Q.map aj).length = i := by rw [List.length_map, QB]
    refine AB tt_ok ?_
    simp only [hw,ti,Pg,Wu,List.length_append,List.length_cons,List.length_nil,Nat.zero_add,sl,List.length_map,bt,go_sem,reduceIte,zA,zB,zC,zD,zE,zF,reduceCtorEq]
    have w8 : nH s (a, e) = (⟨T, L⟩, a2, e2) := by
     unfold nH
     dsimp only
     rw [← Of, ← Og, ← hC, ← hT]
     have hb := tE
     have kr : zy s (C - j) (a2, e2) = ([], a2, e2) := by first | (rw [show C - j = 0 by omega]; rfl) | (obtain ⟨k, hk⟩ : ∃ k, C - j = k + 1 := ⟨C - j - 1, by omega⟩; rw [hk, zy, if_pos T0])
     rw [kr] at hb
     simp only [List.append_nil] at hb
     rw [hb]
    refine cd _ ⟨(i + 1, Q ++ [⟨T, L⟩], a2, e2), ?_, ?_, bj (by omega) (by (simp only [hw,List.map_append,List.map_cons,List.map_nil,aj,al,go_sem,reduceIte,zA,zB,zC,zD,zE,zF,reduceCtorEq]))⟩
    ·exact ⟨az, by dsimp only; rw [wK, ← hq]; dsimp only; rw [w8], HH, by dsimp only; rw [List.length_append, QB]; rfl⟩
    ·dsimp only; omega
  ·have cH : ¬ i < N := by simpa using Pe
   obtain rfl : i = N := by omega
   have jb : y7 s = ({ h with reqs := Q }, a, e) := by unfold y7; rw [Ws]; dsimp only; rw [← hq]
   simp only [sl,List.length_map,bt,go_sem,reduceIte,zA,zB,zC,zD,zE,zF,reduceCtorEq]
   refine pE (k := 2) (vs' := [str h.path, num h.aA.mj, num h.aA.mn, num h.aA.pt, .slice (Q.map aj), str h.ar, str h.fY, str h.ce, bl h.yk]) rfl (by simp [cy, fi, bU, QB, jT, List.take_of_length_le]) ?_
   have O4 : w6 [{ h with reqs := Q }] := by
    refine ⟨by simp, fun r hr => ?_⟩
    rw [List.mem_singleton] at hr; subst hr
    have h2 := HG s i x8.2 XH
    rw [← hq] at h2
    refine ⟨by dsimp only; omega, by dsimp only; omega, fun q KE => ?_⟩
    have := h2.2.2 q KE
    exact ⟨by omega, by omega⟩
   refine TY tt_ok [17,19] ?_
   simp only [sl,List.length_map,bt,go_sem,reduceIte,zA,zB,zC,zD,zE,zF,reduceCtorEq]
   refine cS (Kz s gE a e _ 1 rfl) ?_
   rintro _ rfl
   simp only [sl,List.length_map,bt,go_sem,reduceIte,zA,zB,zC,zD,zE,zF,reduceCtorEq]
   refine aN (fun Bm => ?_) (fun Bm => ?_)
   ·have bL : pK s a e ≠ 0 := by simpa using Bm
    have hR : lN s = .bP [ag nG, num 9] := by unfold lN nI; rw [jb, if_neg (by simp [bL])]
    simp only [sl,List.length_map,bt,go_sem,reduceIte,zA,zB,zC,zD,zE,zF,reduceCtorEq]
    exact hK _ (hR.symm)
   ·have Zr : pK s a e = 0 := by simpa using Bm
    simp only [sl,List.length_map,bt,go_sem,reduceIte,zA,zB,zC,zD,zE,zF,reduceCtorEq]
    refine cF (by have hh := uU hG [{ h with reqs := Q }] O4 []; simp only [bh,List.map_cons,List.map_nil,ag,ab,ah] at hh; exact hh) ?_
    rintro _ rfl
    simp only [sl,List.length_map,bt,go_sem,reduceIte,zA,zB,zC,zD,zE,zF,reduceCtorEq]
    refine aN (fun Ph => ?_) (fun Ph => ?_)
    ·have hR : lN s = .bP [ag nG, num 9] := by
      first
      | exact hR
      | (unfold lN nI; rw [jb, if_neg (by have : ¬ ey [{ h with reqs := Q }] = 0 := (by simpa using Ph); simp [this])])
     simp only [sl,List.length_map,bt,go_sem,reduceIte,zA,zB,zC,zD,zE,zF,reduceCtorEq]
     exact hK _ (hR.symm)
    ·have hR : lN s = .bP [ag { h with reqs := Q }, num 0] := by
      unfold lN nI
      rw [jb, ← rK, if_pos (by have : ey [{ h with reqs := Q }] = 0 := (by simpa using Ph); simp [this, Zn, Zr])]
     simp only [sl,List.length_map,bt,go_sem,reduceIte,zA,zB,zC,zD,zE,zF,reduceCtorEq]
     exact hK _ (hR.symm)
end Go.Proofs.YtnfeacnbgbggfaaGreatDoor
end

section
namespace Go.Proofs.YtnfeacnbgbggfaaGreatDoor
open Go.Eng
variable [aE]
theorem CS (n : Nat) : mC (n : Int) = uv n := by unfold mC; rw [Int.toNat_natCast]
theorem tj {s t : ByteArray} {a : Nat} {rest : List UInt8} (hn : t.size < 9223372036854775808) (h : from_ s a = eT t ++ rest) : ∃ j, lH s a 0 = (t, j, 0) ∧ from_ s j = rest := by
 obtain ⟨h1, h2⟩ := Oi hn h
 exact ⟨_, by unfold lH; rw [if_neg (by simp), h1], h2⟩
theorem wM {s : ByteArray} {a n : Nat} {rest : List UInt8} (hn : n < 9223372036854775808) (h : from_ s a = uv n ++ rest) : ∃ j, kP s a 0 = (n, j, 0) ∧ from_ s j = rest := by
 obtain ⟨h1, h2⟩ := AN hn h
 exact ⟨_, by unfold kP; rw [if_neg (by simp), h1], h2⟩
theorem Bn {m : Int} {s : ByteArray} {a n : Nat} {rest : List UInt8} (hn : n < 9223372036854775808) (hm : (n : Int) ≤ m) (h : from_ s a = uv n ++ rest) : ∃ j, qG m s a 0 = (n, j, 0) ∧ from_ s j = rest := by
 obtain ⟨h1, h2⟩ := AN hn h
 exact ⟨_, by unfold qG; rw [if_neg (by simp), h1]; exact if_pos hm, h2⟩
theorem tl {n : Int} (h0 : 0 ≤ n) : ∃ k : Nat, n = k ∧ mC n = uv k := ⟨n.toNat, by omega, rfl⟩
theorem HI {s : ByteArray} : ∀ (l : List bF) (a : Nat) (rest : List UInt8), (∀ x ∈ l, nA x) → from_ s a = l.flatMap Er ++ rest → ∃ j, zy s l.length (a, 0) = (l, j, 0) ∧ from_ s j = rest
 | [], a, rest, _, h => ⟨a, rfl, h⟩
 | x :: t, a, rest, hx, h => by
  have hb := hx x (by simp)
  unfold nA at hb
  obtain ⟨k1, e1, u1⟩ := tl (n := x.lo) (by omega)
  obtain ⟨k2, e2, u2⟩ := tl (n := x.hi) (by omega)
  rw [List.flatMap_cons, Er, u1, u2, List.append_assoc, List.append_assoc] at h
  obtain ⟨j1, h1, Fc⟩ := wM (by omega) h
  obtain ⟨j2, h2, Qz⟩ := wM (by omega) Fc
  obtain ⟨j, h3, h4⟩ := HI t j2 rest (fun y hy => hx y (by simp [hy])) Qz
  refine ⟨j, ?_, h4⟩
  rw [List.length_cons, zy, if_neg (by simp)]
  simp only [h1,h2,h3,Prod.mk.injEq,and_true,List.cons.injEq]
  exact bF.ext' e1.symm e2.symm
theorem KY {s : ByteArray} {q : Rq} {a : Nat} {rest : List UInt8} (hw : Qw q) (hp : q.path.size ≤ 1048576) (hl : q.set.length ≤ s.size) (hs : s.size ≤ 1048576) (h : from_ s a = uW q ++ rest) : ∃ j, nH s (a, 0) = (q, j, 0) ∧ from_ s j = rest := by
 unfold uW at h
 rw [CS, List.append_assoc, List.append_assoc] at h
 obtain ⟨j1, h1, Fc⟩ := tj (by omega) h
 obtain ⟨j2, h2, Qz⟩ := Bn (m := (s.size : Int)) (by omega) (by omega) Fc
 obtain ⟨j, h3, h4⟩ := HI q.set j2 rest (kz hw) Qz
 refine ⟨j, ?_, h4⟩
 unfold nH
 simp only [h1,h2,h3]
theorem KZ (q : Rq) : q.set.length ≤ (uW q).length := by
 unfold uW
 rw [List.length_append]
 have : ∀ l : List bF, l.length ≤ (l.flatMap Er).length := by
  intro l
  induction l with
  | nil => simp
  | cons x t ih =>
   rw [List.flatMap_cons, List.length_append, List.length_cons]
   have h1 : 0 < (Er x).length := by unfold Er mC; rw [List.length_append]; have := OZ x.lo.toNat; omega
   omega
 have := this q.set
 omega
theorem HJ {s : ByteArray} (hs : s.size ≤ 1048576) : ∀ (l : List Rq) (a : Nat) (rest : List UInt8), (∀ q ∈ l, Qw q ∧ q.path.size ≤ 1048576) → from_ s a = l.flatMap uW ++ rest → ∃ j, zH s l.length (a, 0) = (l, j, 0) ∧ from_ s j = rest
 | [], a, rest, _, h => ⟨a, rfl, h⟩
 | q :: t, a, rest, hq, h => by
  have h0 := hq q (by simp)
  rw [List.flatMap_cons, List.append_assoc] at h
  have hlen : q.set.length ≤ s.size := by
   have h1 := congrArg List.length h
   rw [iV, List.length_append] at h1
   have := KZ q
   omega
  obtain ⟨j1, h1, Fc⟩ := KY h0.1 h0.2 hlen hs h
  obtain ⟨j, h3, h4⟩ := HJ hs t j1 rest (fun y hy => hq y (by simp [hy])) Fc
  refine ⟨j, ?_, h4⟩
  rw [List.length_cons, zH]
  simp only [h1,h3]
theorem Ew (s : ByteArray) : from_ s 0 = bg s := by unfold from_ bg; rw [List.drop_zero]
theorem Ey {s : ByteArray} {j : Nat} (h : from_ s j = []) : pK s j 0 = 0 := by
 have h1 := congrArg List.length h
 rw [iV] at h1
 unfold pK
 rw [if_neg]
 intro h2
 simp at h1
 omega
theorem HK {r : Rl} (h : ey [r] = 0) (hb : IS r) (hs : (pM r).length ≤ 1048576) : lN (bs (pM r)) = .bP [ag r, num 0] := by
 have hw := Hs (Bh r ▸ h)
 have hv := ru hw.aA
 have jL : (bs (pM r)).size ≤ 1048576 := by rw [oR]; exact hs
 have h0 : from_ (bs (pM r)) 0 = pM r := by rw [Ew, jE]
 generalize hS : bs (pM r) = s at *
 obtain ⟨k1, e1, u1⟩ := tl (n := r.aA.mn) (by omega)
 obtain ⟨k2, e2, u2⟩ := tl (n := r.aA.pt) (by omega)
 obtain ⟨k3, e3, u3⟩ := tl (n := w7 r) (nB r).1
 have hk3 := nB r
 have Fg := h0
 unfold pM Fe at h0
 rw [u1, u2, u3, CS] at h0
 simp only [List.append_assoc] at h0
 have s1 := fH hw.ar
 have s2 := fH hw.fY
 have s3 := fH hw.ce
 obtain ⟨j1, p1, q1⟩ := tj (by have := hb.1; omega) h0
 obtain ⟨j2, p2, q2⟩ := wM (by omega) q1
 obtain ⟨j3, p3, q3⟩ := wM (by omega) q2
 obtain ⟨j4, p4, q4⟩ := Bn (m := 1) (by omega) (by omega) q3
 obtain ⟨j5, p5, q5⟩ := tj (by omega) q4
 obtain ⟨j6, p6, q6⟩ := tj (by omega) q5
 obtain ⟨j7, p7, q7⟩ := tj (by omega) q6
 obtain ⟨j8, p8, q8⟩ := Bn (m := 16) (by have := hw.len; omega) (by have := hw.len; omega) q7
 obtain ⟨j9, p9, q9⟩ := HJ jL r.reqs j8 [] (fun q hq => ⟨hw.reqs q hq, (hb.2.2 q hq).1⟩) (by rw [List.append_nil]; exact q8)
 have K0 : decide ((k3 : Int) = 1) = r.yk := by
  rw [← e3]
  unfold w7
  cases r.yk <;> simp
 have Ws : wL s = (⟨r.path, ⟨bN r.path, r.aA.mn, r.aA.pt⟩, [], r.ar, r.fY, r.ce, r.yk⟩, r.reqs.length, j8, 0) := by
  unfold wL
  simp only [p1,p2,p3,p4,p5,p6,p7,p8,K0,← e1,← e2]
 have jb : y7 s = (r, j9, 0) := by
  unfold y7
  rw [Ws]
  simp only [p9,Prod.mk.injEq,and_true]
  rw [← hw.mj]
 have bK : nI s = true := by
  unfold nI
  rw [jb, p1]
  simp only [Ey q9,hw.path,h,decide_true,Bool.and_self]
 unfold lN
 rw [if_pos bK, jb]
end Go.Proofs.YtnfeacnbgbggfaaGreatDoor
end

section
namespace Go.Proofs.YtnfeacnbgbggfaaGreatDoor
open Go.Eng
open Nat renaming reduceAdd → zA, reduceLT → zB, reduceLeDiff → zC, reduceMul → zD, reduceEqDiff → zE, reduceSub → zF
variable [aE]
set_option maxHeartbeats 4000000
set_option maxRecDepth 100000
theorem Rq.ext' {a b : Rq} (h1 : a.path = b.path) (h2 : a.set = b.set) : a = b := by cases a; cases b; simp_all
instance : DecidableEq Rq := fun a b => if h : a.path = b.path ∧ a.set = b.set then .isTrue (Rq.ext' h.1 h.2) else .isFalse fun e => h (by subst e; exact ⟨rfl, rfl⟩)
theorem Rl.ext' {a b : Rl} (h1 : a.path = b.path) (h2 : a.aA = b.aA) (h3 : a.reqs = b.reqs) (h4 : a.ar = b.ar) (h5 : a.fY = b.fY) (h6 : a.ce = b.ce) (h7 : a.yk = b.yk) : a = b := by cases a; cases b; simp_all
instance : DecidableEq Rl := fun a b => if h : a.path = b.path ∧ a.aA = b.aA ∧ a.reqs = b.reqs ∧ a.ar = b.ar ∧ a.fY = b.fY ∧ a.ce = b.ce ∧ a.yk = b.yk then .isTrue (Rl.ext' h.1 h.2.1 h.2.2.1 h.2.2.2.1 h.2.2.2.2.1 h.2.2.2.2.2.1 h.2.2.2.2.2.2) else .isFalse fun e => h (by subst e; exact ⟨rfl, rfl, rfl, rfl, rfl, rfl, rfl⟩)
theorem bool_beq (p q : Bool) : (p == q) = decide (p = q) := by cases p <;> cases q <;> rfl
theorem Bo (s t : List Rq) (hl : s.length ≤ 1048576) (hb : ∀ q ∈ s, qD q) : ∃ r_, (fun w => w = bl (decide (s = t))) r_ ∧ aQ Tryz.prog 74 [ah s, ah t] r_ := by
 refine dZ tt_ok [] 42 [.tmp 4] (fn := Tryz.f74) Tryz.func74 rfl Tryz.call74 ⟨rfl, rfl, by simp⟩ fun K hK => ?_
 simp only [ah]
 simp only [List.length_map,go_sem,reduceIte,zA,zB,zC,zD,zE,zF,reduceCtorEq]
 refine aN (fun dp => ?_) (fun dp => ?_)
 ·have au : false = decide (s = t) := by
   refine (decide_eq_false fun e => ?_).symm
   subst e; simp at dp
  simp only [List.length_map,go_sem,reduceIte,zA,zB,zC,zD,zE,zF,reduceCtorEq]
  exact hK _ (congrArg bl au)
 ·have gR : s.length = t.length := by have := dp; simp at this; omega
  simp only [List.length_map,go_sem,reduceIte,zA,zB,zC,zD,zE,zF,reduceCtorEq]
  refine bx tt_ok [] [5] 0 [0,1,10] (fun vs => ((s.length : Int) - Go.Eng.intOf (vs.headD .undef)).toNat) (fun vs => ∃ i : Nat, vs = [num i] ∧ i ≤ s.length ∧ ∀ j < i, s[j]? = t[j]?) (by omega) (by simp only [List.length_map,go_sem,reduceIte,zA,zB,zC,zD,zE,zF,reduceCtorEq]) (⟨0, rfl, Nat.zero_le _, fun j hj => absurd hj (Nat.not_lt_zero j)⟩) fun vs hI Z1 cd => ?_
  obtain ⟨i, rfl, hi, aV⟩ := hI
  simp only [List.length_map,go_sem,reduceIte,zA,zB,zC,zD,zE,zF,reduceCtorEq]
  refine aN (fun cX => ?_) (fun cX => ?_)
  ·have az : i < s.length := by simpa using cX
   have hw := ay i (by omega)
   obtain ⟨x, hx⟩ : ∃ x, s[i]? = some x := ⟨_, List.getElem?_eq_getElem az⟩
   obtain ⟨y, hy⟩ : ∃ y, t[i]? = some y := ⟨_, List.getElem?_eq_getElem (by omega)⟩
   simp only [hw,List.getElem?_map,hx,hy,aj,al,Option.map_some,List.length_map,go_sem,reduceIte,zA,zB,zC,zD,zE,zF,reduceCtorEq]
   refine bu tt_ok aG [⟨.n, 0, [], [], []⟩, ⟨.n, 0, [], [], []⟩, ⟨.r, 0, [], [], []⟩, ⟨.n, 0, [], [], []⟩, ⟨.r, 0, [], [], []⟩, ⟨.n, 0, [], [], []⟩, ⟨.n, 0, [], [], []⟩, ⟨.r, 0, [], [], []⟩, ⟨.n, 0, [], [], []⟩, ⟨.r, 0, [], [], []⟩, ⟨.n, 0, [], [], []⟩, ⟨.n, 0, [], [], []⟩, ⟨.n, 0, [], [], []⟩, ⟨.n, 0, [], [], []⟩, ⟨.r, 0, [], [], []⟩, ⟨.n, 0, [], [], []⟩, ⟨.r, 0, [], [], []⟩, ⟨.n, 0, [], [], []⟩, ⟨.n, 0, [], [], []⟩, ⟨.r, 0, [], [], []⟩, ⟨.n, 0, [], [], []⟩, ⟨.r, 0, [], [], []⟩, ⟨.n, 0, [], [], []⟩, ⟨.n, 0, [], [], []⟩, ⟨.n, 0, [], [], []⟩] 0 (by kernel_rfl) ?_
   simp only [hw,List.getElem?_map,hx,hy,aj,al,Option.map_some,List.length_map,go_sem,reduceIte,zA,zB,zC,zD,zE,zF,reduceCtorEq]
   refine aN (fun Bp => ?_) (fun Bp => ?_)
   ·have au : false = decide (s = t) := by
     refine (decide_eq_false fun e => ?_).symm
     subst e; rw [hx] at hy; cases hy; simp [aJ] at Bp
    simp only [hw,List.getElem?_map,hx,hy,aj,al,Option.map_some,List.length_map,go_sem,reduceIte,zA,zB,zC,zD,zE,zF,reduceCtorEq]
    exact hK _ (congrArg bl au)
   ·simp only [hw,List.getElem?_map,hx,hy,aj,al,Option.map_some,List.length_map,go_sem,reduceIte,zA,zB,zC,zD,zE,zF,reduceCtorEq]
    refine cG (by have h := wq x.set y.set (hb x (List.mem_of_getElem? hx)).2; simp only [al] at h; exact h) ?_
    rintro _ rfl
    simp only [hw,List.getElem?_map,hx,hy,aj,al,Option.map_some,List.length_map,go_sem,reduceIte,zA,zB,zC,zD,zE,zF,reduceCtorEq]
    refine aN (fun mB => ?_) (fun mB => ?_)
    ·have au : false = decide (s = t) := by
      first
      | exact au
      | (refine (decide_eq_false fun e => ?_).symm; subst e; rw [hx] at hy; cases hy; simp at mB)
     simp only [hw,List.getElem?_map,hx,hy,aj,al,Option.map_some,List.length_map,go_sem,reduceIte,zA,zB,zC,zD,zE,zF,reduceCtorEq]
     exact hK _ (congrArg bl au)
    ·simp only [hw,List.getElem?_map,hx,hy,aj,al,Option.map_some,List.length_map,go_sem,reduceIte,zA,zB,zC,zD,zE,zF,reduceCtorEq]
     refine cd _ (cC (by omega) (by simp only [hw,List.getElem?_map,hx,hy,aj,al,Option.map_some,List.length_map,go_sem,reduceIte,zA,zB,zC,zD,zE,zF,reduceCtorEq]) ?_ ?_) <;> simp only [fh,lk,reduceIte,zE]
     ·refine ⟨i + 1, rfl, az, fun j hj => ?_⟩
      rcases Nat.lt_or_ge j i with h | h
      ·exact aV j h
      ·obtain rfl : j = i := by omega
       rw [hx, hy]
       have h9 := mB
       have TK : x.path = y.path := by simpa [aJ] using Bp
       have UK : x.set = y.set := by simpa using h9
       rw [Rq.ext' TK UK]
     ·simp only [Go.Eng.intOf,List.headD_cons]; omega
  ·have cH : ¬ i < s.length := by simpa using cX
   have au : true = decide (s = t) := (decide_eq_true (ko gR fun j hj => aV j (by omega))).symm
   simp only [List.length_map,go_sem,reduceIte,zA,zB,zC,zD,zE,zF,reduceCtorEq]
   exact hK _ (congrArg bl au)
theorem Ez (a b : Rl) (hb : IS a) : ∃ r_, (fun w => w = bl (decide (a = b))) r_ ∧ aQ Tryz.prog 21 [ag a, ag b] r_ := by
 refine dZ tt_ok [] 52 [.tmp 4] (fn := Tryz.f21) Tryz.func21 rfl Tryz.call21 ⟨rfl, rfl, by simp⟩ fun K hK => ?_
 simp only [ag,ab,ah]
 have Zs : Tryz.prog.underlying 4 = some .bool := by kernel_rfl
 have CT := fun x y => Jm (P := Tryz.prog) x y Zs a.yk b.yk
 simp only [cO,CT,go_sem,reduceIte,zA,zB,zC,zD,zE,zF,reduceCtorEq]
 refine aN (fun ta => ?_) (fun ta => ?_)
 ·simp only [cO,CT,go_sem,reduceIte,zA,zB,zC,zD,zE,zF,reduceCtorEq]
  refine aN (fun AX => ?_) (fun AX => ?_)
  ·simp only [cO,CT,go_sem,reduceIte,zA,zB,zC,zD,zE,zF,reduceCtorEq]
   refine aN (fun Pj => ?_) (fun Pj => ?_)
   ·simp only [cO,CT,go_sem,reduceIte,zA,zB,zC,zD,zE,zF,reduceCtorEq]
    refine aN (fun Pk => ?_) (fun Pk => ?_)
    ·simp only [cO,CT,go_sem,reduceIte,zA,zB,zC,zD,zE,zF,reduceCtorEq]
     refine aN (fun Pm => ?_) (fun Pm => ?_)
     ·simp only [cO,CT,go_sem,reduceIte,zA,zB,zC,zD,zE,zF,reduceCtorEq]
      refine aN (fun Pn => ?_) (fun Pn => ?_)
      ·simp only [cO,CT,go_sem,reduceIte,zA,zB,zC,zD,zE,zF,reduceCtorEq]
       refine cF (by have h := Bo a.reqs b.reqs hb.2.1 hb.2.2; simp only [ah] at h; exact h) ?_
       rintro _ rfl
       simp only [cO,CT,go_sem,reduceIte,zA,zB,zC,zD,zE,zF,reduceCtorEq]
       refine hK _ (congrArg bl ?_)
       obtain ⟨a1, a2, a3, a4, a5, a6, a7⟩ := a
       obtain ⟨b1, b2, b3, b4, b5, b6, b7⟩ := b
       simp_all [aJ, bool_beq]
      ·simp only [cO,CT,go_sem,reduceIte,zA,zB,zC,zD,zE,zF,reduceCtorEq]
       refine hK _ (congrArg bl ?_)
       obtain ⟨a1, a2, a3, a4, a5, a6, a7⟩ := a
       obtain ⟨b1, b2, b3, b4, b5, b6, b7⟩ := b
       simp_all [aJ, bool_beq]
     ·simp only [cO,CT,go_sem,reduceIte,zA,zB,zC,zD,zE,zF,reduceCtorEq]
      refine hK _ (congrArg bl ?_)
      obtain ⟨a1, a2, a3, a4, a5, a6, a7⟩ := a
      obtain ⟨b1, b2, b3, b4, b5, b6, b7⟩ := b
      simp_all [aJ, bool_beq]
    ·simp only [cO,CT,go_sem,reduceIte,zA,zB,zC,zD,zE,zF,reduceCtorEq]
     refine hK _ (congrArg bl ?_)
     obtain ⟨a1, a2, a3, a4, a5, a6, a7⟩ := a
     obtain ⟨b1, b2, b3, b4, b5, b6, b7⟩ := b
     simp_all [aJ, bool_beq]
   ·simp only [cO,CT,go_sem,reduceIte,zA,zB,zC,zD,zE,zF,reduceCtorEq]
    refine hK _ (congrArg bl ?_)
    obtain ⟨a1, a2, a3, a4, a5, a6, a7⟩ := a
    obtain ⟨b1, b2, b3, b4, b5, b6, b7⟩ := b
    simp_all [aJ, bool_beq]
  ·simp only [cO,CT,go_sem,reduceIte,zA,zB,zC,zD,zE,zF,reduceCtorEq]
   refine hK _ (congrArg bl ?_)
   obtain ⟨a1, a2, a3, a4, a5, a6, a7⟩ := a
   obtain ⟨b1, b2, b3, b4, b5, b6, b7⟩ := b
   simp_all [aJ, bool_beq]
 ·simp only [cO,CT,go_sem,reduceIte,zA,zB,zC,zD,zE,zF,reduceCtorEq]
  refine hK _ (congrArg bl ?_)
  obtain ⟨a1, a2, a3, a4, a5, a6, a7⟩ := a
  obtain ⟨b1, b2, b3, b4, b5, b6, b7⟩ := b
  simp_all [aJ, bool_beq]
end Go.Proofs.YtnfeacnbgbggfaaGreatDoor
end

section
namespace Go.Proofs.YtnfeacnbgbggfaaGreatDoor
open Go.Eng
variable [aE]
structure RI (g : List Rl) (roots : List Rq) (S : List Rl) (P : List Rq) (X : Rq → Prop) : Prop where
 sub : ∀ r ∈ S, oL g roots r
 Uc : ∀ q ∈ P, q ∈ roots ∨ ∃ a ∈ S, q ∈ a.reqs
 fM : ∀ q, (q ∈ roots ∨ ∃ a ∈ S, q ∈ a.reqs) → X q ∨ q ∈ P ∨ ∀ r ∈ g, eg q r = true → r ∈ S
theorem RI.start (g : List Rl) (roots : List Rq) : RI g roots [] roots fun _ => False :=
 ⟨fun r hr => by simp at hr, fun q hq => .inl hq, fun q hq => by
  rcases hq with hq | ⟨a, ha, -⟩
  ·exact .inr (.inl hq)
  ·simp at ha⟩
variable {g : List Rl} {roots : List Rq} {S : List Rl} {P : List Rq}
theorem RI.fin (h : RI g roots S [] fun _ => False) {r : Rl} : r ∈ S ↔ oL g roots r := by
 refine ⟨h.sub r, fun hr => ?_⟩
 induction hr with
 | root q r hq hr hh =>
  rcases h.fM q (.inl hq) with h1 | h1 | h1
  ·exact h1.elim
  ·simp at h1
  ·exact h1 r hr hh
 | step a q r _ hq hr hh ih =>
  rcases h.fM q (.inr ⟨a, ih, hq⟩) with h1 | h1 | h1
  ·exact h1.elim
  ·simp at h1
  ·exact h1 r hr hh
theorem RI.pop {q : Rq} (h : RI g roots S (q :: P) fun _ => False) : RI g roots S P (fun x => x = q) ∧ (q ∈ roots ∨ ∃ a ∈ S, q ∈ a.reqs) :=
 ⟨⟨h.sub, fun x hx => h.Uc x (by simp [hx]), fun x hx => by
  rcases h.fM x hx with h1 | h1 | h1
  ·exact h1.elim
  ·rcases List.mem_cons.1 h1 with h1 | h1
   ·exact .inl h1
   ·exact .inr (.inl h1)
  ·exact .inr (.inr h1)⟩, h.Uc q (by simp)⟩
theorem RI.Wv {q : Rq} {r : Rl} (h : RI g roots S P fun x => x = q) (hq : q ∈ roots ∨ ∃ a ∈ S, q ∈ a.reqs) (hr : r ∈ g) (hh : eg q r = true) : RI g roots (S ++ [r]) (P ++ r.reqs) fun x => x = q := by
 refine ⟨fun x hx => ?_, fun x hx => ?_, fun x hx => ?_⟩
 ·rcases List.mem_append.1 hx with hx | hx
  ·exact h.sub x hx
  ·rw [List.mem_singleton] at hx; subst hx
   rcases hq with hq | ⟨a, ha, hq⟩
   ·exact .root q x hq hr hh
   ·exact .step a q x (h.sub a ha) hq hr hh
 ·rcases List.mem_append.1 hx with hx | hx
  ·rcases h.Uc x hx with h1 | ⟨a, ha, h1⟩
   ·exact .inl h1
   ·exact .inr ⟨a, List.mem_append_left _ ha, h1⟩
  ·exact .inr ⟨r, List.mem_append_right _ (List.mem_singleton.2 rfl), hx⟩
 ·have : (x ∈ roots ∨ ∃ a ∈ S, x ∈ a.reqs) ∨ x ∈ r.reqs := by
   rcases hx with hx | ⟨a, ha, hx⟩
   ·exact .inl (.inl hx)
   ·rcases List.mem_append.1 ha with ha | ha
    ·exact .inl (.inr ⟨a, ha, hx⟩)
    ·rw [List.mem_singleton] at ha; subst ha; exact .inr hx
  rcases this with hx | hx
  ·rcases h.fM x hx with h1 | h1 | h1
   ·exact .inl h1
   ·exact .inr (.inl (List.mem_append_left _ h1))
   ·exact .inr (.inr fun y hy UT => List.mem_append_left _ (h1 y hy UT))
  ·exact .inr (.inl (List.mem_append_right _ hx))
theorem RI.close {q : Rq} (h : RI g roots S P fun x => x = q) (hc : ∀ r ∈ g, eg q r = true → r ∈ S) : RI g roots S P fun _ => False :=
 ⟨h.sub, h.Uc, fun x hx => by
  rcases h.fM x hx with rfl | h1 | h1
  ·exact .inr (.inr hc)
  ·exact .inr (.inl h1)
  ·exact .inr (.inr h1)⟩
def seen (S : List Rl) (k : dA) : Bool := S.any fun r => decide (r.key = k)
theorem tm {S : List Rl} {k : dA} : seen S k = true ↔ ∃ r ∈ S, r.key = k := by unfold seen; rw [List.any_eq_true]; simp
theorem lO (hs : g.Pairwise jF) (hS : ∀ r ∈ S, r ∈ g) {r : Rl} (hr : r ∈ g) : seen S r.key = true ↔ r ∈ S := by
 rw [tm]
 constructor
 ·rintro ⟨x, hx, he⟩
  have Zt := hS x hx
  obtain ⟨i, hi, rfl⟩ := List.getElem_of_mem Zt
  obtain ⟨j, hj, rfl⟩ := List.getElem_of_mem hr
  rcases Nat.lt_trichotomy i j with h | h | h
  ·exact absurd he (jG (List.pairwise_iff_getElem.1 hs i j hi hj h))
  ·subst h; exact hx
  ·exact absurd he.symm (jG (List.pairwise_iff_getElem.1 hs j i hj hi h))
 ·exact fun h => ⟨r, h, rfl⟩
def cz (g S : List Rl) : Nat := ((g.filter fun r => !seen S r.key).map fun r => r.reqs.length).sum
theorem y8 (g S : List Rl) : cz g S ≤ (g.map fun r => r.reqs.length).sum := by
 unfold cz
 induction g with
 | nil => simp
 | cons a r ih =>
  rw [List.filter_cons]
  split <;> simp <;> omega
theorem uZ (S : List Rl) (r : Rl) (k : dA) : seen (S ++ [r]) k = (seen S k || decide (r.key = k)) := by simp [seen]
theorem pT (hs : g.Pairwise jF) {r : Rl} (hr : r ∈ g) (hn : seen S r.key = false) : cz g (S ++ [r]) + r.reqs.length = cz g S := by
 unfold cz
 induction g with
 | nil => simp at hr
 | cons a t ih =>
  rw [List.pairwise_cons] at hs
  simp only [List.filter_cons,uZ]
  rcases List.mem_cons.1 hr with rfl | hr
  ·have h2 : (t.filter fun x => !(seen S x.key || decide (r.key = x.key))) = t.filter fun x => !seen S x.key := by
    refine List.filter_congr fun x hx => ?_
    have := jG (hs.1 x hx)
    simp [this]
   simp only [hn,decide_true,Bool.or_true,Bool.not_true,Bool.not_false,if_true,Bool.false_eq_true,if_false,h2,List.map_cons,List.sum_cons]
   omega
  ·have bL : ¬ r.key = a.key := fun e => jG (hs.1 r hr) e.symm
   have := ih hs.2 hr
   simp only [uZ] at this
   simp only [bL,decide_false,Bool.or_false]
   split
   ·simp only [List.map_cons,List.sum_cons]; omega
   ·exact this
def gS (S : List Rl) : List (dA × V) := S.map fun r => (r.key, bl true)
theorem ax (n : Nat) (S : List Rl) : ((bJ aL 0 (gS S)).all fun e => ai n e.2.2) = true := by
 rw [kA aL (ai n)]
 unfold gS
 simp [ai]
theorem CU (k : dA) : ∀ S : List Rl, (getM k (gS S)).getD (bl false) = bl (seen S k)
 | [] => rfl
 | r :: t => by
  show (if r.key = k then some (bl true) else getM k (gS t)).getD _ = _
  unfold seen
  rw [List.any_cons]
  by_cases h : r.key = k
  ·simp [h]
  ·have := CU k t
   unfold seen at this
   simp [h, this]
theorem tn (S : List Rl) (k : dA) {mem : List aw} {b : Nat} (hm : mem[b]? = some (.map (bJ aL 0 (gS S)) (gS S).length)) : df Tryz.prog mem 85 (.mp b) (mD k) false = some (bl (seen S k)) := by
 rw [S0.get k (gS S) hm Mt, CU]; rfl
theorem y9 {S : List Rl} {r : Rl} (h : seen S r.key = false) {mem : List aw} {b : Nat} (hm : mem[b]? = some (.map (bJ aL 0 (gS S)) (gS S).length)) : cn Tryz.prog mem 85 (.mp b) (mD r.key) (bl true) = some (mem.set b (.map (bJ aL 0 (gS (S ++ [r]))) (gS (S ++ [r])).length)) := by
 have hp : kQ r.key (bl true) (gS S) = gS (S ++ [r]) := by
  unfold kQ gS
  rw [nE (fun e he => by
   obtain ⟨x, hx, rfl⟩ := List.mem_map.1 he
   exact fun e => by rw [tm.2 ⟨x, hx, e⟩] at h; cases h), List.map_append]
  rfl
 rw [S0.put r.key (bl true) (gS S) hm, hp]
theorem ry {l : List Rl} {p : ByteArray} {r : Rl} : r ∈ dC l p ↔ r ∈ l ∧ r.path = p := by unfold dC; simp
theorem rz (l : List Rl) (q : ByteArray) {mem : List aw} {b : Nat} (hm : mem[b]? = some (.map (bJ strVal 0 (gP l)) (aO l).length)) :
  df Tryz.prog mem 80 (.mp b) (str q) false = some (if q ∈ aO l then .slice (bX l q) else .sc (.slice none 0 0)) := by
 rw [← pQ] at hm
 rw [Pc.get q (gP l) hm Hy]
 unfold gP
 rw [td]
 split <;> rfl
theorem tp (h : RI g roots S [] fun _ => False) (hs : g.Pairwise jF) : bS g roots = g.filter fun r => seen S r.key := by
 unfold bS
 refine List.filter_congr fun r hr => ?_
 have hS : ∀ x ∈ S, x ∈ g := fun x hx => (h.sub x hx).mem
 rw [Bool.eq_iff_iff, @decide_eq_true_iff _ (Classical.propDecidable _), ← h.fin, lO hs hS hr]
end Go.Proofs.YtnfeacnbgbggfaaGreatDoor
end

section
namespace Go.Proofs.YtnfeacnbgbggfaaGreatDoor
open Go.Eng
open Nat renaming reduceAdd → zA, reduceLT → zB, reduceLeDiff → zC, reduceMul → zD, reduceEqDiff → zE, reduceSub → zF
variable [aE]
set_option maxHeartbeats 4000000
set_option maxRecDepth 100000
theorem tZ (l : List Rq) (hl : l.length ≤ 34359738368) : aT Tryz.prog 23 [.slice (l.map aj)] [] (.ms 0 1 0 l.length) [.rows 1 2 (l.map aj)] := by
 have h1 := bI l
 have MN : (l.map aj).length ≤ 34359738368 := by rw [List.length_map]; exact hl
 rw [← List.length_map (f := aj)]
 generalize l.map aj = rows at h1 MN
 refine FJ tt_ok (fn := Tryz.f23) 1 (by simp) Tryz.func23 rfl Tryz.call23 ?_
 simp only [Fa,eo,Tryz.ntmps23,List.length_cons,List.length_nil,zA,zF,List.replicate_succ,List.replicate_zero]
 refine fE tt_ok fun K hK => ?_
 simp only [go_sem,reduceIte,zA,zB,zC,zD,zE,zF,reduceCtorEq]
 refine hK _ ?_
 refine jY ?_
 refine fE tt_ok fun K hK => ?_
 simp only [go_sem,reduceIte,zA,zB,zC,zD,zE,zF,reduceCtorEq]
 intro b hb
 refine hK _ ?_
 cases b with
 | true =>
  have h0 : rows = [] := by
   cases rows with
   | nil => rfl
   | cons a r => have := hb (by simp); cases this
  subst h0
  refine lg rfl ?_
  refine fE tt_ok fun K hK => ?_
  simp only [go_sem,reduceIte,zA,zB,zC,zD,zE,zF,reduceCtorEq]
  refine hK _ ?_
  refine DJ 2 1 2 rfl ?_
  exact oj ⟨.inl rfl, rfl, rfl, rfl, rfl⟩
 | false =>
  refine lg rfl (lf ?_)
  show gx _ _ _ _ _ _
  refine fE tt_ok fun K hK => ?_
  simp only [h1,MN,go_sem,reduceIte,zA,zB,zC,zD,zE,zF,reduceCtorEq]
  refine hK _ ?_
  refine oj ⟨.inl rfl, ?_⟩
  simp [ix, se, xI, Tryz.f23, ai, aB, dk]
theorem qH (l : List Rq) (hl : l.length ≤ 34359738368) (M : List aw) : ∃ r_ m_, (fun r m => r = V.ms M.length 1 0 l.length ∧ m = M ++ [.rows 1 2 (l.map aj)]) r_ m_ ∧ aT Tryz.prog 23 [.slice (l.map aj)] M r_ m_ := by
 have h2 := (tZ l hl).ym M (fun j => M.length + j) 0 rfl rfl rfl (by simp [ai]) rfl (Nat.zero_le _) (fun i B hi => by simp at hi) (fun i j hi => by omega) (fun j _ => by omega)
 exact ⟨_, _, ⟨rfl, rfl⟩, h2⟩
theorem tq {l : List Rl} {r : Rl} (h : r ∈ aq l) : r ∈ l := by
 unfold aq at h
 split at h
 ·exact h
 ·simp at h
theorem eI (l : List Rl) : (aq l).Pairwise jF := by
 unfold aq
 split
 ·exact uX ‹_›
 ·exact List.Pairwise.nil
theorem u0 : ∀ (l : List Rl) (b : Option Rl), c5 b l = 0 → ∀ r ∈ l, gi r = 0
 | [], _, _, r, hr => by simp at hr
 | a :: t, b, h, r, hr => by
  rw [eE] at h
  by_cases h0 : gi a = 0
  ·rcases List.mem_cons.1 hr with rfl | hr
   ·exact h0
   ·rw [if_neg (by simp [h0])] at h
    refine u0 t (some a) ?_ r hr
    cases b with
    | none => exact h
    | some p =>
     dsimp only at h
     split at h
     ·omega
     ·split at h
      ·omega
      ·exact h
  ·rw [if_pos h0] at h; exact absurd h h0
theorem rA {l : List Rl} {r : Rl} (h : r ∈ aq l) : gi r = 0 := by
 unfold aq at h
 split at h
 ·rename_i h0
  unfold ey at h0
  split at h0
  ·omega
  ·exact u0 l none h0 r h
 ·simp at h
theorem lP {l : List Rl} {r : Rl} (h : r ∈ aq l) : r.aA.ok = true := by
 have h1 := rA h
 unfold gi at h1
 split at h1
 ·omega
 ·split at h1
  ·omega
  ·rename_i h2
   revert h2
   cases r.aA.ok <;> simp
theorem gj {l : List Rl} {r : Rl} (h : r ∈ aq l) : r.reqs.length ≤ 16 := by
 have h1 := rA h
 unfold gi at h1
 split at h1
 ·omega
 ·split at h1
  ·omega
  ·split at h1
   ·rename_i h2; exact absurd h1 h2
   ·rename_i h2
    simp only [ne_eq,Decidable.not_not] at h2
    unfold fo at h2
    split at h2 <;> omega
theorem gD (l : List Rl) : (aq l).length ≤ 256 := by
 unfold aq
 split
 ·exact O8 ‹_›
 ·simp
theorem Bq (l S : List Rl) : cz (aq l) S ≤ 4096 := by
 refine Nat.le_trans (y8 _ _) ?_
 have h1 : ∀ g : List Rl, (∀ r ∈ g, r.reqs.length ≤ 16) → (g.map fun r => r.reqs.length).sum ≤ 16 * g.length := fun g => by
  induction g with
  | nil => simp
  | cons a t ih =>
   intro h
   have := ih fun r hr => h r (by simp [hr])
   have := h a (by simp)
   simp only [List.map_cons,List.sum_cons,List.length_cons]; omega
 have := h1 (aq l) fun r hr => gj hr
 have := gD l
 omega
end Go.Proofs.YtnfeacnbgbggfaaGreatDoor
end

section
namespace Go.Proofs.YtnfeacnbgbggfaaGreatDoor
open Go.Eng
open Nat renaming reduceAdd → zA, reduceLT → zB, reduceLeDiff → zC, reduceMul → zD, reduceEqDiff → zE, reduceSub → zF
variable [aE]
set_option maxHeartbeats 4000000
set_option maxRecDepth 100000
theorem za (hG : aE.g = some 0) (l : List Rl) (I : List V) (hb : w6 l) (roots : List Rq) (hr : roots.length ≤ 1048576) (EA : ∀ q ∈ roots, qD q) : aQ Tryz.prog 13 [bA l I, ah roots] (aX ((bS (aq l) roots).map Rl.key)) := by
 refine Sd tt_ok [] 79 [.tmp 4] (fn := Tryz.f13) Tryz.func13 rfl Tryz.call13 ⟨rfl, rfl, by simp⟩ fun K hK => ?_
 simp only [bA,bh,ah]
 have Bj := hb.1
 simp only [ae,af,ax,List.length_map,go_sem,reduceIte,zA,zB,zC,zD,zE,zF,reduceCtorEq]
 refine cW (by have h := lM hG l I hb; simp only [bA,bh] at h; exact h _) ?_
 rintro _ _ ⟨rfl, rfl⟩
 simp only [Fa,S5,List.length_cons,List.length_nil,zA]
 simp only [ae,af,ax,List.length_map,go_sem,reduceIte,zA,zB,zC,zD,zE,zF,reduceCtorEq]
 refine cW (qH roots (by omega) _) ?_
 rintro _ _ ⟨rfl, rfl⟩
 try simp only [Fa,List.length_cons,List.length_nil,zA]
 simp only [ae,af,ax,List.length_map,go_sem,reduceIte,zA,zB,zC,zD,zE,zF,reduceCtorEq]
 refine cY tt_ok [] (fun a : List Rl × List Rq × Nat × Nat × List V => [(2, .ptr 0 0), (5, .ptr 5 0), (7, .mp 6), (8, .ms 7 a.2.2.1 a.2.2.2.1 a.2.1.length)]) (fun a : List Rl × List Rq × Nat × Nat × List V => [.box [.slice (l.map ag), .slice I], .box [.slice (l.map ag), .slice I], .box [.mp 3, .mp 4], .map (bJ aL 0 (gK (aq l))) (gK (aq l)).length, .map (bJ strVal 0 (gP (aq l))) (aO (aq l)).length, .box [.mp 3, .mp 4], .map (bJ aL 0 (gS a.1)) (gS a.1).length, .rows a.2.2.1 2 a.2.2.2.2]) (fun a => a.2.1.length + cz (aq l) a.1) (fun a => RI (aq l) roots a.1 a.2.1 (fun _ => False) ∧ a.2.2.2.2.drop a.2.2.2.1 = a.2.1.map aj ∧ a.2.2.2.1 + a.2.1.length = a.2.2.2.2.length ∧ a.2.1.length + cz (aq l) a.1 ≤ roots.length + 4096) (([], roots, 1, 0, roots.map aj)) 8 (bj (by omega) (by simp only [ae,af,ax,List.length_map,gS,List.map_nil,bJ,List.length_nil,Int.cast_ofNat_Int,go_sem,reduceIte,zA,zB,zC,zD,zE,zF,reduceCtorEq] <;> rfl)) (⟨RI.start _ _, rfl, by simp, by have := Bq l []; dsimp only; omega⟩) ?_
 rintro ⟨S, P, v, o, rs⟩ ⟨HL, zu, M3, hW⟩
 try dsimp only at HL zu M3 hW ⊢
 intro Z1 cd
 simp only [ae,af,ax,List.length_map,go_sem,reduceIte,zA,zB,zC,zD,zE,zF,reduceCtorEq]
 refine aN (fun fm => ?_) (fun fm => ?_)
 ·obtain ⟨q, P, rfl⟩ : ∃ q P2, P = q :: P2 := by
   cases P with
   | nil => simp at fm
   | cons q r => exact ⟨q, r, rfl⟩
  simp only [List.length_cons] at fm ⊢
  rw [fm]
  obtain ⟨HM, hq⟩ := HL.pop
  have b9 : rs[o]? = some (aj q) := by
   have h := congrArg (fun x => x[0]?) zu
   simpa using h
  have kB : rs.drop (o + 1) = P.map aj := by
   rw [← List.drop_drop, zu]; rfl
  have jH : o + 1 + P.length = rs.length := by rw [List.length_cons] at M3; omega
  rw [List.length_cons] at hW
  have h0 : (0 : Int) < ((P.length + 1 : Nat) : Int) := by omega
  have h1 : (1 : Int) ≤ ((P.length + 1 : Nat) : Int) := by omega
  have dQ : (((P.length + 1 : Nat) : Int) - 1).toNat = P.length := by omega
  have c6 : ∀ mem : List aw, mem[7]? = some (.rows v 2 rs) → cutAt mem 2 1 none (.ms 7 v o (P.length + 1)) = some (.ms 7 v (o + 1) P.length) := fun mem hm => by
   unfold cutAt
   simp [eJ, hm] <;> omega
  have Fm : qD q := by
   rcases hq with hq | ⟨a, ha, hq⟩
   ·exact EA q hq
   ·exact (hb.2 a (tq (HL.sub a ha).mem)).2.2 q hq
  by_cases fS : q.path ∈ aO (aq l)
  ·have dE := fun (mem : List aw) (b : Nat) hm => rz (aq l) q.path (mem := mem) (b := b) hm
   simp only [if_pos fS,bX] at dE
   simp only [ae,af,ax,b9,h0,h1,dQ,c6,List.length_cons,aj,al,Nat.add_zero,Int.le_refl,Int.toNat_one,Int.toNat_zero,dE,List.length_map,go_sem,reduceIte,zA,zB,zC,zD,zE,zF,reduceCtorEq]
   refine cY tt_ok [] (fun b : List Rl × List Rq × Nat × Nat × List V × Nat => [(2, .ptr 0 0), (5, .ptr 5 0), (7, .mp 6), (8, .ms 7 b.2.2.1 b.2.2.2.1 b.2.1.length), (9, .ptr 8 0), (35, .slice ((dC (aq l) q.path).map ag)), (36, num (dC (aq l) q.path).length), (37, num b.2.2.2.2.2)]) (fun b : List Rl × List Rq × Nat × Nat × List V × Nat => [.box [.slice (l.map ag), .slice I], .box [.slice (l.map ag), .slice I], .box [.mp 3, .mp 4], .map (bJ aL 0 (gK (aq l))) (gK (aq l)).length, .map (bJ strVal 0 (gP (aq l))) (aO (aq l)).length, .box [.mp 3, .mp 4], .map (bJ aL 0 (gS b.1)) (gS b.1).length, .rows b.2.2.1 2 b.2.2.2.2.1, .box [str q.path, .slice (q.set.map ak)]]) (fun b => (dC (aq l) q.path).length - b.2.2.2.2.2) (fun b => RI (aq l) roots b.1 b.2.1 (fun x => x = q) ∧ (q ∈ roots ∨ ∃ a ∈ b.1, q ∈ a.reqs) ∧ b.2.2.2.2.1.drop b.2.2.2.1 = b.2.1.map aj ∧ b.2.2.2.1 + b.2.1.length = b.2.2.2.2.1.length ∧ b.2.1.length + cz (aq l) b.1 + 1 ≤ P.length + 1 + cz (aq l) S ∧ b.2.2.2.2.2 ≤ (dC (aq l) q.path).length ∧ ∀ r ∈ (dC (aq l) q.path).take b.2.2.2.2.2, has q.set r.aA.place = true → r ∈ b.1) ((S, P, v, o + 1, rs, 0)) 9 (bj (by omega) (by simp only [ae,af,ax,b9,h0,h1,dQ,c6,List.length_cons,aj,al,Nat.add_zero,Int.le_refl,Int.toNat_one,Int.toNat_zero,dE,List.length_map,Int.cast_ofNat_Int,go_sem,reduceIte,zA,zB,zC,zD,zE,zF,reduceCtorEq] <;> rfl)) (⟨HM, hq, kB, jH, by dsimp only; omega, Nat.zero_le _, fun r hr => by simp at hr⟩) ?_
   rintro ⟨S1, P1, v1, o1, nT, j⟩ ⟨pU, w8, kB, jH, Po, hj, jI⟩
   try dsimp only at pU w8 kB jH Po hj jI ⊢
   intro Z2 nw
   simp only [ae,af,ax,b9,h0,h1,dQ,c6,List.length_cons,aj,al,Nat.add_zero,Int.le_refl,Int.toNat_one,Int.toNat_zero,dE,List.length_map,go_sem,reduceIte,zA,zB,zC,zD,zE,zF,reduceCtorEq]
   refine aN (fun jj => ?_) (fun jj => ?_)
   ·have az : j < (dC (aq l) q.path).length := by simpa using jj
    have HN : (dC (aq l) q.path).length ≤ 256 := Nat.le_trans (List.length_filter_le _ _) (gD l)
    have hw := ay j (by omega)
    obtain ⟨x, hx⟩ : ∃ x, (dC (aq l) q.path)[j]? = some x := ⟨_, List.getElem?_eq_getElem az⟩
    have rm := ry.1 (List.mem_of_getElem? hx)
    have zx : x.aA.pl = x.aA.place := by unfold er.pl; rw [if_pos (lP rm.1)]
    have mr := fun (mem : List aw) (b : Nat) hm => tn S1 x.key (mem := mem) (b := b) hm
    simp only [mD] at mr
    have tG : (dC (aq l) q.path).take (j + 1) = (dC (aq l) q.path).take j ++ [x] := hY hx
    have S6 : ∀ r ∈ S1, r ∈ aq l := fun r hr => (pU.sub r hr).mem
    simp only [ae,af,ax,b9,h0,h1,dQ,c6,List.length_cons,aj,al,Nat.add_zero,Int.le_refl,Int.toNat_one,Int.toNat_zero,dE,hw,List.getElem?_map,hx,ag,ab,ah,mr,List.length_map,go_sem,reduceIte,zA,zB,zC,zD,zE,zF,reduceCtorEq]
    refine bu tt_ok aG [⟨.n, 0, [], [], []⟩, ⟨.r, 0, [], [], []⟩, ⟨.n, 0, [], [], []⟩, ⟨.r, 0, [], [], []⟩, ⟨.n, 0, [], [], []⟩, ⟨.n, 0, [], [], []⟩, ⟨.n, 0, [], [], []⟩, ⟨.r, 0, [], [], []⟩, ⟨.r, 0, [], [], []⟩, ⟨.n, 0, [], [], []⟩, ⟨.n, 0, [], [], []⟩, ⟨.n, 0, [], [], []⟩] 0 (by kernel_rfl) ?_
    simp only [ae,af,ax,b9,h0,h1,dQ,c6,List.length_cons,aj,al,Nat.add_zero,Int.le_refl,Int.toNat_one,Int.toNat_zero,dE,hw,List.getElem?_map,hx,ag,ab,ah,mr,List.length_map,go_sem,reduceIte,zA,zB,zC,zD,zE,zF,reduceCtorEq]
    refine cG (by have h := kp x; simp only [ag,ab,ah,aH] at h; exact h) ?_
    rintro _ rfl
    simp only [ae,af,ax,b9,h0,h1,dQ,c6,List.length_cons,aj,al,Nat.add_zero,Int.le_refl,Int.toNat_one,Int.toNat_zero,dE,hw,List.getElem?_map,hx,ag,ab,ah,mr,List.length_map,go_sem,reduceIte,zA,zB,zC,zD,zE,zF,reduceCtorEq]
    refine aN (fun nJ => ?_) (fun nJ => ?_)
    ·simp only [ae,af,ax,b9,h0,h1,dQ,c6,List.length_cons,aj,al,Nat.add_zero,Int.le_refl,Int.toNat_one,Int.toNat_zero,dE,hw,List.getElem?_map,hx,ag,ab,ah,mr,List.length_map,go_sem,reduceIte,zA,zB,zC,zD,zE,zF,reduceCtorEq]
     refine cG (by have h := iB x; simp only [ag,ab,ah] at h; exact h) ?_
     rintro _ rfl
     simp only [ae,af,ax,b9,h0,h1,dQ,c6,List.length_cons,aj,al,Nat.add_zero,Int.le_refl,Int.toNat_one,Int.toNat_zero,dE,hw,List.getElem?_map,hx,ag,ab,ah,mr,List.length_map,go_sem,reduceIte,zA,zB,zC,zD,zE,zF,reduceCtorEq]
     refine cG (by have h := AV q.set x.aA.pl Fm.2; simp only [al] at h; exact h) ?_
     rintro _ rfl
     simp only [ae,af,ax,b9,h0,h1,dQ,c6,List.length_cons,aj,al,Nat.add_zero,Int.le_refl,Int.toNat_one,Int.toNat_zero,dE,hw,List.getElem?_map,hx,ag,ab,ah,mr,List.length_map,go_sem,reduceIte,zA,zB,zC,zD,zE,zF,reduceCtorEq]
     refine aN (fun pV => ?_) (fun pV => ?_)
     ·have S7 : seen S1 x.key = false := by simpa using nJ
      have Pp : has q.set x.aA.place = true := by rw [← zx]; simpa using pV
      have HO : eg q x = true := by unfold eg; rw [Pp, rm.2]; simp
      have wN := pU.Wv w8 rm.1 HO
      have XJ := pT (eI l) rm.1 S7
      have XK := gj rm.1
      have w9 := fun (mem : List aw) (b : Nat) hm => y9 S7 (mem := mem) (b := b) hm
      simp only [mD] at w9
      simp only [ae,af,ax,b9,h0,h1,dQ,c6,List.length_cons,aj,al,Nat.add_zero,Int.le_refl,Int.toNat_one,Int.toNat_zero,dE,hw,List.getElem?_map,hx,ag,ab,ah,mr,w9,List.length_map,go_sem,reduceIte,zA,zB,zC,zD,zE,zF,reduceCtorEq]
      refine cF (by have h := kp x; simp only [ag,ab,ah,aH] at h; exact h) ?_
      rintro _ rfl
      rcases Nat.eq_zero_or_pos o1 with rfl | jN
      ·have jJ : nT.length = P1.length := by omega
       have fO := bI x.reqs
       have eO : P1.length + x.reqs.length ≤ 34359738368 := by omega
       have Dy : (nT ++ x.reqs.map aj).drop 0 = nT.drop 0 ++ x.reqs.map aj := rfl
       have zw : 0 + (P1.length + x.reqs.length) = (nT ++ x.reqs.map aj).length := by rw [List.length_append, List.length_map, jJ, Nat.zero_add]
       let nv : List Rl × List Rq × Nat × Nat × List V × Nat := (S1 ++ [x], P1 ++ x.reqs, v1 + 1, 0, (nT ++ x.reqs.map aj), j + 1)
       have wO : RI (aq l) roots (S1 ++ [x]) (P1 ++ x.reqs) (fun y => y = q) ∧ (q ∈ roots ∨ ∃ a ∈ S1 ++ [x], q ∈ a.reqs) ∧ (nT ++ x.reqs.map aj).drop 0 = (P1 ++ x.reqs).map aj ∧ 0 + (P1 ++ x.reqs).length = (nT ++ x.reqs.map aj).length ∧ (P1 ++ x.reqs).length + cz (aq l) (S1 ++ [x]) + 1 ≤ P.length + 1 + cz (aq l) S ∧ j + 1 ≤ (dC (aq l) q.path).length ∧ ∀ r ∈ (dC (aq l) q.path).take (j + 1), has q.set r.aA.place = true → r ∈ S1 ++ [x] := by
        refine ⟨wN, ?_, by rw [Dy, kB, List.map_append], by rw [List.length_append]; omega, by rw [List.length_append]; omega, az, fun r hr hh => ?_⟩
        ·rcases w8 with h | ⟨a, ha, h⟩
         ·exact .inl h
         ·exact .inr ⟨a, List.mem_append_left _ ha, h⟩
        ·rw [tG] at hr
         rcases List.mem_append.1 hr with hr | hr
         ·exact List.mem_append_left _ (jI r hr hh)
         ·exact List.mem_append_right _ hr
       simp only [ae,af,ax,b9,h0,h1,dQ,c6,List.length_cons,aj,al,Nat.add_zero,Int.le_refl,Int.toNat_one,Int.toNat_zero,dE,hw,List.getElem?_map,hx,ag,ab,ah,mr,w9,jJ,fO,eO,List.length_map,go_sem,reduceIte,zA,zB,zC,zD,zE,zF,reduceCtorEq]
       refine nw _ ⟨nv, ?_, ?_, bj (by omega) (by (first | (simp only [nv,hw,List.length_append,List.length_map,ae,af,ax,go_sem,reduceIte,zA,zB,zC,zD,zE,zF,reduceCtorEq]; done) | (simp only [nv,hw,List.length_append,List.length_map,jJ,ae,af,ax,go_sem,reduceIte,zA,zB,zC,zD,zE,zF,reduceCtorEq]; done)))⟩
       ·exact wO
       ·dsimp only [nv]; omega
      ·obtain ⟨o0, rfl⟩ : ∃ k, o1 = k + 1 := ⟨o1 - 1, by omega⟩
       have fO := bI x.reqs
       have eO : P1.length + x.reqs.length ≤ 34359738368 := by omega
       simp only [ae,af,ax,b9,h0,h1,dQ,c6,List.length_cons,aj,al,Nat.add_zero,Int.le_refl,Int.toNat_one,Int.toNat_zero,dE,hw,List.getElem?_map,hx,ag,ab,ah,mr,w9,jH,fO,eO,List.length_map,go_sem,reduceIte,zA,zB,zC,zD,zE,zF,reduceCtorEq]
       refine Vq ?_
       intro o2 CV Dy zw
       try rw [List.length_map] at zw
       let nv : List Rl × List Rq × Nat × Nat × List V × Nat := (S1 ++ [x], P1 ++ x.reqs, v1 + 1, o2, CV, j + 1)
       have wO : RI (aq l) roots (S1 ++ [x]) (P1 ++ x.reqs) (fun y => y = q) ∧ (q ∈ roots ∨ ∃ a ∈ S1 ++ [x], q ∈ a.reqs) ∧ CV.drop o2 = (P1 ++ x.reqs).map aj ∧ o2 + (P1 ++ x.reqs).length = CV.length ∧ (P1 ++ x.reqs).length + cz (aq l) (S1 ++ [x]) + 1 ≤ P.length + 1 + cz (aq l) S ∧ j + 1 ≤ (dC (aq l) q.path).length ∧ ∀ r ∈ (dC (aq l) q.path).take (j + 1), has q.set r.aA.place = true → r ∈ S1 ++ [x] := by
        refine ⟨wN, ?_, by rw [Dy, kB, List.map_append], by rw [List.length_append]; omega, by rw [List.length_append]; omega, az, fun r hr hh => ?_⟩
        ·rcases w8 with h | ⟨a, ha, h⟩
         ·exact .inl h
         ·exact .inr ⟨a, List.mem_append_left _ ha, h⟩
        ·rw [tG] at hr
         rcases List.mem_append.1 hr with hr | hr
         ·exact List.mem_append_left _ (jI r hr hh)
         ·exact List.mem_append_right _ hr
       simp only [ae,af,ax,b9,h0,h1,dQ,c6,List.length_cons,aj,al,Nat.add_zero,Int.le_refl,Int.toNat_one,Int.toNat_zero,dE,hw,List.getElem?_map,hx,ag,ab,ah,mr,w9,jH,fO,eO,List.length_map,go_sem,reduceIte,zA,zB,zC,zD,zE,zF,reduceCtorEq]
       refine nw _ ⟨nv, ?_, ?_, bj (by omega) (by (first | (simp only [nv,hw,List.length_append,List.length_map,ae,af,ax,go_sem,reduceIte,zA,zB,zC,zD,zE,zF,reduceCtorEq]; done) | (simp only [nv,hw,List.length_append,List.length_map,jJ,ae,af,ax,go_sem,reduceIte,zA,zB,zC,zD,zE,zF,reduceCtorEq]; done)))⟩
       ·exact wO
       ·dsimp only [nv]; omega
     ·let nv : List Rl × List Rq × Nat × Nat × List V × Nat := (S1, P1, v1, o1, nT, j + 1)
      have wO : RI (aq l) roots S1 P1 (fun y => y = q) ∧ (q ∈ roots ∨ ∃ a ∈ S1, q ∈ a.reqs) ∧ nT.drop o1 = P1.map aj ∧ o1 + P1.length = nT.length ∧ P1.length + cz (aq l) S1 + 1 ≤ P.length + 1 + cz (aq l) S ∧ j + 1 ≤ (dC (aq l) q.path).length ∧ ∀ r ∈ (dC (aq l) q.path).take (j + 1), has q.set r.aA.place = true → r ∈ S1 := by
       refine ⟨pU, w8, kB, jH, Po, az, fun r hr hh => ?_⟩
       rw [tG] at hr
       rcases List.mem_append.1 hr with hr | hr
       ·exact jI r hr hh
       ·rw [List.mem_singleton] at hr; subst hr
        refine (lO (eI l) S6 rm.1).1 ?_
        first | exact mM | (rw [zx, hh] at pV; cases pV)
      simp only [ae,af,ax,b9,h0,h1,dQ,c6,List.length_cons,aj,al,Nat.add_zero,Int.le_refl,Int.toNat_one,Int.toNat_zero,dE,hw,List.getElem?_map,hx,ag,ab,ah,mr,List.length_map,go_sem,reduceIte,zA,zB,zC,zD,zE,zF,reduceCtorEq]
      refine nw _ ⟨nv, ?_, ?_, bj (by omega) (by (first | (simp only [nv,hw,List.length_append,List.length_map,ae,af,ax,go_sem,reduceIte,zA,zB,zC,zD,zE,zF,reduceCtorEq]; done) | (simp only [nv,hw,List.length_append,List.length_map,jJ,ae,af,ax,go_sem,reduceIte,zA,zB,zC,zD,zE,zF,reduceCtorEq]; done)))⟩
      ·exact wO
      ·dsimp only [nv]; omega
    ·have mM : seen S1 x.key = true := by simpa using nJ
     let nv : List Rl × List Rq × Nat × Nat × List V × Nat := (S1, P1, v1, o1, nT, j + 1)
     have wO : RI (aq l) roots S1 P1 (fun y => y = q) ∧ (q ∈ roots ∨ ∃ a ∈ S1, q ∈ a.reqs) ∧ nT.drop o1 = P1.map aj ∧ o1 + P1.length = nT.length ∧ P1.length + cz (aq l) S1 + 1 ≤ P.length + 1 + cz (aq l) S ∧ j + 1 ≤ (dC (aq l) q.path).length ∧ ∀ r ∈ (dC (aq l) q.path).take (j + 1), has q.set r.aA.place = true → r ∈ S1 := by
      refine ⟨pU, w8, kB, jH, Po, az, fun r hr hh => ?_⟩
      rw [tG] at hr
      rcases List.mem_append.1 hr with hr | hr
      ·exact jI r hr hh
      ·rw [List.mem_singleton] at hr; subst hr
       refine (lO (eI l) S6 rm.1).1 ?_
       first | exact mM | (rw [zx, hh] at pV; cases pV)
     simp only [ae,af,ax,b9,h0,h1,dQ,c6,List.length_cons,aj,al,Nat.add_zero,Int.le_refl,Int.toNat_one,Int.toNat_zero,dE,hw,List.getElem?_map,hx,ag,ab,ah,mr,List.length_map,go_sem,reduceIte,zA,zB,zC,zD,zE,zF,reduceCtorEq]
     refine nw _ ⟨nv, ?_, ?_, bj (by omega) (by (first | (simp only [nv,hw,List.length_append,List.length_map,ae,af,ax,go_sem,reduceIte,zA,zB,zC,zD,zE,zF,reduceCtorEq]; done) | (simp only [nv,hw,List.length_append,List.length_map,jJ,ae,af,ax,go_sem,reduceIte,zA,zB,zC,zD,zE,zF,reduceCtorEq]; done)))⟩
     ·exact wO
     ·dsimp only [nv]; omega
   ·have cH : ¬ j < (dC (aq l) q.path).length := by simpa using jj
    have wN := pU.close fun r hr hh => jI r (by rw [List.take_of_length_le (by omega)]; exact ry.2 ⟨hr, (me hh).symm⟩) (by unfold eg at hh; simp at hh; exact hh.2)
    simp only [ae,af,ax,b9,h0,h1,dQ,c6,List.length_cons,aj,al,Nat.add_zero,Int.le_refl,Int.toNat_one,Int.toNat_zero,dE,List.length_map,go_sem,reduceIte,zA,zB,zC,zD,zE,zF,reduceCtorEq]
    refine cd _ ⟨(S1, P1, v1, o1, nT), ?_, ?_, bj (by omega) (by (simp only [ae,af,ax,go_sem,reduceIte,zA,zB,zC,zD,zE,zF,reduceCtorEq]))⟩
    ·exact ⟨wN, kB, jH, by dsimp only; omega⟩
    ·dsimp only; omega
  ·have dE := fun (mem : List aw) (b : Nat) hm => rz (aq l) q.path (mem := mem) (b := b) hm
   simp only [if_neg fS] at dE
   have HP : dC (aq l) q.path = [] := by have h := nD fS; unfold bX at h; simpa using h
   simp only [ae,af,ax,b9,h0,h1,dQ,c6,List.length_cons,aj,al,Nat.add_zero,Int.le_refl,Int.toNat_one,Int.toNat_zero,dE,List.length_map,go_sem,reduceIte,zA,zB,zC,zD,zE,zF,reduceCtorEq]
   refine sE (v' := .slice ((dC (aq l) q.path).map ag)) 35 (by decide) rfl (by rw [HP]; rfl) ?_
   refine Me (v' := num ((dC (aq l) q.path).length : Int)) 36 (by rw [HP]; rfl) ?_
   refine cY tt_ok [] (fun b : List Rl × List Rq × Nat × Nat × List V × Nat => [(2, .ptr 0 0), (5, .ptr 5 0), (7, .mp 6), (8, .ms 7 b.2.2.1 b.2.2.2.1 b.2.1.length), (9, .ptr 8 0), (35, .slice ((dC (aq l) q.path).map ag)), (36, num (dC (aq l) q.path).length), (37, num b.2.2.2.2.2)]) (fun b : List Rl × List Rq × Nat × Nat × List V × Nat => [.box [.slice (l.map ag), .slice I], .box [.slice (l.map ag), .slice I], .box [.mp 3, .mp 4], .map (bJ aL 0 (gK (aq l))) (gK (aq l)).length, .map (bJ strVal 0 (gP (aq l))) (aO (aq l)).length, .box [.mp 3, .mp 4], .map (bJ aL 0 (gS b.1)) (gS b.1).length, .rows b.2.2.1 2 b.2.2.2.2.1, .box [str q.path, .slice (q.set.map ak)]]) (fun b => (dC (aq l) q.path).length - b.2.2.2.2.2) (fun b => RI (aq l) roots b.1 b.2.1 (fun x => x = q) ∧ (q ∈ roots ∨ ∃ a ∈ b.1, q ∈ a.reqs) ∧ b.2.2.2.2.1.drop b.2.2.2.1 = b.2.1.map aj ∧ b.2.2.2.1 + b.2.1.length = b.2.2.2.2.1.length ∧ b.2.1.length + cz (aq l) b.1 + 1 ≤ P.length + 1 + cz (aq l) S ∧ b.2.2.2.2.2 ≤ (dC (aq l) q.path).length ∧ ∀ r ∈ (dC (aq l) q.path).take b.2.2.2.2.2, has q.set r.aA.place = true → r ∈ b.1) ((S, P, v, o + 1, rs, 0)) 9 (bj (by omega) (by simp only [ae,af,ax,b9,h0,h1,dQ,c6,List.length_cons,aj,al,Nat.add_zero,Int.le_refl,Int.toNat_one,Int.toNat_zero,dE,List.length_map,Int.cast_ofNat_Int,go_sem,reduceIte,zA,zB,zC,zD,zE,zF,reduceCtorEq] <;> rfl)) (⟨HM, hq, kB, jH, by dsimp only; omega, Nat.zero_le _, fun r hr => by simp at hr⟩) ?_
   rintro ⟨S1, P1, v1, o1, nT, j⟩ ⟨pU, w8, kB, jH, Po, hj, jI⟩
   try dsimp only at pU w8 kB jH Po hj jI ⊢
   intro Z3 wG
   simp only [ae,af,ax,b9,h0,h1,dQ,c6,List.length_cons,aj,al,Nat.add_zero,Int.le_refl,Int.toNat_one,Int.toNat_zero,dE,List.length_map,go_sem,reduceIte,zA,zB,zC,zD,zE,zF,reduceCtorEq]
   refine aN (fun jj => ?_) (fun jj => ?_)
   ·have az : j < (dC (aq l) q.path).length := by simpa using jj
    have HN : (dC (aq l) q.path).length ≤ 256 := Nat.le_trans (List.length_filter_le _ _) (gD l)
    have hw := ay j (by omega)
    obtain ⟨x, hx⟩ : ∃ x, (dC (aq l) q.path)[j]? = some x := ⟨_, List.getElem?_eq_getElem az⟩
    have rm := ry.1 (List.mem_of_getElem? hx)
    have zx : x.aA.pl = x.aA.place := by unfold er.pl; rw [if_pos (lP rm.1)]
    have mr := fun (mem : List aw) (b : Nat) hm => tn S1 x.key (mem := mem) (b := b) hm
    simp only [mD] at mr
    have tG : (dC (aq l) q.path).take (j + 1) = (dC (aq l) q.path).take j ++ [x] := hY hx
    have S6 : ∀ r ∈ S1, r ∈ aq l := fun r hr => (pU.sub r hr).mem
    simp only [ae,af,ax,b9,h0,h1,dQ,c6,List.length_cons,aj,al,Nat.add_zero,Int.le_refl,Int.toNat_one,Int.toNat_zero,dE,hw,List.getElem?_map,hx,ag,ab,ah,mr,List.length_map,go_sem,reduceIte,zA,zB,zC,zD,zE,zF,reduceCtorEq]
    refine bu tt_ok aG [⟨.n, 0, [], [], []⟩, ⟨.r, 0, [], [], []⟩, ⟨.n, 0, [], [], []⟩, ⟨.r, 0, [], [], []⟩, ⟨.n, 0, [], [], []⟩, ⟨.n, 0, [], [], []⟩, ⟨.n, 0, [], [], []⟩, ⟨.r, 0, [], [], []⟩, ⟨.r, 0, [], [], []⟩, ⟨.n, 0, [], [], []⟩, ⟨.n, 0, [], [], []⟩, ⟨.n, 0, [], [], []⟩] 0 (by kernel_rfl) ?_
    simp only [ae,af,ax,b9,h0,h1,dQ,c6,List.length_cons,aj,al,Nat.add_zero,Int.le_refl,Int.toNat_one,Int.toNat_zero,dE,hw,List.getElem?_map,hx,ag,ab,ah,mr,List.length_map,go_sem,reduceIte,zA,zB,zC,zD,zE,zF,reduceCtorEq]
    refine cG (by have h := kp x; simp only [ag,ab,ah,aH] at h; exact h) ?_
    rintro _ rfl
    simp only [ae,af,ax,b9,h0,h1,dQ,c6,List.length_cons,aj,al,Nat.add_zero,Int.le_refl,Int.toNat_one,Int.toNat_zero,dE,hw,List.getElem?_map,hx,ag,ab,ah,mr,List.length_map,go_sem,reduceIte,zA,zB,zC,zD,zE,zF,reduceCtorEq]
    refine aN (fun nJ => ?_) (fun nJ => ?_)
    ·simp only [ae,af,ax,b9,h0,h1,dQ,c6,List.length_cons,aj,al,Nat.add_zero,Int.le_refl,Int.toNat_one,Int.toNat_zero,dE,hw,List.getElem?_map,hx,ag,ab,ah,mr,List.length_map,go_sem,reduceIte,zA,zB,zC,zD,zE,zF,reduceCtorEq]
     refine cG (by have h := iB x; simp only [ag,ab,ah] at h; exact h) ?_
     rintro _ rfl
     simp only [ae,af,ax,b9,h0,h1,dQ,c6,List.length_cons,aj,al,Nat.add_zero,Int.le_refl,Int.toNat_one,Int.toNat_zero,dE,hw,List.getElem?_map,hx,ag,ab,ah,mr,List.length_map,go_sem,reduceIte,zA,zB,zC,zD,zE,zF,reduceCtorEq]
     refine cG (by have h := AV q.set x.aA.pl Fm.2; simp only [al] at h; exact h) ?_
     rintro _ rfl
     simp only [ae,af,ax,b9,h0,h1,dQ,c6,List.length_cons,aj,al,Nat.add_zero,Int.le_refl,Int.toNat_one,Int.toNat_zero,dE,hw,List.getElem?_map,hx,ag,ab,ah,mr,List.length_map,go_sem,reduceIte,zA,zB,zC,zD,zE,zF,reduceCtorEq]
     refine aN (fun pV => ?_) (fun pV => ?_)
     ·have S7 : seen S1 x.key = false := by simpa using nJ
      have Pp : has q.set x.aA.place = true := by rw [← zx]; simpa using pV
      have HO : eg q x = true := by unfold eg; rw [Pp, rm.2]; simp
      have wN := pU.Wv w8 rm.1 HO
      have XJ := pT (eI l) rm.1 S7
      have XK := gj rm.1
      have w9 := fun (mem : List aw) (b : Nat) hm => y9 S7 (mem := mem) (b := b) hm
      simp only [mD] at w9
      simp only [ae,af,ax,b9,h0,h1,dQ,c6,List.length_cons,aj,al,Nat.add_zero,Int.le_refl,Int.toNat_one,Int.toNat_zero,dE,hw,List.getElem?_map,hx,ag,ab,ah,mr,w9,List.length_map,go_sem,reduceIte,zA,zB,zC,zD,zE,zF,reduceCtorEq]
      refine cF (by have h := kp x; simp only [ag,ab,ah,aH] at h; exact h) ?_
      rintro _ rfl
      rcases Nat.eq_zero_or_pos o1 with rfl | jN
      ·have jJ : nT.length = P1.length := by omega
       have fO := bI x.reqs
       have eO : P1.length + x.reqs.length ≤ 34359738368 := by omega
       have Dy : (nT ++ x.reqs.map aj).drop 0 = nT.drop 0 ++ x.reqs.map aj := rfl
       have zw : 0 + (P1.length + x.reqs.length) = (nT ++ x.reqs.map aj).length := by rw [List.length_append, List.length_map, jJ, Nat.zero_add]
       let nv : List Rl × List Rq × Nat × Nat × List V × Nat := (S1 ++ [x], P1 ++ x.reqs, v1 + 1, 0, (nT ++ x.reqs.map aj), j + 1)
       have wO : RI (aq l) roots (S1 ++ [x]) (P1 ++ x.reqs) (fun y => y = q) ∧ (q ∈ roots ∨ ∃ a ∈ S1 ++ [x], q ∈ a.reqs) ∧ (nT ++ x.reqs.map aj).drop 0 = (P1 ++ x.reqs).map aj ∧ 0 + (P1 ++ x.reqs).length = (nT ++ x.reqs.map aj).length ∧ (P1 ++ x.reqs).length + cz (aq l) (S1 ++ [x]) + 1 ≤ P.length + 1 + cz (aq l) S ∧ j + 1 ≤ (dC (aq l) q.path).length ∧ ∀ r ∈ (dC (aq l) q.path).take (j + 1), has q.set r.aA.place = true → r ∈ S1 ++ [x] := by
        refine ⟨wN, ?_, by rw [Dy, kB, List.map_append], by rw [List.length_append]; omega, by rw [List.length_append]; omega, az, fun r hr hh => ?_⟩
        ·rcases w8 with h | ⟨a, ha, h⟩
         ·exact .inl h
         ·exact .inr ⟨a, List.mem_append_left _ ha, h⟩
        ·rw [tG] at hr
         rcases List.mem_append.1 hr with hr | hr
         ·exact List.mem_append_left _ (jI r hr hh)
         ·exact List.mem_append_right _ hr
       simp only [ae,af,ax,b9,h0,h1,dQ,c6,List.length_cons,aj,al,Nat.add_zero,Int.le_refl,Int.toNat_one,Int.toNat_zero,dE,hw,List.getElem?_map,hx,ag,ab,ah,mr,w9,jJ,fO,eO,List.length_map,go_sem,reduceIte,zA,zB,zC,zD,zE,zF,reduceCtorEq]
       refine wG _ ⟨nv, ?_, ?_, bj (by omega) (by (first | (simp only [nv,hw,List.length_append,List.length_map,ae,af,ax,go_sem,reduceIte,zA,zB,zC,zD,zE,zF,reduceCtorEq]; done) | (simp only [nv,hw,List.length_append,List.length_map,jJ,ae,af,ax,go_sem,reduceIte,zA,zB,zC,zD,zE,zF,reduceCtorEq]; done)))⟩
       ·exact wO
       ·dsimp only [nv]; omega
      ·obtain ⟨o0, rfl⟩ : ∃ k, o1 = k + 1 := ⟨o1 - 1, by omega⟩
       have fO := bI x.reqs
       have eO : P1.length + x.reqs.length ≤ 34359738368 := by omega
       simp only [ae,af,ax,b9,h0,h1,dQ,c6,List.length_cons,aj,al,Nat.add_zero,Int.le_refl,Int.toNat_one,Int.toNat_zero,dE,hw,List.getElem?_map,hx,ag,ab,ah,mr,w9,jH,fO,eO,List.length_map,go_sem,reduceIte,zA,zB,zC,zD,zE,zF,reduceCtorEq]
       refine Vq ?_
       intro o2 CV Dy zw
       try rw [List.length_map] at zw
       let nv : List Rl × List Rq × Nat × Nat × List V × Nat := (S1 ++ [x], P1 ++ x.reqs, v1 + 1, o2, CV, j + 1)
       have wO : RI (aq l) roots (S1 ++ [x]) (P1 ++ x.reqs) (fun y => y = q) ∧ (q ∈ roots ∨ ∃ a ∈ S1 ++ [x], q ∈ a.reqs) ∧ CV.drop o2 = (P1 ++ x.reqs).map aj ∧ o2 + (P1 ++ x.reqs).length = CV.length ∧ (P1 ++ x.reqs).length + cz (aq l) (S1 ++ [x]) + 1 ≤ P.length + 1 + cz (aq l) S ∧ j + 1 ≤ (dC (aq l) q.path).length ∧ ∀ r ∈ (dC (aq l) q.path).take (j + 1), has q.set r.aA.place = true → r ∈ S1 ++ [x] := by
        refine ⟨wN, ?_, by rw [Dy, kB, List.map_append], by rw [List.length_append]; omega, by rw [List.length_append]; omega, az, fun r hr hh => ?_⟩
        ·rcases w8 with h | ⟨a, ha, h⟩
         ·exact .inl h
         ·exact .inr ⟨a, List.mem_append_left _ ha, h⟩
        ·rw [tG] at hr
         rcases List.mem_append.1 hr with hr | hr
         ·exact List.mem_append_left _ (jI r hr hh)
         ·exact List.mem_append_right _ hr
       simp only [ae,af,ax,b9,h0,h1,dQ,c6,List.length_cons,aj,al,Nat.add_zero,Int.le_refl,Int.toNat_one,Int.toNat_zero,dE,hw,List.getElem?_map,hx,ag,ab,ah,mr,w9,jH,fO,eO,List.length_map,go_sem,reduceIte,zA,zB,zC,zD,zE,zF,reduceCtorEq]
       refine wG _ ⟨nv, ?_, ?_, bj (by omega) (by (first | (simp only [nv,hw,List.length_append,List.length_map,ae,af,ax,go_sem,reduceIte,zA,zB,zC,zD,zE,zF,reduceCtorEq]; done) | (simp only [nv,hw,List.length_append,List.length_map,jJ,ae,af,ax,go_sem,reduceIte,zA,zB,zC,zD,zE,zF,reduceCtorEq]; done)))⟩
       ·exact wO
       ·dsimp only [nv]; omega
     ·let nv : List Rl × List Rq × Nat × Nat × List V × Nat := (S1, P1, v1, o1, nT, j + 1)
      have wO : RI (aq l) roots S1 P1 (fun y => y = q) ∧ (q ∈ roots ∨ ∃ a ∈ S1, q ∈ a.reqs) ∧ nT.drop o1 = P1.map aj ∧ o1 + P1.length = nT.length ∧ P1.length + cz (aq l) S1 + 1 ≤ P.length + 1 + cz (aq l) S ∧ j + 1 ≤ (dC (aq l) q.path).length ∧ ∀ r ∈ (dC (aq l) q.path).take (j + 1), has q.set r.aA.place = true → r ∈ S1 := by
       refine ⟨pU, w8, kB, jH, Po, az, fun r hr hh => ?_⟩
       rw [tG] at hr
       rcases List.mem_append.1 hr with hr | hr
       ·exact jI r hr hh
       ·rw [List.mem_singleton] at hr; subst hr
        refine (lO (eI l) S6 rm.1).1 ?_
        first | exact mM | (rw [zx, hh] at pV; cases pV)
      simp only [ae,af,ax,b9,h0,h1,dQ,c6,List.length_cons,aj,al,Nat.add_zero,Int.le_refl,Int.toNat_one,Int.toNat_zero,dE,hw,List.getElem?_map,hx,ag,ab,ah,mr,List.length_map,go_sem,reduceIte,zA,zB,zC,zD,zE,zF,reduceCtorEq]
      refine wG _ ⟨nv, ?_, ?_, bj (by omega) (by (first | (simp only [nv,hw,List.length_append,List.length_map,ae,af,ax,go_sem,reduceIte,zA,zB,zC,zD,zE,zF,reduceCtorEq]; done) | (simp only [nv,hw,List.length_append,List.length_map,jJ,ae,af,ax,go_sem,reduceIte,zA,zB,zC,zD,zE,zF,reduceCtorEq]; done)))⟩
      ·exact wO
      ·dsimp only [nv]; omega
    ·have mM : seen S1 x.key = true := by simpa using nJ
     let nv : List Rl × List Rq × Nat × Nat × List V × Nat := (S1, P1, v1, o1, nT, j + 1)
     have wO : RI (aq l) roots S1 P1 (fun y => y = q) ∧ (q ∈ roots ∨ ∃ a ∈ S1, q ∈ a.reqs) ∧ nT.drop o1 = P1.map aj ∧ o1 + P1.length = nT.length ∧ P1.length + cz (aq l) S1 + 1 ≤ P.length + 1 + cz (aq l) S ∧ j + 1 ≤ (dC (aq l) q.path).length ∧ ∀ r ∈ (dC (aq l) q.path).take (j + 1), has q.set r.aA.place = true → r ∈ S1 := by
      refine ⟨pU, w8, kB, jH, Po, az, fun r hr hh => ?_⟩
      rw [tG] at hr
      rcases List.mem_append.1 hr with hr | hr
      ·exact jI r hr hh
      ·rw [List.mem_singleton] at hr; subst hr
       refine (lO (eI l) S6 rm.1).1 ?_
       first | exact mM | (rw [zx, hh] at pV; cases pV)
     simp only [ae,af,ax,b9,h0,h1,dQ,c6,List.length_cons,aj,al,Nat.add_zero,Int.le_refl,Int.toNat_one,Int.toNat_zero,dE,hw,List.getElem?_map,hx,ag,ab,ah,mr,List.length_map,go_sem,reduceIte,zA,zB,zC,zD,zE,zF,reduceCtorEq]
     refine wG _ ⟨nv, ?_, ?_, bj (by omega) (by (first | (simp only [nv,hw,List.length_append,List.length_map,ae,af,ax,go_sem,reduceIte,zA,zB,zC,zD,zE,zF,reduceCtorEq]; done) | (simp only [nv,hw,List.length_append,List.length_map,jJ,ae,af,ax,go_sem,reduceIte,zA,zB,zC,zD,zE,zF,reduceCtorEq]; done)))⟩
     ·exact wO
     ·dsimp only [nv]; omega
   ·have cH : ¬ j < (dC (aq l) q.path).length := by simpa using jj
    have wN := pU.close fun r hr hh => jI r (by rw [List.take_of_length_le (by omega)]; exact ry.2 ⟨hr, (me hh).symm⟩) (by unfold eg at hh; simp at hh; exact hh.2)
    simp only [ae,af,ax,b9,h0,h1,dQ,c6,List.length_cons,aj,al,Nat.add_zero,Int.le_refl,Int.toNat_one,Int.toNat_zero,dE,List.length_map,go_sem,reduceIte,zA,zB,zC,zD,zE,zF,reduceCtorEq]
    refine cd _ ⟨(S1, P1, v1, o1, nT), ?_, ?_, bj (by omega) (by (simp only [ae,af,ax,go_sem,reduceIte,zA,zB,zC,zD,zE,zF,reduceCtorEq]))⟩
    ·exact ⟨wN, kB, jH, by dsimp only; omega⟩
    ·dsimp only; omega
 ·obtain rfl : P = [] := by
   cases P with
   | nil => rfl
   | cons q r => simp at fm
  obtain ⟨ks, L6⟩ : ∃ ks : Nat → List dA, ks = fun i => ((l.take i).filter fun r => seen S r.key).map Rl.key := ⟨_, rfl⟩
  have Ww : ks 0 = [] := by rw [L6]; rfl
  simp only [ae,af,ax,List.length_map,go_sem,reduceIte,zA,zB,zC,zD,zE,zF,reduceCtorEq]
  refine D0 12 0 4 (by decide) rfl ?_
  refine cY tt_ok [] (fun i : Nat => [(7, .mp 6), (12, .ms 8 (ks i).length 0 (ks i).length), (62, .slice (l.map ag)), (63, num l.length), (64, num i)]) (fun i : Nat => [.box [.slice (l.map ag), .slice I], .box [.slice (l.map ag), .slice I], .box [.mp 3, .mp 4], .map (bJ aL 0 (gK (aq l))) (gK (aq l)).length, .map (bJ strVal 0 (gP (aq l))) (aO (aq l)).length, .box [.mp 3, .mp 4], .map (bJ aL 0 (gS S)) (gS S).length, .rows v 2 rs, .rows (ks i).length 4 ((ks i).map aH)]) (fun i => l.length - i) (fun i => i ≤ l.length) (0) 9 (bj (by omega) (by simp only [ae,af,ax,List.length_map,Ww,List.map_nil,List.length_nil,Int.cast_ofNat_Int,go_sem,reduceIte,zA,zB,zC,zD,zE,zF,reduceCtorEq] <;> rfl)) (Nat.zero_le _) ?_
  intro i hi
  try dsimp only at hi ⊢
  intro Z4 S8
  simp only [ae,af,ax,List.length_map,go_sem,reduceIte,zA,zB,zC,zD,zE,zF,reduceCtorEq]
  refine aN (fun Pq => ?_) (fun Pq => ?_)
  ·have az : i < l.length := by simpa using Pq
   have hw := ay i (by omega)
   obtain ⟨x, hx⟩ : ∃ x, l[i]? = some x := ⟨_, List.getElem?_eq_getElem az⟩
   have K1 : ks (i + 1) = ks i ++ (if seen S x.key = true then [x.key] else []) := by
    rw [L6]
    dsimp only
    rw [hY hx, List.filter_append, List.map_append]
    by_cases Jf : seen S x.key = true <;> simp [Jf]
   have mr := fun (mem : List aw) (b : Nat) hm => tn S x.key (mem := mem) (b := b) hm
   simp only [mD] at mr
   have Ri : (ks i).length ≤ 1048576 := by
    rw [L6]
    dsimp only
    rw [List.length_map]
    exact Nat.le_trans (List.length_filter_le _ _) (by rw [List.length_take]; have := hb.1; omega)
   have dD : (ks i).length + 1 ≤ 34359738368 := by omega
   simp only [ae,af,ax,hw,List.getElem?_map,hx,ag,ab,ah,mr,dD,List.length_cons,List.length_nil,Nat.zero_add,List.length_map,go_sem,reduceIte,zA,zB,zC,zD,zE,zF,reduceCtorEq]
   refine cF (by have h := kp x; simp only [ag,ab,ah,aH] at h; exact h) ?_
   rintro _ rfl
   simp only [ae,af,ax,hw,List.getElem?_map,hx,ag,ab,ah,mr,dD,List.length_cons,List.length_nil,Nat.zero_add,List.length_map,go_sem,reduceIte,zA,zB,zC,zD,zE,zF,reduceCtorEq]
   refine aN (fun Pr => ?_) (fun Pr => ?_)
   ·rw [if_pos (by simpa using Pr)] at K1
    have fO : ck [V.agg [str x.key.path, num x.key.aA.mj, num x.key.aA.mn, num x.key.aA.pt]] 0 4 = true := rfl
    simp only [ae,af,ax,hw,List.getElem?_map,hx,ag,ab,ah,mr,dD,List.length_cons,List.length_nil,Nat.zero_add,fO,List.length_map,go_sem,reduceIte,zA,zB,zC,zD,zE,zF,reduceCtorEq]
    refine cF (by have h := kp x; simp only [ag,ab,ah,aH] at h; exact h) ?_
    rintro _ rfl
    simp only [ae,af,ax,hw,List.getElem?_map,hx,ag,ab,ah,mr,dD,List.length_cons,List.length_nil,Nat.zero_add,fO,List.length_map,go_sem,reduceIte,zA,zB,zC,zD,zE,zF,reduceCtorEq]
    refine S8 _ ⟨i + 1, ?_, ?_, bj (by omega) (by (simp only [K1,hw,List.map_append,List.map_cons,List.map_nil,List.length_append,List.length_map,List.length_cons,List.length_nil,Nat.zero_add,aH,ae,af,ax,go_sem,reduceIte,zA,zB,zC,zD,zE,zF,reduceCtorEq]))⟩
    ·exact az
    ·omega
   ·rw [if_neg (by simpa using Pr), List.append_nil] at K1
    simp only [ae,af,ax,hw,List.getElem?_map,hx,ag,ab,ah,mr,dD,List.length_cons,List.length_nil,Nat.zero_add,List.length_map,go_sem,reduceIte,zA,zB,zC,zD,zE,zF,reduceCtorEq]
    refine S8 _ ⟨i + 1, ?_, ?_, bj (by omega) (by (simp only [K1,hw,List.map_append,List.map_cons,List.map_nil,List.length_append,List.length_map,List.length_cons,List.length_nil,Nat.zero_add,aH,ae,af,ax,go_sem,reduceIte,zA,zB,zC,zD,zE,zF,reduceCtorEq]))⟩
    ·exact az
    ·omega
  ·have cH : ¬ i < l.length := by simpa using Pq
   have vu : i = l.length := by omega
   subst vu
   have au : ks l.length = (bS (aq l) roots).map Rl.key := by
    rw [L6]
    dsimp only
    rw [List.take_length, tp HL (eI l)]
    unfold aq
    split
    ·rfl
    ·rename_i Wx
     have Zu : S = [] := by
      cases S with
      | nil => rfl
      | cons a t => have h := (HL.sub a (by simp)).mem; unfold aq at h; rw [if_neg Wx] at h; simp at h
     subst Zu
     simp [seen]
   simp only [ae,af,ax,List.length_map,go_sem,reduceIte,zA,zB,zC,zD,zE,zF,reduceCtorEq]
   refine hK _ ?_
   try simp only [tQ,Tryz.f13,ix,se,xI,LQ,List.length_map,List.take_length,← au,aX,go_sem,reduceIte,zA,zB,zC,zD,zE,zF,reduceCtorEq]
   simp [fi, bU]
   exact List.take_of_length_le (by simp)
end Go.Proofs.YtnfeacnbgbggfaaGreatDoor
end

section
namespace Go.Proofs.YtnfeacnbgbggfaaGreatDoor
open Go.Eng
open Nat renaming reduceAdd → zA, reduceLT → zB, reduceLeDiff → zC, reduceMul → zD, reduceEqDiff → zE, reduceSub → zF
variable [aE]
set_option maxHeartbeats 4000000
set_option maxRecDepth 100000
def qI (q : Rq) : Bool := !(decide (100 < q.path.size) || decide (8 < q.set.length))
def tr (l : List Rq) : Bool := l.all qI && decide (l.length ≤ 20)
def iX (r : Rl) : Bool := !(decide (100 < r.path.size) || decide (100 < r.ar.size) || decide (100 < r.fY.size) || decide (100 < r.ce.size) || !tr r.reqs)
def mE (l : List Rl) (n : Nat) : Bool := l.all iX && decide (l.length ≤ n)
theorem nK {α : Type} {l : List α} {p : α → Bool} {i : Nat} {x : α} (h : l[i]? = some x) (hx : p x = false) : l.all p = false := by
 rw [List.all_eq_false]
 exact ⟨x, List.mem_of_getElem? h, by simp [hx]⟩
theorem CW {α : Type} {l : List α} {p : α → Bool} {i : Nat} (hi : ¬ i < l.length) (h : ∀ j < i, ∀ x, l[j]? = some x → p x = true) : l.all p = true := by
 rw [List.all_eq_true]
 intro x hx
 obtain ⟨j, hj, rfl⟩ := List.getElem_of_mem hx
 exact h j (by omega) _ (List.getElem?_eq_getElem hj)
theorem CX (l : List Rq) (hl : l.length ≤ 1048576) : ∃ r_, (fun w => w = bl (tr l)) r_ ∧ aQ Tryz.prog 11 [ah l] r_ := by
 refine dZ tt_ok [] 29 [.tmp 2] (fn := Tryz.f11) Tryz.func11 rfl Tryz.call11 ⟨rfl, rfl, by simp⟩ fun K hK => ?_
 have fL : Tryz.prog.underlying 9 = some .string := by kernel_rfl
 have sl : ∀ (a : ByteArray) (ty : TypeId), cI Tryz.prog (Builtin.len_ #[9] ty) [.sc (.string a)] = some (num a.size) := fun a ty => ct (P := Tryz.prog) (tt := tt) (T := 9) a fL ty
 simp only [ah]
 simp only [sl,List.length_map,go_sem,reduceIte,zA,zB,zC,zD,zE,zF,reduceCtorEq]
 refine bx tt_ok [] [3] 0 [0] (fun vs => ((l.length : Int) - Go.Eng.intOf (vs.headD .undef)).toNat) (fun vs => ∃ i : Nat, vs = [num i] ∧ i ≤ l.length ∧ ∀ j < i, ∀ x, l[j]? = some x → qI x = true) (by omega) (by simp only [sl,List.length_map,go_sem,reduceIte,zA,zB,zC,zD,zE,zF,reduceCtorEq]) (⟨0, rfl, Nat.zero_le _, fun j hj => absurd hj (Nat.not_lt_zero j)⟩) fun vs hI Z1 cd => ?_
 obtain ⟨i, rfl, hi, aV⟩ := hI
 simp only [sl,List.length_map,go_sem,reduceIte,zA,zB,zC,zD,zE,zF,reduceCtorEq]
 refine aN (fun AS => ?_) (fun AS => ?_)
 ·have az : i < l.length := by simpa using AS
  have hw := ay i (by omega)
  obtain ⟨x, hx⟩ : ∃ x, l[i]? = some x := ⟨_, List.getElem?_eq_getElem az⟩
  simp only [hw,List.getElem?_map,hx,aj,al,sl,List.length_map,go_sem,reduceIte,zA,zB,zC,zD,zE,zF,reduceCtorEq]
  refine aN (fun HQ => ?_) (fun HQ => ?_)
  ·have jc : qI x = false := by unfold qI; simp_all <;> omega
   have au : false = tr l := by unfold tr; rw [nK hx jc]; rfl
   simp only [hw,List.getElem?_map,hx,aj,al,sl,List.length_map,go_sem,reduceIte,zA,zB,zC,zD,zE,zF,reduceCtorEq]
   exact hK _ (congrArg bl au)
  ·simp only [hw,List.getElem?_map,hx,aj,al,sl,List.length_map,go_sem,reduceIte,zA,zB,zC,zD,zE,zF,reduceCtorEq]
   refine aN (fun fm => ?_) (fun fm => ?_)
   ·have jc : qI x = false := by unfold qI; simp_all <;> omega
    have au : false = tr l := by unfold tr; rw [nK hx jc]; rfl
    simp only [hw,List.getElem?_map,hx,aj,al,sl,List.length_map,go_sem,reduceIte,zA,zB,zC,zD,zE,zF,reduceCtorEq]
    exact hK _ (congrArg bl au)
   ·simp only [hw,List.getElem?_map,hx,aj,al,sl,List.length_map,go_sem,reduceIte,zA,zB,zC,zD,zE,zF,reduceCtorEq]
    refine cd _ (cC (by omega) (by simp only [hw,List.getElem?_map,hx,aj,al,sl,List.length_map,go_sem,reduceIte,zA,zB,zC,zD,zE,zF,reduceCtorEq]) ?_ ?_) <;> simp only [fh,lk,reduceIte,zE]
    ·refine ⟨i + 1, rfl, az, fun j hj => ?_⟩
     rcases Nat.lt_or_ge j i with h | h
     ·exact aV j h
     ·obtain rfl : j = i := by omega
      intro y hy
      rw [hx] at hy; cases hy; unfold qI; simp_all <;> omega
    ·simp only [Go.Eng.intOf,List.headD_cons]; omega
 ·have cH : ¬ i < l.length := by simpa using AS
  have hlen : decide ((l.length : Int) ≤ 20) = decide (l.length ≤ 20) := by rw [Bool.eq_iff_iff, decide_eq_true_eq, decide_eq_true_eq]; omega
  have au : decide ((l.length : Int) ≤ 20) = tr l := by rw [hlen]; unfold tr; rw [CW cH aV]; rfl
  simp only [sl,List.length_map,go_sem,reduceIte,zA,zB,zC,zD,zE,zF,reduceCtorEq]
  exact hK _ (congrArg bl au)
theorem K2 (l : List Rl) (n : Nat) (hb : w6 l) : ∃ r_, (fun w => w = bl (mE l n)) r_ ∧ aQ Tryz.prog 10 [bh l, num (n : Nat)] r_ := by
 refine dZ tt_ok [] 59 [.tmp 4] (fn := Tryz.f10) Tryz.func10 rfl Tryz.call10 ⟨rfl, rfl, by simp⟩ fun K hK => ?_
 have Bj := hb.1
 have fL : Tryz.prog.underlying 9 = some .string := by kernel_rfl
 have sl : ∀ (a : ByteArray) (ty : TypeId), cI Tryz.prog (Builtin.len_ #[9] ty) [.sc (.string a)] = some (num a.size) := fun a ty => ct (P := Tryz.prog) (tt := tt) (T := 9) a fL ty
 simp only [bh]
 simp only [sl,List.length_map,go_sem,reduceIte,zA,zB,zC,zD,zE,zF,reduceCtorEq]
 refine bx tt_ok [] [5] 0 [0,1] (fun vs => ((l.length : Int) - Go.Eng.intOf (vs.headD .undef)).toNat) (fun vs => ∃ i : Nat, vs = [num i] ∧ i ≤ l.length ∧ ∀ j < i, ∀ x, l[j]? = some x → iX x = true) (by omega) (by simp only [sl,List.length_map,go_sem,reduceIte,zA,zB,zC,zD,zE,zF,reduceCtorEq]) (⟨0, rfl, Nat.zero_le _, fun j hj => absurd hj (Nat.not_lt_zero j)⟩) fun vs hI Z1 cd => ?_
 obtain ⟨i, rfl, hi, aV⟩ := hI
 simp only [sl,List.length_map,go_sem,reduceIte,zA,zB,zC,zD,zE,zF,reduceCtorEq]
 refine aN (fun ga => ?_) (fun ga => ?_)
 ·have az : i < l.length := by simpa using ga
  have hw := ay i (by omega)
  obtain ⟨x, hx⟩ : ∃ x, l[i]? = some x := ⟨_, List.getElem?_eq_getElem az⟩
  simp only [hw,List.getElem?_map,hx,ag,ab,ah,sl,List.length_map,go_sem,reduceIte,zA,zB,zC,zD,zE,zF,reduceCtorEq]
  refine aN (fun HQ => ?_) (fun HQ => ?_)
  ·have jc : iX x = false := by unfold iX; simp_all <;> omega
   have au : false = mE l n := by unfold mE; rw [nK hx jc]; rfl
   simp only [hw,List.getElem?_map,hx,ag,ab,ah,sl,List.length_map,go_sem,reduceIte,zA,zB,zC,zD,zE,zF,reduceCtorEq]
   exact hK _ (congrArg bl au)
  ·simp only [hw,List.getElem?_map,hx,ag,ab,ah,sl,List.length_map,go_sem,reduceIte,zA,zB,zC,zD,zE,zF,reduceCtorEq]
   refine aN (fun Ps => ?_) (fun Ps => ?_)
   ·have jc : iX x = false := by unfold iX; simp_all <;> omega
    have au : false = mE l n := by unfold mE; rw [nK hx jc]; rfl
    simp only [hw,List.getElem?_map,hx,ag,ab,ah,sl,List.length_map,go_sem,reduceIte,zA,zB,zC,zD,zE,zF,reduceCtorEq]
    exact hK _ (congrArg bl au)
   ·simp only [hw,List.getElem?_map,hx,ag,ab,ah,sl,List.length_map,go_sem,reduceIte,zA,zB,zC,zD,zE,zF,reduceCtorEq]
    refine aN (fun Pt => ?_) (fun Pt => ?_)
    ·have jc : iX x = false := by unfold iX; simp_all <;> omega
     have au : false = mE l n := by unfold mE; rw [nK hx jc]; rfl
     simp only [hw,List.getElem?_map,hx,ag,ab,ah,sl,List.length_map,go_sem,reduceIte,zA,zB,zC,zD,zE,zF,reduceCtorEq]
     exact hK _ (congrArg bl au)
    ·simp only [hw,List.getElem?_map,hx,ag,ab,ah,sl,List.length_map,go_sem,reduceIte,zA,zB,zC,zD,zE,zF,reduceCtorEq]
     refine aN (fun Pu => ?_) (fun Pu => ?_)
     ·have jc : iX x = false := by unfold iX; simp_all <;> omega
      have au : false = mE l n := by unfold mE; rw [nK hx jc]; rfl
      simp only [hw,List.getElem?_map,hx,ag,ab,ah,sl,List.length_map,go_sem,reduceIte,zA,zB,zC,zD,zE,zF,reduceCtorEq]
      exact hK _ (congrArg bl au)
     ·simp only [hw,List.getElem?_map,hx,ag,ab,ah,sl,List.length_map,go_sem,reduceIte,zA,zB,zC,zD,zE,zF,reduceCtorEq]
      refine cF (by have h := CX x.reqs (hb.2 x (List.mem_of_getElem? hx)).2.1; simp only [ah] at h; exact h) ?_
      rintro _ rfl
      simp only [hw,List.getElem?_map,hx,ag,ab,ah,sl,List.length_map,go_sem,reduceIte,zA,zB,zC,zD,zE,zF,reduceCtorEq]
      refine aN (fun pJ => ?_) (fun pJ => ?_)
      ·have jc : iX x = false := by unfold iX; simp_all <;> omega
       have au : false = mE l n := by unfold mE; rw [nK hx jc]; rfl
       simp only [hw,List.getElem?_map,hx,ag,ab,ah,sl,List.length_map,go_sem,reduceIte,zA,zB,zC,zD,zE,zF,reduceCtorEq]
       exact hK _ (congrArg bl au)
      ·simp only [hw,List.getElem?_map,hx,ag,ab,ah,sl,List.length_map,go_sem,reduceIte,zA,zB,zC,zD,zE,zF,reduceCtorEq]
       refine cd _ (cC (by omega) (by simp only [hw,List.getElem?_map,hx,ag,ab,ah,sl,List.length_map,go_sem,reduceIte,zA,zB,zC,zD,zE,zF,reduceCtorEq]) ?_ ?_) <;> simp only [fh,lk,reduceIte,zE]
       ·refine ⟨i + 1, rfl, az, fun j hj => ?_⟩
        rcases Nat.lt_or_ge j i with h | h
        ·exact aV j h
        ·obtain rfl : j = i := by omega
         intro y hy
         rw [hx] at hy; cases hy; unfold iX; simp_all <;> omega
       ·simp only [Go.Eng.intOf,List.headD_cons]; omega
 ·have cH : ¬ i < l.length := by simpa using ga
  have hlen : decide ((l.length : Int) ≤ (n : Int)) = decide (l.length ≤ n) := by rw [Bool.eq_iff_iff, decide_eq_true_eq, decide_eq_true_eq]; omega
  have au : decide ((l.length : Int) ≤ (n : Int)) = mE l n := by rw [hlen]; unfold mE; rw [CW cH aV]; rfl
  simp only [sl,List.length_map,go_sem,reduceIte,zA,zB,zC,zD,zE,zF,reduceCtorEq]
  exact hK _ (congrArg bl au)
end Go.Proofs.YtnfeacnbgbggfaaGreatDoor
end

section
namespace Go.Proofs.YtnfeacnbgbggfaaGreatDoor
open Go.Eng
variable [aE]
set_option maxHeartbeats 4000000
set_option maxRecDepth 100000
theorem K3 {l : List Rq} (h : tr l = true) : l.length ≤ 20 ∧ ∀ q ∈ l, q.path.size ≤ 100 ∧ q.set.length ≤ 8 := by
 unfold tr at h
 rw [Bool.and_eq_true, decide_eq_true_eq, List.all_eq_true] at h
 refine ⟨h.2, fun q hq => ?_⟩
 have := h.1 q hq
 unfold qI at this
 simp only [Bool.not_eq_true',Bool.or_eq_false_iff,decide_eq_false_iff_not] at this
 omega
theorem K4 {l : List Rl} {n : Nat} (h : mE l n = true) : l.length ≤ n ∧ ∀ r ∈ l, r.path.size ≤ 100 ∧ r.ar.size ≤ 100 ∧ r.fY.size ≤ 100 ∧ r.ce.size ≤ 100 ∧ tr r.reqs = true := by
 unfold mE at h
 rw [Bool.and_eq_true, decide_eq_true_eq, List.all_eq_true] at h
 refine ⟨h.2, fun r hr => ?_⟩
 have := h.1 r hr
 unfold iX at this
 simp only [Bool.not_eq_true',Bool.or_eq_false_iff,decide_eq_false_iff_not,Bool.not_eq_false'] at this
 refine ⟨by omega, by omega, by omega, by omega, by simpa using this.2⟩
theorem oU (t : ByteArray) (k : Nat) (h : t.size ≤ k) (hk : k ≤ 1048576) : (eT t).length ≤ k + 10 := by
 unfold eT; rw [List.length_append, eU]
 have := lF (n := t.size) (by omega)
 omega
theorem K5 {r : Rl} (hw : T6 r) (h : mE [r] 1 = true) : (pM r).length ≤ 10000 := by
 obtain ⟨h1, h2, h3, h4, h5⟩ := (K4 h).2 r (by simp)
 obtain ⟨h6, h7⟩ := K3 h5
 have hv := ru hw.aA
 have a1 := oU r.path 100 h1 (by decide)
 have a2 := oU r.ar 100 h2 (by decide)
 have a3 := oU r.fY 100 h3 (by decide)
 have a4 := oU r.ce 100 h4 (by decide)
 have a5 := du (n := r.aA.mn) (by omega) (by omega)
 have a6 := du (n := r.aA.pt) (by omega) (by omega)
 have a7 := du (n := w7 r) (by have := nB r; omega) (by have := nB r; omega)
 have a8 := du (n := (r.reqs.length : Int)) (by omega) (by omega)
 have a9 := fG (g := uW) (l := r.reqs) (k := 280) fun q hq => by
  obtain ⟨b1, b2⟩ := h7 q hq
  have c1 := oU q.path 100 b1 (by decide)
  have c2 := du (n := (q.set.length : Int)) (by omega) (by omega)
  have c3 := wF (kz (hw.reqs q hq))
  unfold uW
  simp only [List.length_append]
  omega
 unfold pM Fe
 simp only [List.length_append]
 omega
theorem K6 {r : Rl} (h : ey [r] = 0) : Es r = .bP [str (bs (pM r)), num 0] := if_pos h
end Go.Proofs.YtnfeacnbgbggfaaGreatDoor
end

section
namespace Go.Proofs.YtnfeacnbgbggfaaGreatDoor
open Go.Eng
open Nat renaming reduceAdd → zA, reduceLT → zB, reduceLeDiff → zC, reduceMul → zD, reduceEqDiff → zE, reduceSub → zF
variable [aE]
set_option maxHeartbeats 4000000
set_option maxRecDepth 100000
def IW (r : Rl) : bF := ⟨r.aA.pl, r.aA.pl + 1⟩
def wP (t : List Rl) : List bF := (t.filter fun r => !r.yk).map IW
theorem zb {G : List Rl} {i : Nat} {x : Rl} (h : G[i]? = some x) : wP (G.take (i + 1)) = wP (G.take i) ++ (if x.yk = true then [] else [IW x]) := by
 unfold wP
 rw [List.take_add_one, h, List.filter_append, List.map_append]
 cases hx : x.yk <;> simp [hx]
theorem Mu (v : er) : 0 ≤ v.pl ∧ v.pl < 1000000 := by
 unfold er.pl
 split
 ·rename_i h; exact ⟨(kn h).2.2.1, (kn h).2.2.2⟩
 ·omega
theorem HR (hG : aE.g = some 0) (l : List Rl) (I : List V) (hb : w6 l) (p : ByteArray) : aQ Tryz.prog 43 [bA l I, str p] (al (canon (wP (dC (aq l) p)))) := by
 refine Sd tt_ok [] 39 [.tmp 4] (fn := Tryz.f43) Tryz.func43 rfl Tryz.call43 ⟨rfl, rfl, by simp⟩ fun K hK => ?_
 simp only [bA,bh]
 have Bj := hb.1
 simp only [ae,af,List.length_map,go_sem,reduceIte,zA,zB,zC,zD,zE,zF,reduceCtorEq]
 refine cW (by have h := lM hG l I hb; simp only [bA,bh] at h; exact h _) ?_
 rintro _ _ ⟨rfl, rfl⟩
 try simp only [Fa,S5,List.length_cons,List.length_nil,zA]
 by_cases fS : p ∈ aO (aq l)
 ·have dE := fun (mem : List aw) (b : Nat) hm => rz (aq l) p (mem := mem) (b := b) hm
  simp only [if_pos fS,bX] at dE
  simp only [ae,af,dE,List.length_map,go_sem,reduceIte,zA,zB,zC,zD,zE,zF,reduceCtorEq]
  refine D0 7 0 2 (by decide) rfl ?_
  refine cY tt_ok [] (fun a : Nat × List bF => [(7, .ms 6 a.2.length 0 a.2.length), (18, .slice ((dC (aq l) p).map ag)), (19, num (dC (aq l) p).length), (20, num a.1)]) (fun a : Nat × List bF => [.box [.slice (l.map ag), .slice I], .box [.slice (l.map ag), .slice I], .box [.mp 3, .mp 4], .map (bJ aL 0 (gK (aq l))) (gK (aq l)).length, .map (bJ strVal 0 (gP (aq l))) (aO (aq l)).length, .box [.mp 3, .mp 4], .rows a.2.length 2 (a.2.map ak)]) (fun a => (dC (aq l) p).length - a.1) (fun a => a.1 ≤ (dC (aq l) p).length ∧ a.2 = wP ((dC (aq l) p).take a.1)) ((0, [])) 7 (bj (by omega) (by simp only [ae,af,dE,List.length_map,List.map_nil,List.length_nil,Int.cast_ofNat_Int,go_sem,reduceIte,zA,zB,zC,zD,zE,zF,reduceCtorEq] <;> rfl)) (⟨Nat.zero_le _, rfl⟩) ?_
  rintro ⟨i, L⟩ ⟨hi, hL⟩
  try dsimp only at hi hL ⊢
  intro Z1 cd
  simp only [ae,af,dE,List.length_map,go_sem,reduceIte,zA,zB,zC,zD,zE,zF,reduceCtorEq]
  refine aN (fun gV => ?_) (fun gV => ?_)
  ·have az : i < (dC (aq l) p).length := by simpa using gV
   have HN : (dC (aq l) p).length ≤ 256 := Nat.le_trans (List.length_filter_le _ _) (gD l)
   have hw := ay i (by omega)
   obtain ⟨x, hx⟩ : ∃ x, (dC (aq l) p)[i]? = some x := ⟨_, List.getElem?_eq_getElem az⟩
   have mM := zb hx
   have Zv := Mu x.aA
   have K7 : IntKind.i64.wrap (x.aA.pl + 1) = x.aA.pl + 1 := IntWalk.i64_in _ (by omega)
   have fO : ∀ a b : Int, ck [V.agg [num a, num b]] 0 2 = true := fun _ _ => rfl
   have Ed : L.length ≤ 256 := by
    rw [hL]; unfold wP
    rw [List.length_map]
    exact Nat.le_trans (List.length_filter_le _ _) (by rw [List.length_take]; omega)
   have eO : L.length + 1 ≤ 34359738368 := by omega
   simp only [ae,af,dE,hw,List.getElem?_map,hx,ag,ab,ah,Option.map_some,List.length_map,go_sem,reduceIte,zA,zB,zC,zD,zE,zF,reduceCtorEq]
   refine aN (fun gh => ?_) (fun gh => ?_)
   ·have K0 : x.yk = false := by simpa using gh
    rw [if_neg (by simp [K0])] at mM
    let nv : Nat × List bF := (i + 1, L ++ [IW x])
    have Pv : L ++ [IW x] = wP ((dC (aq l) p).take (i + 1)) := by rw [mM, hL]
    simp only [ae,af,dE,hw,List.getElem?_map,hx,ag,ab,ah,Option.map_some,K7,fO,eO,List.length_cons,List.length_nil,Nat.zero_add,List.length_map,go_sem,reduceIte,zA,zB,zC,zD,zE,zF,reduceCtorEq]
    refine bu tt_ok aG [⟨.n, 0, [], [], []⟩, ⟨.r, 0, [], [], []⟩, ⟨.n, 0, [], [1], []⟩, ⟨.r, 0, [], [], []⟩, ⟨.n, 0, [], [1,2,3], []⟩, ⟨.n, 0, [], [1,2,3,4], []⟩, ⟨.n, 0, [], [1,2,3,4,5], []⟩, ⟨.n, 0, [], [1,2,3,4,5,6], []⟩, ⟨.w, 0, [], [0,1,2,3,4,5,6,7], []⟩, ⟨.n, 0, [], [0,1,2,3,4,5,6,7,8], []⟩] 1 (by kernel_rfl) ?_
    simp only [ae,af,dE,hw,List.getElem?_map,hx,ag,ab,ah,Option.map_some,K7,fO,eO,List.length_cons,List.length_nil,Nat.zero_add,List.length_map,go_sem,reduceIte,zA,zB,zC,zD,zE,zF,reduceCtorEq]
    refine cG (by have h := iB x; simp only [ag,ab,ah] at h; exact h) ?_
    rintro _ rfl
    simp only [ae,af,dE,hw,List.getElem?_map,hx,ag,ab,ah,Option.map_some,K7,fO,eO,List.length_cons,List.length_nil,Nat.zero_add,List.length_map,go_sem,reduceIte,zA,zB,zC,zD,zE,zF,reduceCtorEq]
    refine cG (by have h := iB x; simp only [ag,ab,ah] at h; exact h) ?_
    rintro _ rfl
    simp only [ae,af,dE,hw,List.getElem?_map,hx,ag,ab,ah,Option.map_some,K7,fO,eO,List.length_cons,List.length_nil,Nat.zero_add,List.length_map,go_sem,reduceIte,zA,zB,zC,zD,zE,zF,reduceCtorEq]
    refine cd _ ⟨nv, ?_, ?_, bj (by omega) (by (simp only [nv,hw,List.map_append,List.map_cons,List.map_nil,List.length_append,List.length_map,List.length_cons,List.length_nil,Nat.zero_add,ak,IW,ae,af,go_sem,reduceIte,zA,zB,zC,zD,zE,zF,reduceCtorEq]))⟩
    ·exact ⟨az, Pv⟩
    ·dsimp only [nv]; omega
   ·have K0 : x.yk = true := by simpa using gh
    rw [if_pos K0] at mM
    let nv : Nat × List bF := (i + 1, L)
    have Pv : L = wP ((dC (aq l) p).take (i + 1)) := by rw [mM, hL, List.append_nil]
    simp only [ae,af,dE,hw,List.getElem?_map,hx,ag,ab,ah,Option.map_some,List.length_map,go_sem,reduceIte,zA,zB,zC,zD,zE,zF,reduceCtorEq]
    refine cd _ ⟨nv, ?_, ?_, bj (by omega) (by (simp only [nv,hw,List.map_append,List.map_cons,List.map_nil,List.length_append,List.length_map,List.length_cons,List.length_nil,Nat.zero_add,ak,IW,ae,af,go_sem,reduceIte,zA,zB,zC,zD,zE,zF,reduceCtorEq]))⟩
    ·exact ⟨az, Pv⟩
    ·dsimp only [nv]; omega
  ·have cH : ¬ i < (dC (aq l) p).length := by simpa using gV
   have vu : i = (dC (aq l) p).length := by omega
   have S9 : L = wP (dC (aq l) p) := by rw [hL, vu, List.take_length]
   have Ed : L.length ≤ 1048576 := by
    rw [S9]; unfold wP
    rw [List.length_map]
    exact Nat.le_trans (List.length_filter_le _ _) (Nat.le_trans (List.length_filter_le _ _) (by have := gD l; omega))
   have HS : List.take L.length (L.map ak) = L.map ak := List.take_of_length_le (by simp)
   have Ta : L.length ≤ (L.map ak).length := by simp
   have kr : some (.slice ((canon L).map ak)) = some (al (canon (wP (dC (aq l) p)))) := by rw [S9]; rfl
   simp only [ae,af,dE,HS,Ta,List.length_map,go_sem,reduceIte,zA,zB,zC,zD,zE,zF,reduceCtorEq]
   refine cF (⟨_, rfl, by have h := oQ L (by omega); simp only [al] at h; exact h⟩) ?_
   rintro _ rfl
   simp only [ae,af,dE,HS,Ta,List.length_map,go_sem,reduceIte,zA,zB,zC,zD,zE,zF,reduceCtorEq]
   exact hK _ (Option.some.inj (kr))
 ·have dE := fun (mem : List aw) (b : Nat) hm => rz (aq l) p (mem := mem) (b := b) hm
  simp only [if_neg fS] at dE
  have HP : dC (aq l) p = [] := by have h := nD fS; unfold bX at h; simpa using h
  simp only [ae,af,dE,List.length_map,go_sem,reduceIte,zA,zB,zC,zD,zE,zF,reduceCtorEq]
  refine sE (v' := .slice ((dC (aq l) p).map ag)) 18 (by decide) rfl (by rw [HP]; rfl) ?_
  refine Me (v' := num ((dC (aq l) p).length : Int)) 19 (by rw [HP]; rfl) ?_
  refine D0 7 0 2 (by decide) rfl ?_
  refine cY tt_ok [] (fun a : Nat × List bF => [(7, .ms 6 a.2.length 0 a.2.length), (18, .slice ((dC (aq l) p).map ag)), (19, num (dC (aq l) p).length), (20, num a.1)]) (fun a : Nat × List bF => [.box [.slice (l.map ag), .slice I], .box [.slice (l.map ag), .slice I], .box [.mp 3, .mp 4], .map (bJ aL 0 (gK (aq l))) (gK (aq l)).length, .map (bJ strVal 0 (gP (aq l))) (aO (aq l)).length, .box [.mp 3, .mp 4], .rows a.2.length 2 (a.2.map ak)]) (fun a => (dC (aq l) p).length - a.1) (fun a => a.1 ≤ (dC (aq l) p).length ∧ a.2 = wP ((dC (aq l) p).take a.1)) ((0, [])) 7 (bj (by omega) (by simp only [ae,af,dE,List.length_map,List.map_nil,List.length_nil,Int.cast_ofNat_Int,go_sem,reduceIte,zA,zB,zC,zD,zE,zF,reduceCtorEq] <;> rfl)) (⟨Nat.zero_le _, rfl⟩) ?_
  rintro ⟨i, L⟩ ⟨hi, hL⟩
  try dsimp only at hi hL ⊢
  intro Z2 nw
  simp only [ae,af,dE,List.length_map,go_sem,reduceIte,zA,zB,zC,zD,zE,zF,reduceCtorEq]
  refine aN (fun gV => ?_) (fun gV => ?_)
  ·have az : i < (dC (aq l) p).length := by simpa using gV
   have HN : (dC (aq l) p).length ≤ 256 := Nat.le_trans (List.length_filter_le _ _) (gD l)
   have hw := ay i (by omega)
   obtain ⟨x, hx⟩ : ∃ x, (dC (aq l) p)[i]? = some x := ⟨_, List.getElem?_eq_getElem az⟩
   have mM := zb hx
   have Zv := Mu x.aA
   have K7 : IntKind.i64.wrap (x.aA.pl + 1) = x.aA.pl + 1 := IntWalk.i64_in _ (by omega)
   have fO : ∀ a b : Int, ck [V.agg [num a, num b]] 0 2 = true := fun _ _ => rfl
   have Ed : L.length ≤ 256 := by
    rw [hL]; unfold wP
    rw [List.length_map]
    exact Nat.le_trans (List.length_filter_le _ _) (by rw [List.length_take]; omega)
   have eO : L.length + 1 ≤ 34359738368 := by omega
   simp only [ae,af,dE,hw,List.getElem?_map,hx,ag,ab,ah,Option.map_some,List.length_map,go_sem,reduceIte,zA,zB,zC,zD,zE,zF,reduceCtorEq]
   refine aN (fun gh => ?_) (fun gh => ?_)
   ·have K0 : x.yk = false := by simpa using gh
    rw [if_neg (by simp [K0])] at mM
    let nv : Nat × List bF := (i + 1, L ++ [IW x])
    have Pv : L ++ [IW x] = wP ((dC (aq l) p).take (i + 1)) := by rw [mM, hL]
    simp only [ae,af,dE,hw,List.getElem?_map,hx,ag,ab,ah,Option.map_some,K7,fO,eO,List.length_cons,List.length_nil,Nat.zero_add,List.length_map,go_sem,reduceIte,zA,zB,zC,zD,zE,zF,reduceCtorEq]
    refine bu tt_ok aG [⟨.n, 0, [], [], []⟩, ⟨.r, 0, [], [], []⟩, ⟨.n, 0, [], [1], []⟩, ⟨.r, 0, [], [], []⟩, ⟨.n, 0, [], [1,2,3], []⟩, ⟨.n, 0, [], [1,2,3,4], []⟩, ⟨.n, 0, [], [1,2,3,4,5], []⟩, ⟨.n, 0, [], [1,2,3,4,5,6], []⟩, ⟨.w, 0, [], [0,1,2,3,4,5,6,7], []⟩, ⟨.n, 0, [], [0,1,2,3,4,5,6,7,8], []⟩] 1 (by kernel_rfl) ?_
    simp only [ae,af,dE,hw,List.getElem?_map,hx,ag,ab,ah,Option.map_some,K7,fO,eO,List.length_cons,List.length_nil,Nat.zero_add,List.length_map,go_sem,reduceIte,zA,zB,zC,zD,zE,zF,reduceCtorEq]
    refine cG (by have h := iB x; simp only [ag,ab,ah] at h; exact h) ?_
    rintro _ rfl
    simp only [ae,af,dE,hw,List.getElem?_map,hx,ag,ab,ah,Option.map_some,K7,fO,eO,List.length_cons,List.length_nil,Nat.zero_add,List.length_map,go_sem,reduceIte,zA,zB,zC,zD,zE,zF,reduceCtorEq]
    refine cG (by have h := iB x; simp only [ag,ab,ah] at h; exact h) ?_
    rintro _ rfl
    simp only [ae,af,dE,hw,List.getElem?_map,hx,ag,ab,ah,Option.map_some,K7,fO,eO,List.length_cons,List.length_nil,Nat.zero_add,List.length_map,go_sem,reduceIte,zA,zB,zC,zD,zE,zF,reduceCtorEq]
    refine nw _ ⟨nv, ?_, ?_, bj (by omega) (by (simp only [nv,hw,List.map_append,List.map_cons,List.map_nil,List.length_append,List.length_map,List.length_cons,List.length_nil,Nat.zero_add,ak,IW,ae,af,go_sem,reduceIte,zA,zB,zC,zD,zE,zF,reduceCtorEq]))⟩
    ·exact ⟨az, Pv⟩
    ·dsimp only [nv]; omega
   ·have K0 : x.yk = true := by simpa using gh
    rw [if_pos K0] at mM
    let nv : Nat × List bF := (i + 1, L)
    have Pv : L = wP ((dC (aq l) p).take (i + 1)) := by rw [mM, hL, List.append_nil]
    simp only [ae,af,dE,hw,List.getElem?_map,hx,ag,ab,ah,Option.map_some,List.length_map,go_sem,reduceIte,zA,zB,zC,zD,zE,zF,reduceCtorEq]
    refine nw _ ⟨nv, ?_, ?_, bj (by omega) (by (simp only [nv,hw,List.map_append,List.map_cons,List.map_nil,List.length_append,List.length_map,List.length_cons,List.length_nil,Nat.zero_add,ak,IW,ae,af,go_sem,reduceIte,zA,zB,zC,zD,zE,zF,reduceCtorEq]))⟩
    ·exact ⟨az, Pv⟩
    ·dsimp only [nv]; omega
  ·have cH : ¬ i < (dC (aq l) p).length := by simpa using gV
   have vu : i = (dC (aq l) p).length := by omega
   have S9 : L = wP (dC (aq l) p) := by rw [hL, vu, List.take_length]
   have Ed : L.length ≤ 1048576 := by
    rw [S9]; unfold wP
    rw [List.length_map]
    exact Nat.le_trans (List.length_filter_le _ _) (Nat.le_trans (List.length_filter_le _ _) (by have := gD l; omega))
   have HS : List.take L.length (L.map ak) = L.map ak := List.take_of_length_le (by simp)
   have Ta : L.length ≤ (L.map ak).length := by simp
   have kr : some (.slice ((canon L).map ak)) = some (al (canon (wP (dC (aq l) p)))) := by rw [S9]; rfl
   simp only [ae,af,dE,HS,Ta,List.length_map,go_sem,reduceIte,zA,zB,zC,zD,zE,zF,reduceCtorEq]
   refine cF (⟨_, rfl, by have h := oQ L (by omega); simp only [al] at h; exact h⟩) ?_
   rintro _ rfl
   simp only [ae,af,dE,HS,Ta,List.length_map,go_sem,reduceIte,zA,zB,zC,zD,zE,zF,reduceCtorEq]
   exact hK _ (Option.some.inj (kr))
end Go.Proofs.YtnfeacnbgbggfaaGreatDoor
end

section
namespace Go.Proofs.YtnfeacnbgbggfaaGreatDoor
open Go.Eng
open Nat renaming reduceAdd → zA, reduceLT → zB, reduceLeDiff → zC, reduceMul → zD, reduceEqDiff → zE, reduceSub → zF
variable [aE]
set_option maxHeartbeats 4000000
set_option maxRecDepth 100000
def gX (s : List dA) : Bool := (List.range s.length).all fun i => match s[i]?, s[i + 1]? with | some a, some b => jO a.path b.path | _, _ => true
theorem lQ (s : List dA) : gX s = true ↔ ∀ (i : Nat) (a b : dA), s[i]? = some a → s[i + 1]? = some b → jO a.path b.path = true := by
 unfold gX
 rw [List.all_eq_true]
 constructor
 ·intro h i a b ha hb
  have h1 := h i (by rw [List.mem_range]; exact (List.getElem?_eq_some_iff.1 ha).1)
  rw [ha, hb] at h1
  exact h1
 ·intro h i hi
  split
  ·rename_i a b ha hb; exact h i a b ha hb
  ·rfl
def gk (l : List Rl) (s : List dA) : Option (List Rl) := s.mapM (qV l)
def mF (l : List Rl) (s : List dA) : V := if gX s = true then (match gk l s with | some m => .bP [.slice (m.map ag), num 0] | none => .bP [.sc (.slice none 0 0), num 6]) else .bP [.sc (.slice none 0 0), num 1]
theorem u4 {l : List Rl} {s : List dA} {i : Nat} {y : dA} {R : List Rl} {r : Rl} (h : gk l (s.take i) = some R) (hy : s[i]? = some y) (hf : qV l y = some r) : gk l (s.take (i + 1)) = some (R ++ [r]) := by
 unfold gk at h ⊢
 rw [List.take_add_one, hy, List.mapM_append, h]
 simp [hf]
theorem u5 {l : List Rl} {s : List dA} {i : Nat} {y : dA} (hy : s[i]? = some y) (hf : qV l y = none) : gk l s = none := by
 unfold gk
 have hs : s = s.take i ++ y :: s.drop (i + 1) := by
  obtain ⟨h1, h2⟩ := List.getElem?_eq_some_iff.1 hy
  rw [← h2, List.getElem_cons_drop, List.take_append_drop]
 rw [hs, List.mapM_append]
 cases (s.take i).mapM (qV l) with
 | none => rfl
 | some R => simp [hf]
theorem lR {l : List Rl} {s : List dA} {R : List Rl} (h : gk l s = some R) : R.length = s.length := by
 unfold gk at h
 induction s generalizing R with
 | nil => simp at h; subst h; rfl
 | cons a t ih =>
  rw [List.mapM_cons] at h
  cases h1 : qV l a with
  | none => rw [h1] at h; simp at h
  | some b =>
   rw [h1] at h
   cases h2 : t.mapM (qV l) with
   | none => rw [h2] at h; simp at h
   | some r' =>
    rw [h2] at h
    simp at h
    subst h
    rw [List.length_cons, List.length_cons, ih h2]
theorem zd (l : List Rl) (s : List dA) (hs : s.length ≤ 1048576) : ∃ r_ m_, (fun r m => r = mF l s ∧ m = [.map (bJ aL 0 (gK (aq l))) (gK (aq l)).length, .map (bJ strVal 0 (gP (aq l))) (aO (aq l)).length]) r_ m_ ∧ aT Tryz.prog 51 [.agg [.mp 0, .mp 1], aX s] ([.map (bJ aL 0 (gK (aq l))) (gK (aq l)).length, .map (bJ strVal 0 (gP (aq l))) (aO (aq l)).length]) r_ m_ := by
 refine E8 tt_ok [15] 51 [.tmp 4, .tmp 5] (2) (by simp) (fn := Tryz.f51) Tryz.func51 rfl Tryz.call51 ⟨rfl, rfl, by simp⟩ fun K hK => ?_
 simp only [aX]
 simp only [ae,af,List.length_map,dO,go_sem,reduceIte,zA,zB,zC,zD,zE,zF,reduceCtorEq]
 refine bx tt_ok [15] [6] 3 [1,2] (fun vs => ((s.length : Int) - Go.Eng.intOf (vs.headD .undef)).toNat) (fun vs => ∃ i : Nat, vs = [num ((i + 1 : Nat) : Int)] ∧ (i = 0 ∨ i + 1 ≤ s.length) ∧ ∀ j < i, ∀ a b : dA, s[j]? = some a → s[j + 1]? = some b → jO a.path b.path = true) (by omega) (by simp only [ae,af,List.length_map,dO,go_sem,reduceIte,zA,zB,zC,zD,zE,zF,reduceCtorEq]) (⟨0, rfl, .inl rfl, fun j hj => absurd hj (Nat.not_lt_zero j)⟩) fun vs hI Z1 cd => ?_
 obtain ⟨i, rfl, hi, aV⟩ := hI
 simp only [ae,af,List.length_map,dO,go_sem,reduceIte,zA,zB,zC,zD,zE,zF,reduceCtorEq]
 refine aN (fun ly => ?_) (fun ly => ?_)
 ·have az : i + 1 < s.length := by have := of_decide_eq_true ly; omega
  obtain ⟨x, hx⟩ : ∃ x, s[i]? = some x := ⟨_, List.getElem?_eq_getElem (by omega)⟩
  obtain ⟨y, hy⟩ : ∃ y, s[i + 1]? = some y := ⟨_, List.getElem?_eq_getElem az⟩
  have hw := ay (i + 1) (by omega)
  have O3 : IntKind.i64.wrap (((i + 1 : Nat) : Int) - 1) = (i : Int) := by rw [IntWalk.i64_in _ (by omega)]; omega
  simp only [ae,af,hw,O3,List.getElem?_map,hx,hy,Option.map_some,aH,List.length_map,dO,go_sem,reduceIte,zA,zB,zC,zD,zE,zF,reduceCtorEq]
  refine bu tt_ok aG [⟨.n, 0, [], [], []⟩, ⟨.n, 0, [], [], []⟩, ⟨.n, 0, [], [], []⟩, ⟨.r, 0, [], [], []⟩, ⟨.n, 0, [], [], []⟩, ⟨.r, 0, [], [], []⟩, ⟨.n, 0, [], [], []⟩, ⟨.n, 0, [], [], []⟩, ⟨.r, 0, [], [], []⟩, ⟨.n, 0, [], [], []⟩, ⟨.r, 0, [], [], []⟩, ⟨.n, 0, [], [], []⟩] 0 (by kernel_rfl) ?_
  simp only [ae,af,hw,O3,List.getElem?_map,hx,hy,Option.map_some,aH,List.length_map,dO,go_sem,reduceIte,zA,zB,zC,zD,zE,zF,reduceCtorEq]
  refine aN (fun tX => ?_) (fun tX => ?_)
  ·have Tb : ¬ gX s = true := fun h => by
    have h1 := (lQ s).1 h i x y hx hy
    unfold jO at h1
    rw [h1] at tX; cases tX
   have hV : mF l s = .bP [.sc (.slice none 0 0), num 1] := by unfold mF; rw [if_neg Tb]
   simp only [ae,af,hw,O3,List.getElem?_map,hx,hy,Option.map_some,aH,List.length_map,dO,go_sem,reduceIte,zA,zB,zC,zD,zE,zF,reduceCtorEq]
   exact hK _ _ ⟨hV.symm, rfl⟩
  ·simp only [ae,af,hw,O3,List.getElem?_map,hx,hy,Option.map_some,aH,List.length_map,dO,go_sem,reduceIte,zA,zB,zC,zD,zE,zF,reduceCtorEq]
   refine cd _ (cC (by omega) (by simp only [ae,af,hw,O3,List.getElem?_map,hx,hy,Option.map_some,aH,List.length_map,dO,go_sem,reduceIte,zA,zB,zC,zD,zE,zF,reduceCtorEq]) ?_ ?_) <;> simp only [fh,lk,reduceIte,zE]
   ·refine ⟨i + 1, rfl, .inr (by omega), fun j hj a b ha hb => ?_⟩
    rcases Nat.lt_or_ge j i with h | h
    ·exact aV j h a b ha hb
    ·obtain rfl : j = i := by omega
     rw [hx] at ha; rw [hy] at hb; cases ha; cases hb
     unfold jO; simpa using tX
   ·simp only [Go.Eng.intOf,List.headD_cons]; omega
 ·have cH : ¬ i + 1 < s.length := by have := of_decide_eq_false ly; omega
  have HT : gX s = true := (lQ s).2 fun j a b ha hb => aV j (by have := (List.getElem?_eq_some_iff.1 hb).1; omega) a b ha hb
  simp only [ae,af,List.length_map,dO,go_sem,reduceIte,zA,zB,zC,zD,zE,zF,reduceCtorEq]
  refine D0 7 0 9 (by decide) rfl ?_
  refine cY tt_ok [15] (fun b : Nat × List Rl => [(2, .ptr 2 0), (7, .ms 3 b.1 0 b.1), (30, .slice (s.map aH)), (31, num s.length), (32, num b.1)]) (fun b : Nat × List Rl => [.map (bJ aL 0 (gK (aq l))) (gK (aq l)).length, .map (bJ strVal 0 (gP (aq l))) (aO (aq l)).length, .box [.mp 0, .mp 1], .rows b.1 9 (b.2.map ag)]) (fun b => s.length - b.1) (fun b => b.1 ≤ s.length ∧ gk l (s.take b.1) = some b.2 ∧ b.2.length = b.1) ((0, [])) 4 (bj (by omega) (by simp only [ae,af,List.length_map,dO,List.map_nil,Int.cast_ofNat_Int,go_sem,reduceIte,zA,zB,zC,zD,zE,zF,reduceCtorEq] <;> rfl)) (⟨Nat.zero_le _, rfl, rfl⟩) ?_
  rintro ⟨i, R⟩ ⟨hi, hR, Pw⟩
  try dsimp only at hi hR Pw ⊢
  intro Z2 nw
  simp only [ae,af,List.length_map,dO,go_sem,reduceIte,zA,zB,zC,zD,zE,zF,reduceCtorEq]
  refine aN (fun yR => ?_) (fun yR => ?_)
  ·have az : i < s.length := by simpa using yR
   have hw := ay i (by omega)
   obtain ⟨x, hx⟩ : ∃ x, s[i]? = some x := ⟨_, List.getElem?_eq_getElem az⟩
   have fO : ∀ q : Rl, ck [V.agg [str q.path, num q.aA.mj, num q.aA.mn, num q.aA.pt, V.slice (q.reqs.map aj), str q.ar, str q.fY, str q.ce, bl q.yk]] 0 9 = true := fun q => rfl
   have eO : i + 1 ≤ 34359738368 := by omega
   have XL : (R.map ag).length = i := by rw [List.length_map, Pw]
   rcases hf : qV l x with _ | r
   ·have dE := fun (mem : List aw) (b : Nat) hm => HD hf (mem := mem) (b := b) hm
    simp only [mD] at dE
    have hV : mF l s = .bP [.sc (.slice none 0 0), num 6] := by unfold mF; rw [if_pos HT, u5 hx hf]
    simp only [ae,af,hw,List.getElem?_map,hx,Option.map_some,aH,fO,eO,XL,List.length_append,List.length_cons,List.length_nil,Nat.zero_add,dE,List.length_map,dO,go_sem,reduceIte,zA,zB,zC,zD,zE,zF,reduceCtorEq]
    exact hK _ _ ⟨hV.symm, rfl⟩
   ·have dE := fun (mem : List aw) (b : Nat) hm => KS hf (mem := mem) (b := b) hm
    simp only [mD,ag,ab,ah] at dE
    simp only [ae,af,hw,List.getElem?_map,hx,Option.map_some,aH,fO,eO,XL,List.length_append,List.length_cons,List.length_nil,Nat.zero_add,dE,ag,ab,ah,List.length_map,dO,go_sem,reduceIte,zA,zB,zC,zD,zE,zF,reduceCtorEq]
    refine nw _ ⟨(i + 1, R ++ [r]), ?_, ?_, bj (by omega) (by (simp only [hw,List.map_append,List.map_cons,List.map_nil,ag,ab,ah,ae,af,go_sem,reduceIte,zA,zB,zC,zD,zE,zF,reduceCtorEq]))⟩
    ·exact ⟨az, u4 hR hx hf, by dsimp only; rw [List.length_append, Pw]; rfl⟩
    ·dsimp only; omega
  ·have KG : ¬ i < s.length := by simpa using yR
   have vu : i = s.length := by omega
   subst vu
   rw [List.take_length] at hR
   have hV : mF l s = .bP [.slice (R.map ag), num 0] := by unfold mF; rw [if_pos HT, hR]
   simp only [ae,af,List.length_map,dO,go_sem,reduceIte,zA,zB,zC,zD,zE,zF,reduceCtorEq]
   refine sE (v' := .slice (R.map ag)) 7 (by decide) rfl (by simp [lk, fi, bU, Pw, List.take_of_length_le]) ?_
   refine TY tt_ok [15] ?_
   simp only [ae,af,List.length_map,dO,go_sem,reduceIte,zA,zB,zC,zD,zE,zF,reduceCtorEq]
   exact hK _ _ ⟨hV.symm, rfl⟩
end Go.Proofs.YtnfeacnbgbggfaaGreatDoor
end

section
namespace Go.Proofs.YtnfeacnbgbggfaaGreatDoor
open Go.Eng
open Nat renaming reduceAdd → zA, reduceLT → zB, reduceLeDiff → zC, reduceMul → zD, reduceEqDiff → zE, reduceSub → zF
variable [aE]
set_option maxHeartbeats 4000000
set_option maxRecDepth 100000
def CY (m : List Rl) (p : ByteArray) : Option Rl := m.find? fun r => decide (r.path = p)
def gB (m : List Rl) : List (ByteArray × V) := m.map fun r => (r.path, ag r)
theorem rB (p : ByteArray) : ∀ m : List Rl, getM p (gB m) = (CY m p).map ag
 | [] => rfl
 | r :: t => by
  show (if r.path = p then some (ag r) else getM p (gB t)) = _
  unfold CY
  rw [List.find?_cons]
  by_cases h : r.path = p
  ·simp [h]
  ·have := rB p t
   unfold CY at this
   simp [h, this]
theorem aC (n : Nat) (m : List Rl) : ((bJ strVal 0 (gB m)).all fun e => ai n e.2.2) = true := by
 rw [kA strVal (ai n)]
 unfold gB
 simp [lL]
theorem CZ (σ : Nat → Nat) (m : List Rl) (c : Nat) : cq σ (.map (bJ strVal 0 (gB m)) c) = .map (bJ strVal 0 (gB m)) c := by
 rw [oT]
 congr 2
 unfold gB
 rw [List.map_map]
 exact List.map_congr_left fun r _ => by simp [CQ]
theorem HU {m : List Rl} {p : ByteArray} (h : CY m p = none) {mem : List aw} {b : Nat} (hm : mem[b]? = some (.map (bJ strVal 0 (gB m)) (gB m).length)) :
  df Tryz.prog mem 92 (.mp b) (str p) true = some (.bP [.agg [str ⟨#[]⟩, num 0, num 0, num 0, .sc (.slice none 0 0), str ⟨#[]⟩, str ⟨#[]⟩, str ⟨#[]⟩, bl false], bl false]) := by
 rw [KM.get p (gB m) hm te, rB, h]; rfl
theorem HV {m : List Rl} {p : ByteArray} {r : Rl} (h : CY m p = some r) {mem : List aw} {b : Nat} (hm : mem[b]? = some (.map (bJ strVal 0 (gB m)) (gB m).length)) :
  df Tryz.prog mem 92 (.mp b) (str p) true = some (.bP [ag r, bl true]) := by
 rw [KM.get p (gB m) hm te, rB, h]; rfl
theorem K8 {m : List Rl} {p : ByteArray} {r : Rl} (h : CY m p = some r) {mem : List aw} {b : Nat} (hm : mem[b]? = some (.map (bJ strVal 0 (gB m)) (gB m).length)) :
  df Tryz.prog mem 92 (.mp b) (str p) false = some (ag r) := by
 rw [KM.get p (gB m) hm te, rB, h]; rfl
def brk (m : List Rl) (q : Rq) : Bool := match CY m q.path with | none => true | some r => !has q.set r.aA.pl
def σ2 (k k2 n j : Nat) : Nat := if j = 0 then k else if j = 1 then k2 else n + (j - 2)
theorem tu {P : Program} {f : FuncId} {vs : List V} {r : V} {B0 B1 qR : aw} (h : aT P f vs [B0, B1] r [qR, B1]) (M : List aw) (k k2 : Nat) (hv : vs.all (ai 2) = true) (hm : [B0, B1].all (aB 2) = true) (hr : ai 2 r = true) (F1 : [qR, B1].all (aB 2) = true)
  (hk : M[k]? = some (cq (σ2 k k2 M.length) B0)) (jl : M[k2]? = some (cq (σ2 k k2 M.length) B1)) (bL : k ≠ k2) :
  aT P f (cb (σ2 k k2 M.length) vs) M (bo (σ2 k k2 M.length) r) (M.set k (cq (σ2 k k2 M.length) qR)) := by
 have h3 := h.ym M (σ2 k k2 M.length) 2 rfl hv hm hr F1 (by simp) (fun i B hi => by
  match i with
  | 0 => simp at hi; subst hi; exact hk
  | 1 => simp at hi; subst hi; exact jl
  | i + 2 => simp at hi) (fun i j hi hj he => by
  match i, j with
  | 0, 0 => rfl
  | 1, 1 => rfl
  | 0, 1 => exact absurd (by simpa [σ2] using he) bL
  | 1, 0 => exact absurd (by simpa [σ2] using he.symm) bL
  | i + 2, _ => omega
  | _, j + 2 => omega) (fun j hj => by unfold σ2; rw [if_neg (by omega), if_neg (by omega)])
 have hM : mz (σ2 k k2 M.length) 2 [qR, B1] M = M.set k (cq (σ2 k k2 M.length) qR) := by
  unfold mz
  simp only [Fa,List.map_nil,List.append_nil,fX]
  show (M.set k (cq _ qR)).set k2 (cq _ B1) = _
  exact eS (by rw [List.getElem?_set_ne bL]; exact jl)
 rwa [hM] at h3
theorem HW (m : List Rl) (q : Rq) (hq : qD q) : ∃ r_, (fun w => w = bl (brk m q)) r_ ∧ aT Tryz.prog 52 [aj q, .ptr 1 0] ([.map (bJ strVal 0 (gB m)) (gB m).length, .box [.mp 0]]) r_ ([.map (bJ strVal 0 (gB m)) (gB m).length, .box [.mp 0]]) := by
 refine E9 tt_ok [] 23 [.tmp 3] (fn := Tryz.f52) Tryz.func52 rfl Tryz.call52 ⟨rfl, rfl, by simp⟩ fun K hK => ?_
 simp only [aj,al]
 obtain ⟨w8, EZ⟩ := hq
 rcases hf : CY m q.path with _ | r
 ·have dE := fun (mem : List aw) (b : Nat) hm => HU hf (mem := mem) (b := b) hm
  have hR : true = brk m q := by unfold brk; rw [hf]
  simp only [aC,dE,go_sem,reduceIte,zA,zB,zC,zD,zE,zF,reduceCtorEq]
  refine bu tt_ok aG [⟨.n, 0, [], [], []⟩, ⟨.n, 0, [], [], []⟩, ⟨.n, 0, [], [], []⟩, ⟨.n, 0, [], [], []⟩, ⟨.r, 0, [], [], []⟩, ⟨.r, 0, [], [], []⟩, ⟨.n, 0, [], [], []⟩, ⟨.n, 0, [], [], []⟩, ⟨.n, 0, [], [], []⟩, ⟨.n, 0, [], [], []⟩, ⟨.n, 0, [], [], []⟩] 0 (by kernel_rfl) ?_
  simp only [aC,dE,go_sem,reduceIte,zA,zB,zC,zD,zE,zF,reduceCtorEq]
  exact hK _ _ ⟨congrArg bl hR, rfl⟩
 ·have dE := fun (mem : List aw) (b : Nat) hm => HV hf (mem := mem) (b := b) hm
  simp only [ag,ab,ah] at dE
  have hR : (!has q.set r.aA.pl) = brk m q := by unfold brk; rw [hf]
  simp only [aC,dE,go_sem,reduceIte,zA,zB,zC,zD,zE,zF,reduceCtorEq]
  refine bu tt_ok aG [⟨.n, 0, [], [], []⟩, ⟨.n, 0, [], [], []⟩, ⟨.n, 0, [], [], []⟩, ⟨.n, 0, [], [], []⟩, ⟨.r, 0, [], [], []⟩, ⟨.r, 0, [], [], []⟩, ⟨.n, 0, [], [], []⟩, ⟨.n, 0, [], [], []⟩, ⟨.n, 0, [], [], []⟩, ⟨.n, 0, [], [], []⟩, ⟨.n, 0, [], [], []⟩] 0 (by kernel_rfl) ?_
  simp only [aC,dE,go_sem,reduceIte,zA,zB,zC,zD,zE,zF,reduceCtorEq]
  refine cG (by have h := iB r; simp only [ag,ab,ah] at h; exact h) ?_
  rintro _ rfl
  simp only [aC,dE,go_sem,reduceIte,zA,zB,zC,zD,zE,zF,reduceCtorEq]
  refine cG (by have h := AV q.set r.aA.pl EZ; simp only [al] at h; exact h) ?_
  rintro _ rfl
  simp only [aC,dE,go_sem,reduceIte,zA,zB,zC,zD,zE,zF,reduceCtorEq]
  exact hK _ _ ⟨congrArg bl hR, rfl⟩
theorem K9 (m : List Rl) (l : List Rq) (hl : l.length ≤ 2097152) (Bj : ∀ q ∈ l, qD q) : ∃ r_, (fun w => ∃ k : Int, w = num k ∧ decide (0 ≤ k) = l.any (brk m)) r_ ∧ aT Tryz.prog 79 [ah l, .fM (.func 52) [] [.ptr 1 0]] ([.map (bJ strVal 0 (gB m)) (gB m).length, .box [.mp 0]]) r_ ([.map (bJ strVal 0 (gB m)) (gB m).length, .box [.mp 0]]) := by
 refine E9 tt_ok [] 19 [.tmp 4] (fn := Tryz.f79) Tryz.func79 rfl Tryz.call79 ⟨rfl, rfl, by simp⟩ fun K hK => ?_
 simp only [ah]
 simp only [aC,List.length_map,go_sem,reduceIte,zA,zB,zC,zD,zE,zF,reduceCtorEq]
 refine bx tt_ok [] [8] 2 [0,1,7] (fun vs => ((l.length : Int) - Go.Eng.intOf (vs.headD .undef)).toNat) (fun vs => ∃ i : Nat, vs = [num i] ∧ i ≤ l.length ∧ ∀ j < i, ∀ x, l[j]? = some x → (brk m) x = false) (by omega) (by simp only [aC,List.length_map,go_sem,reduceIte,zA,zB,zC,zD,zE,zF,reduceCtorEq]) (⟨0, rfl, Nat.zero_le _, fun j hj => absurd hj (Nat.not_lt_zero j)⟩) fun vs hI Z1 cd => ?_
 obtain ⟨i, rfl, hi, aV⟩ := hI
 simp only [aC,List.length_map,go_sem,reduceIte,zA,zB,zC,zD,zE,zF,reduceCtorEq]
 refine aN (fun ga => ?_) (fun ga => ?_)
 ·have az : i < l.length := by simpa using ga
  have hw := ay i (by omega)
  obtain ⟨x, hx⟩ : ∃ x, l[i]? = some x := ⟨_, List.getElem?_eq_getElem az⟩
  have IV := Bj x (List.mem_of_getElem? hx)
  simp only [aC,hw,List.getElem?_map,hx,aj,al,List.length_map,go_sem,reduceIte,zA,zB,zC,zD,zE,zF,reduceCtorEq]
  refine cS (by have h := HW m x IV; simp only [aj,al] at h; exact h) ?_
  rintro _ rfl
  simp only [aC,hw,List.getElem?_map,hx,aj,al,List.length_map,go_sem,reduceIte,zA,zB,zC,zD,zE,zF,reduceCtorEq]
  refine aN (fun kl => ?_) (fun kl => ?_)
  ·have au : decide (0 ≤ (i : Int)) = l.any (brk m) := by rw [wo hx kl]; exact decide_eq_true (Int.natCast_nonneg i)
   simp only [aC,hw,List.getElem?_map,hx,aj,al,List.length_map,go_sem,reduceIte,zA,zB,zC,zD,zE,zF,reduceCtorEq]
   exact hK _ _ ⟨⟨_, rfl, au⟩, rfl⟩
  ·simp only [aC,hw,List.getElem?_map,hx,aj,al,List.length_map,go_sem,reduceIte,zA,zB,zC,zD,zE,zF,reduceCtorEq]
   refine cd _ (cC (by omega) (by simp only [aC,hw,List.getElem?_map,hx,aj,al,List.length_map,go_sem,reduceIte,zA,zB,zC,zD,zE,zF,reduceCtorEq]) ?_ ?_) <;> simp only [fh,lk,reduceIte,zE]
   ·refine ⟨i + 1, rfl, az, fun j hj => ?_⟩
    rcases Nat.lt_or_ge j i with h | h
    ·exact aV j h
    ·obtain rfl : j = i := by omega
     intro y hy
     rw [hx] at hy; cases hy; exact kl
   ·simp only [Go.Eng.intOf,List.headD_cons]; omega
 ·have cH : ¬ i < l.length := by simpa using ga
  have au : decide (0 ≤ (-1 : Int)) = l.any (brk m) := (any_none fun j hj => aV j (by omega)).symm ▸ rfl
  simp only [aC,List.length_map,go_sem,reduceIte,zA,zB,zC,zD,zE,zF,reduceCtorEq]
  exact hK _ _ ⟨⟨_, rfl, au⟩, rfl⟩
theorem La (m : List Rl) (l : List Rq) (hl : l.length ≤ 2097152) (Bj : ∀ q ∈ l, qD q) : ∃ r_, (fun w => w = bl (l.any (brk m))) r_ ∧ aT Tryz.prog 26 [ah l, .fM (.func 52) [] [.ptr 1 0]] ([.map (bJ strVal 0 (gB m)) (gB m).length, .box [.mp 0]]) r_ ([.map (bJ strVal 0 (gB m)) (gB m).length, .box [.mp 0]]) := by
 refine E9 tt_ok [] 9 [.tmp 4] (fn := Tryz.f26) Tryz.func26 rfl Tryz.call26 ⟨rfl, rfl, by simp⟩ fun K hK => ?_
 simp only [ah]
 simp only [aC,go_sem,reduceIte,zA,zB,zC,zD,zE,zF,reduceCtorEq]
 refine cS (by have h := K9 m l hl Bj; simp only [ah] at h; exact h) ?_
 rintro _ ⟨k, rfl, hk⟩
 simp only [aC,go_sem,reduceIte,zA,zB,zC,zD,zE,zF,reduceCtorEq]
 exact hK _ _ ⟨congrArg bl hk, rfl⟩
theorem ze (m : List Rl) (l : List Rq) (hl : l.length ≤ 2097152) (Bj : ∀ q ∈ l, qD q) (M : List aw) (k k2 : Nat) (hk : M[k]? = some (.map (bJ strVal 0 (gB m)) (gB m).length)) (jl : M[k2]? = some (.box [.mp k])) (bL : k ≠ k2) :
  ∃ r_, (fun w => w = bl (l.any (brk m))) r_ ∧ aT Tryz.prog 26 [.slice (l.map aj), .fM (.func 52) [] [.ptr k2 0]] M r_ M := by
 obtain ⟨r, rfl, h⟩ := La m l hl Bj
 have h3 := tu h M k k2 (by simp [ah, ai, dk]) (by simp [pC, vZ, aC, ai]) (by simp [ai]) (by simp [pC, vZ, aC, ai]) (by rw [CZ]; exact hk) (by simpa [cq, cb, bo, σ2] using jl) bL
 rw [CZ, eS hk] at h3
 exact ⟨_, rfl, by simpa [cb, bo, σ2, ah] using h3⟩
end Go.Proofs.YtnfeacnbgbggfaaGreatDoor
end

section
namespace Go.Proofs.YtnfeacnbgbggfaaGreatDoor
open Go.Eng
open Nat renaming reduceAdd → zA, reduceLT → zB, reduceLeDiff → zC, reduceMul → zD, reduceEqDiff → zE, reduceSub → zF
variable [aE]
set_option maxHeartbeats 4000000
set_option maxRecDepth 100000
noncomputable def bG (l : List Rl) (roots : List Rq) (s : List dA) : Int :=
 if ey l ≠ 0 then 1 else if gX s = true then (match gk l s with
  | none => 6
  | some m => if (m.any fun r => r.reqs.any (brk m)) = true ∨ roots.any (brk m) = true then 17 else if (bS m roots).length < m.length then 8 else 0) else 1
theorem Lb {s : List dA} (h : gX s = true) : s.Pairwise fun a b => a.path.data.toList < b.path.data.toList := by
 have h1 := (lQ s).1 h
 clear h
 induction s with
 | nil => exact List.Pairwise.nil
 | cons a t ih =>
  have ht := ih fun i x y hx hy => h1 (i + 1) x y (by simpa using hx) (by simpa using hy)
  refine List.pairwise_cons.2 ⟨?_, ht⟩
  cases t with
  | nil => intro b hb; simp at hb
  | cons b t =>
   have h2 : a.path.data.toList < b.path.data.toList := by
    have h3 := h1 0 a b rfl rfl
    rw [nr] at h3
    exact of_decide_eq_true h3
   intro c hc
   rcases List.mem_cons.1 hc with rfl | hc
   ·exact h2
   ·exact List.lt_trans h2 ((List.pairwise_cons.1 ht).1 c hc)
theorem HX {l : List Rl} {y : dA} {r : Rl} (h : qV l y = some r) : r ∈ aq l ∧ r.key = y := by
 unfold qV at h
 exact ⟨List.mem_of_find?_eq_some h, by simpa using List.find?_some h⟩
theorem hZ {l : List Rl} : ∀ {s : List dA} {m : List Rl}, gk l s = some m → m.map Rl.key = s ∧ ∀ r ∈ m, r ∈ aq l
 | [], m, h => by unfold gk at h; simp at h; subst h; simp
 | y :: t, m, h => by
  unfold gk at h
  rw [List.mapM_cons] at h
  cases h1 : qV l y with
  | none => rw [h1] at h; simp at h
  | some r =>
   rw [h1] at h
   cases h2 : t.mapM (qV l) with
   | none => rw [h2] at h; simp at h
   | some m' =>
    rw [h2] at h
    simp at h
    subst h
    obtain ⟨e1, e2⟩ := hZ (s := t) h2
    obtain ⟨e3, e4⟩ := HX h1
    refine ⟨by rw [List.map_cons, e1, e4], fun x hx => ?_⟩
    rcases List.mem_cons.1 hx with rfl | hx
    ·exact e3
    ·exact e2 x hx
theorem nL {l : List Rl} {s : List dA} {m : List Rl} (h : gk l s = some m) (hi : gX s = true) : m.Pairwise fun a b => a.path.data.toList < b.path.data.toList := by
 have h1 := Lb hi
 rw [← (hZ h).1, List.pairwise_map] at h1
 exact h1
theorem HY {a b : ByteArray} (h : a.data.toList < b.data.toList) : a ≠ b := fun e => by subst e; exact List.lt_irrefl _ h
theorem tv {m : List Rl} (h : m.Pairwise fun a b => a.path.data.toList < b.path.data.toList) : ∀ a ∈ m, ∀ b ∈ m, a.path = b.path → a = b := by
 intro a ha b hb he
 obtain ⟨i, hi⟩ := List.mem_iff_getElem?.1 ha
 obtain ⟨j, hj⟩ := List.mem_iff_getElem?.1 hb
 rcases Nat.lt_trichotomy i j with rP | rP | rP
 ·exact absurd he (HY (List.pairwise_iff_getElem.1 h i j (List.getElem?_eq_some_iff.1 hi).1 (List.getElem?_eq_some_iff.1 hj).1 rP |> fun h => by rwa [(List.getElem?_eq_some_iff.1 hi).2, (List.getElem?_eq_some_iff.1 hj).2] at h))
 ·subst rP; rw [hi] at hj; cases hj; rfl
 ·exact absurd he.symm (HY (List.pairwise_iff_getElem.1 h j i (List.getElem?_eq_some_iff.1 hj).1 (List.getElem?_eq_some_iff.1 hi).1 rP |> fun h => by rwa [(List.getElem?_eq_some_iff.1 hj).2, (List.getElem?_eq_some_iff.1 hi).2] at h))
theorem Px {m : List Rl} (h : ∀ a ∈ m, ∀ b ∈ m, a.path = b.path → a = b) {r : Rl} (hr : r ∈ m) : CY m r.path = some r := by
 unfold CY
 cases hf : m.find? fun x => decide (x.path = r.path) with
 | none => exact absurd (List.find?_eq_none.1 hf r hr) (by simp)
 | some x =>
  have h1 := List.mem_of_find?_eq_some hf
  have h2 : x.path = r.path := by simpa using List.find?_some hf
  rw [h x h1 r hr h2]
theorem tx {m : List Rl} {p : ByteArray} {r : Rl} (h : CY m p = some r) : r ∈ m ∧ r.path = p := ⟨List.mem_of_find?_eq_some h, by simpa using List.find?_some h⟩
theorem Py {m : List Rl} {r : Rl} (h : ∀ x ∈ m, x.path ≠ r.path) : kQ r.path (ag r) (gB m) = gB (m ++ [r]) := by
 have : dB r.path (gB m) 0 = none := by
  have key : ∀ (m : List Rl) (n : Nat), (∀ x ∈ m, x.path ≠ r.path) → dB r.path (gB m) n = none := by
   intro m
   induction m with
   | nil => intro n _; rfl
   | cons a t ih =>
    intro n h
    show (if a.path = r.path then _ else dB r.path (gB t) (n + 1)) = none
    rw [if_neg (h a (by simp))]
    exact ih _ fun x hx => h x (by simp [hx])
  exact key m 0 h
 unfold kQ
 rw [this]
 simp [gB]
theorem Lc {m : List Rl} {r : Rl} (h : ∀ x ∈ m, x.path ≠ r.path) {mem : List aw} {b : Nat} (hm : mem[b]? = some (.map (bJ strVal 0 (gB m)) (gB m).length)) :
  cn Tryz.prog mem 92 (.mp b) (str r.path) (ag r) = some (mem.set b (.map (bJ strVal 0 (gB (m ++ [r]))) (gB (m ++ [r])).length)) := by
 rw [KM.put r.path (ag r) (gB m) hm, Py h]
def gN (S : List Rl) : List (ByteArray × V) := S.map fun r => (r.path, bl true)
def oV (S : List Rl) (p : ByteArray) : Bool := S.any fun r => decide (r.path = p)
theorem aU (n : Nat) (S : List Rl) : ((bJ strVal 0 (gN S)).all fun e => ai n e.2.2) = true := by
 rw [kA strVal (ai n)]
 unfold gN
 simp [ai]
theorem C0 (p : ByteArray) : ∀ S : List Rl, (getM p (gN S)).getD (bl false) = bl (oV S p)
 | [] => rfl
 | r :: t => by
  show (if r.path = p then some (bl true) else getM p (gN t)).getD _ = _
  unfold oV
  rw [List.any_cons]
  by_cases h : r.path = p
  ·simp [h]
  ·have := C0 p t
   unfold oV at this
   simp [h, this]
theorem HZ (S : List Rl) (p : ByteArray) {mem : List aw} {b : Nat} (hm : mem[b]? = some (.map (bJ strVal 0 (gN S)) (gN S).length)) : df Tryz.prog mem 93 (.mp b) (str p) false = some (bl (oV S p)) := by
 rw [S2.get p (gN S) hm Mt, C0]; rfl
theorem Pz {S : List Rl} {r : Rl} (h : ∀ x ∈ S, x.path ≠ r.path) : kQ r.path (bl true) (gN S) = gN (S ++ [r]) := by
 have : dB r.path (gN S) 0 = none := by
  have key : ∀ (m : List Rl) (n : Nat), (∀ x ∈ m, x.path ≠ r.path) → dB r.path (gN m) n = none := by
   intro m
   induction m with
   | nil => intro n _; rfl
   | cons a t ih =>
    intro n h
    show (if a.path = r.path then _ else dB r.path (gN t) (n + 1)) = none
    rw [if_neg (h a (by simp))]
    exact ih _ fun x hx => h x (by simp [hx])
  exact key S 0 h
 unfold kQ
 rw [this]
 simp [gN]
theorem H0 {S : List Rl} {r : Rl} (h : ∀ x ∈ S, x.path ≠ r.path) {mem : List aw} {b : Nat} (hm : mem[b]? = some (.map (bJ strVal 0 (gN S)) (gN S).length)) :
  cn Tryz.prog mem 93 (.mp b) (str r.path) (bl true) = some (mem.set b (.map (bJ strVal 0 (gN (S ++ [r]))) (gN (S ++ [r])).length)) := by
 rw [S2.put r.path (bl true) (gN S) hm, Pz h]
theorem PA {m : List Rl} {q : Rq} (hg : ∀ r ∈ m, r.aA.ok = true) (h : brk m q = false) : ∃ r, CY m q.path = some r ∧ r ∈ m ∧ eg q r = true := by
 unfold brk at h
 cases hb : CY m q.path with
 | none => rw [hb] at h; cases h
 | some r =>
  rw [hb] at h
  obtain ⟨h1, h2⟩ := tx hb
  refine ⟨r, rfl, h1, ?_⟩
  have zx : r.aA.pl = r.aA.place := by unfold er.pl; rw [if_pos (hg r h1)]
  unfold eg
  have h3 : (!has q.set r.aA.pl) = false := h
  rw [zx] at h3
  simp only [Bool.not_eq_false'] at h3
  simp [h2, h3]
theorem Mv (a b c d e f g h i : V) : nZ Tryz.prog tt 40 2 (.agg [a, b, c, d, e, f, g, h, i]) = some e := by
 simp [nZ, Tryz.underlying40, dv, RD]
theorem Ld {S : List Rl} : ((bJ strVal 0 (gN S)).length : Int) = S.length := by rw [tb]; simp [gN]
theorem Le {α : Type} [DecidableEq α] {S T : List α} (hS : S.Nodup) (hT : T.Nodup) (h : ∀ x, x ∈ S ↔ x ∈ T) : S.length = T.length :=
 ((List.perm_ext_iff_of_nodup hS hT).2 h).length_eq
theorem Lf (l : List Rl) (s : List dA) : (∃ e : Int, mF l s = .bP [.sc (.slice none 0 0), num e] ∧ e ≠ 0 ∧ (ey l = 0 → ∀ roots, bG l roots s = e)) ∨ (∃ m, gk l s = some m ∧ gX s = true ∧ mF l s = .bP [.slice (m.map ag), num 0]) := by
 unfold mF bG
 by_cases hi : gX s = true
 ·rw [if_pos hi]
  cases hm : gk l s with
  | none => exact .inl ⟨6, rfl, by decide, fun hx roots => by rw [if_neg (by simp [hx]), if_pos hi]⟩
  | some m => exact .inr ⟨m, rfl, hi, rfl⟩
 ·rw [if_neg hi]
  exact .inl ⟨1, rfl, by decide, fun hx roots => by rw [if_neg (by simp [hx]), if_neg hi]⟩
theorem H2 (l : List Rl) (s : List dA) (hs : s.length ≤ 1048576) (M : List aw) (k k2 : Nat) (hk : M[k]? = some (.map (bJ aL 0 (gK (aq l))) (gK (aq l)).length)) (jl : M[k2]? = some (.map (bJ strVal 0 (gP (aq l))) (aO (aq l)).length)) (bL : k ≠ k2) :
  ∃ r_ m_, (fun r m => r = mF l s ∧ m = M) r_ m_ ∧ aT Tryz.prog 51 [.agg [.mp k, .mp k2], aX s] M r_ m_ := by
 obtain ⟨r, m, ⟨rfl, rfl⟩, h⟩ := zd l s hs
 have Ns : ai 2 (mF l s) = true := by
  unfold mF
  split
  ·split <;> simp [ai, dk]
  ·simp [ai, dk]
 have Zw : ∀ σ, bo σ (mF l s) = mF l s := fun σ => by
  unfold mF
  split
  ·split <;> simp [bo, cb]
  ·simp [bo, cb]
 have h3 := tu h M k k2 (by simp [aX, ai, dk]) (by simp [pC, ae, af]) Ns (by simp [pC, ae, af]) (by rw [rv]; exact hk) (by rw [CR]; exact jl) bL
 rw [rv, eS hk, Zw] at h3
 exact ⟨_, _, ⟨rfl, rfl⟩, by simpa [cb, bo, σ2, aX] using h3⟩
theorem pW (hG : aE.g = some 0) (l : List Rl) (I : List V) (hb : w6 l) (roots : List Rq) (hr : roots.length ≤ 1048576) (EA : ∀ q ∈ roots, qD q) (s : List dA) (hs : s.length ≤ 1048576) : aQ Tryz.prog 15 [bA l I, ah roots, aX s] (num (bG l roots s)) := by
 refine Sd tt_ok [] 93 [.tmp 6] (fn := Tryz.f15) Tryz.func15 rfl Tryz.call15 ⟨rfl, rfl, by simp⟩ fun K hK => ?_
 simp only [bA,bh,ah,aX]
 have Bj := hb.1
 simp only [ae,af,aC,aU,List.length_map,go_sem,reduceIte,zA,zB,zC,zD,zE,zF,reduceCtorEq]
 refine cW (by have h := lM hG l I hb; simp only [bA,bh] at h; exact h _) ?_
 rintro _ _ ⟨rfl, rfl⟩
 simp only [Fa,S5,List.length_cons,List.length_nil,zA]
 simp only [ae,af,aC,aU,List.length_map,go_sem,reduceIte,zA,zB,zC,zD,zE,zF,reduceCtorEq]
 refine aN (fun fm => ?_) (fun fm => ?_)
 ·have cV : ey l ≠ 0 := by simpa using fm
  have hR : (1 : Int) = bG l roots s := by unfold bG; rw [if_pos cV]
  simp only [ae,af,aC,aU,List.length_map,go_sem,reduceIte,zA,zB,zC,zD,zE,zF,reduceCtorEq]
  exact hK _ (Option.some.inj (congrArg (fun x => some (num x)) hR))
 ·have cV : ey l = 0 := by simpa using fm
  have hgl : aq l = l := by unfold aq; rw [if_pos cV]
  rcases Lf l s with ⟨e, kS, IL, Wy⟩ | ⟨m, CG, HT, kS⟩
  ·simp only [ae,af,aC,aU,List.length_map,go_sem,reduceIte,zA,zB,zC,zD,zE,zF,reduceCtorEq]
   refine cW (by have h := H2 l s hs; simp only [aX] at h; exact h _ 3 4 rfl rfl (by decide)) ?_
   rintro _ _ ⟨rfl, rfl⟩
   rw [kS]
   simp only [ae,af,aC,aU,List.length_map,go_sem,reduceIte,zA,zB,zC,zD,zE,zF,reduceCtorEq]
   refine aN (fun yR => ?_) (fun yR => ?_)
   ·have hR : e = bG l roots s := (Wy cV roots).symm
    simp only [ae,af,aC,aU,List.length_map,go_sem,reduceIte,zA,zB,zC,zD,zE,zF,reduceCtorEq]
    exact hK _ (Option.some.inj (congrArg (fun x => some (num x)) hR))
   ·exact absurd yR (by simp [IL])
  ·simp only [ae,af,aC,aU,List.length_map,go_sem,reduceIte,zA,zB,zC,zD,zE,zF,reduceCtorEq]
   refine cW (by have h := H2 l s hs; simp only [aX] at h; exact h _ 3 4 rfl rfl (by decide)) ?_
   rintro _ _ ⟨rfl, rfl⟩
   rw [kS]
   have Zx : m.length ≤ 1048576 := by have := lR CG; omega
   obtain ⟨fK, Lg⟩ := hZ CG
   have Wz := nL CG HT
   have WA := tv Wz
   have zr : m.Pairwise jF := Wz.imp fun h => .inl h
   have Zy : ∀ r ∈ m, r.aA.ok = true := fun r hr => lP (Lg r hr)
   have WB : ∀ r ∈ m, r.reqs.length ≤ 16 := fun r hr => gj (Lg r hr)
   have Ud : ∀ r ∈ m, ∀ q ∈ r.reqs, qD q := fun r hr => (hb.2 r (tq (Lg r hr))).2.2
   have Zz : cz m [] ≤ 16777216 := by
    refine Nat.le_trans (y8 _ _) ?_
    have h1 := fG (g := fun r : Rl => r.reqs) (l := m) (k := 16) WB
    rw [List.length_flatMap] at h1
    omega
   have hS : bG l roots s = if (m.any fun r => r.reqs.any (brk m)) = true ∨ roots.any (brk m) = true then 17 else if (bS m roots).length < m.length then 8 else 0 := by unfold bG; rw [if_neg (by simp [cV]), if_pos HT, CG]
   simp only [ae,af,aC,aU,List.length_map,go_sem,reduceIte,zA,zB,zC,zD,zE,zF,reduceCtorEq]
   refine cY tt_ok [] (fun i : Nat => [(1, .slice (roots.map aj)), (9, .slice (m.map ag)), (10, .ptr 7 0), (36, .slice (m.map ag)), (37, num m.length), (38, num i)]) (fun i : Nat => [.box [.slice (l.map ag), .slice I], .box [.slice (l.map ag), .slice I], .box [.mp 3, .mp 4], .map (bJ aL 0 (gK (aq l))) (gK (aq l)).length, .map (bJ strVal 0 (gP (aq l))) (aO (aq l)).length, .box [.mp 3, .mp 4], .map (bJ strVal 0 (gB (m.take i))) (gB (m.take i)).length, .box [.mp 6]]) (fun i => m.length - i) (fun i => i ≤ m.length) (0) 8 (bj (by omega) (by simp only [ae,af,aC,aU,List.length_map,List.take_zero,gB,List.map_nil,bJ,List.length_nil,Int.cast_ofNat_Int,go_sem,reduceIte,zA,zB,zC,zD,zE,zF,reduceCtorEq] <;> rfl)) (Nat.zero_le _) ?_
   intro i hi
   intro Z1 cd
   simp only [ae,af,aC,aU,List.length_map,go_sem,reduceIte,zA,zB,zC,zD,zE,zF,reduceCtorEq]
   refine aN (fun Br => ?_) (fun Br => ?_)
   ·have az : i < m.length := by simpa using Br
    have hw := ay i (by omega)
    obtain ⟨x, hx⟩ : ∃ x, m[i]? = some x := ⟨_, List.getElem?_eq_getElem az⟩
    have rm := List.mem_of_getElem? hx
    have tG : m.take (i + 1) = m.take i ++ [x] := hY hx
    have im : ∀ y ∈ m.take i, y.path ≠ x.path := fun y hy => by
     obtain ⟨j, hj⟩ := List.mem_iff_getElem?.1 hy
     have qb := (List.getElem?_eq_some_iff.1 hj).1
     rw [List.length_take] at qb
     rw [List.getElem?_take_of_lt (by omega)] at hj
     have h1 := List.pairwise_iff_getElem.1 Wz j i (by omega) (by omega) (by omega)
     rw [(List.getElem?_eq_some_iff.1 hj).2, (List.getElem?_eq_some_iff.1 hx).2] at h1
     exact HY h1
    have w9 := fun (mem : List aw) (b : Nat) hm => Lc im (mem := mem) (b := b) hm
    simp only [ag,ab,ah] at w9
    simp only [ae,af,aC,aU,hw,List.getElem?_map,hx,Option.map_some,ag,ab,ah,w9,List.length_map,go_sem,reduceIte,zA,zB,zC,zD,zE,zF,reduceCtorEq]
    refine cd _ ⟨i + 1, ?_, ?_, bj (by omega) (by (simp only [tG,hw,ae,af,aC,aU,go_sem,reduceIte,zA,zB,zC,zD,zE,zF,reduceCtorEq]))⟩
    ·exact az
    ·omega
   ·have cH : ¬ i < m.length := by simpa using Br
    have vu : i = m.length := by omega
    subst vu
    rw [List.take_length]
    simp only [ae,af,aC,aU,List.length_map,go_sem,reduceIte,zA,zB,zC,zD,zE,zF,reduceCtorEq]
    refine cY tt_ok [] (fun i : Nat => [(1, .slice (roots.map aj)), (9, .slice (m.map ag)), (10, .ptr 7 0), (13, .fM (.func 52) [] [.ptr 7 0]), (48, .slice (m.map ag)), (49, num m.length), (50, num i)]) (fun i : Nat => [.box [.slice (l.map ag), .slice I], .box [.slice (l.map ag), .slice I], .box [.mp 3, .mp 4], .map (bJ aL 0 (gK (aq l))) (gK (aq l)).length, .map (bJ strVal 0 (gP (aq l))) (aO (aq l)).length, .box [.mp 3, .mp 4], .map (bJ strVal 0 (gB (m))) (gB (m)).length, .box [.mp 6]]) (fun i => m.length - i) (fun i => i ≤ m.length ∧ ∀ j < i, ∀ x, m[j]? = some x → x.reqs.any (brk m) = false) (0) 8 (bj (by omega) (by simp only [ae,af,aC,aU,List.length_map,Int.cast_ofNat_Int,go_sem,reduceIte,zA,zB,zC,zD,zE,zF,reduceCtorEq] <;> rfl)) (⟨Nat.zero_le _, fun j hj => absurd hj (Nat.not_lt_zero j)⟩) ?_
    rintro i ⟨hi, aV⟩
    intro Z2 nw
    simp only [ae,af,aC,aU,List.length_map,go_sem,reduceIte,zA,zB,zC,zD,zE,zF,reduceCtorEq]
    refine aN (fun PB => ?_) (fun PB => ?_)
    ·have az : i < m.length := by simpa using PB
     have hw := ay i (by omega)
     obtain ⟨x, hx⟩ : ∃ x, m[i]? = some x := ⟨_, List.getElem?_eq_getElem az⟩
     have rm := List.mem_of_getElem? hx
     simp only [ae,af,aC,aU,hw,List.getElem?_map,hx,Option.map_some,ag,ab,ah,List.length_map,go_sem,reduceIte,zA,zB,zC,zD,zE,zF,reduceCtorEq]
     refine cS (ze m x.reqs (by have := WB x rm; omega) (Ud x rm) _ 6 7 rfl rfl (by decide)) ?_
     rintro _ rfl
     simp only [ae,af,aC,aU,hw,List.getElem?_map,hx,Option.map_some,ag,ab,ah,List.length_map,go_sem,reduceIte,zA,zB,zC,zD,zE,zF,reduceCtorEq]
     refine aN (fun qW => ?_) (fun qW => ?_)
     ·have hR : (17 : Int) = bG l roots s := by rw [hS, if_pos (.inl (List.any_eq_true.2 ⟨x, rm, qW⟩))]
      simp only [ae,af,aC,aU,hw,List.getElem?_map,hx,Option.map_some,ag,ab,ah,List.length_map,go_sem,reduceIte,zA,zB,zC,zD,zE,zF,reduceCtorEq]
      exact hK _ (Option.some.inj (congrArg (fun x => some (num x)) hR))
     ·simp only [ae,af,aC,aU,hw,List.getElem?_map,hx,Option.map_some,ag,ab,ah,List.length_map,go_sem,reduceIte,zA,zB,zC,zD,zE,zF,reduceCtorEq]
      refine nw _ ⟨i + 1, ?_, ?_, bj (by omega) (by (simp only [hw,ae,af,aC,aU,go_sem,reduceIte,zA,zB,zC,zD,zE,zF,reduceCtorEq]))⟩
      ·refine ⟨az, fun j hj y hy => ?_⟩
       rcases Nat.lt_or_ge j i with h | h
       ·exact aV j h y hy
       ·obtain rfl : j = i := by omega
        rw [hx] at hy; cases hy; exact qW
      ·omega
    ·have cH : ¬ i < m.length := by simpa using PB
     have Qk : ∀ x ∈ m, x.reqs.any (brk m) = false := fun x hx => by
      obtain ⟨j, hj⟩ := List.mem_iff_getElem?.1 hx
      exact aV j (by have := (List.getElem?_eq_some_iff.1 hj).1; omega) x hj
     simp only [ae,af,aC,aU,List.length_map,go_sem,reduceIte,zA,zB,zC,zD,zE,zF,reduceCtorEq]
     refine cS (ze m roots (by omega) EA _ 6 7 rfl rfl (by decide)) ?_
     rintro _ rfl
     simp only [ae,af,aC,aU,List.length_map,go_sem,reduceIte,zA,zB,zC,zD,zE,zF,reduceCtorEq]
     refine aN (fun Lh => ?_) (fun Lh => ?_)
     ·have hR : (17 : Int) = bG l roots s := by rw [hS, if_pos (.inr Lh)]
      simp only [ae,af,aC,aU,List.length_map,go_sem,reduceIte,zA,zB,zC,zD,zE,zF,reduceCtorEq]
      exact hK _ (Option.some.inj (congrArg (fun x => some (num x)) hR))
     ·have bK : ∀ q, (q ∈ roots ∨ ∃ a ∈ m, q ∈ a.reqs) → brk m q = false := fun q hq => by
       rcases hq with hq | ⟨a, ha, hq⟩
       ·have := List.any_eq_false.1 Lh q hq; simpa using this
       ·have := List.any_eq_false.1 (Qk a ha) q hq; simpa using this
      have IX : bG l roots s = if (bS m roots).length < m.length then 8 else 0 := by
       rw [hS, if_neg]
       rintro (h | h)
       ·obtain ⟨a, ha, h⟩ := List.any_eq_true.1 h; rw [Qk a ha] at h; cases h
       ·rw [Lh] at h; cases h
      simp only [ae,af,aC,aU,List.length_map,go_sem,reduceIte,zA,zB,zC,zD,zE,zF,reduceCtorEq]
      refine cW (qH roots (by omega) _) ?_
      rintro _ _ ⟨rfl, rfl⟩
      try simp only [Fa,List.length_cons,List.length_nil,zA]
      simp only [ae,af,aC,aU,List.length_map,go_sem,reduceIte,zA,zB,zC,zD,zE,zF,reduceCtorEq]
      refine cY tt_ok [] (fun a : List Rl × List Rq × Nat × Nat × List V => [(9, .slice (m.map ag)), (10, .ptr 7 0), (16, .mp 8), (17, .ms 9 a.2.2.1 a.2.2.2.1 a.2.1.length)]) (fun a : List Rl × List Rq × Nat × Nat × List V => [.box [.slice (l.map ag), .slice I], .box [.slice (l.map ag), .slice I], .box [.mp 3, .mp 4], .map (bJ aL 0 (gK (aq l))) (gK (aq l)).length, .map (bJ strVal 0 (gP (aq l))) (aO (aq l)).length, .box [.mp 3, .mp 4], .map (bJ strVal 0 (gB (m))) (gB (m)).length, .box [.mp 6], .map (bJ strVal 0 (gN a.1)) (gN a.1).length, .rows a.2.2.1 2 a.2.2.2.2]) (fun a => a.2.1.length + cz m a.1) (fun a => RI m roots a.1 a.2.1 (fun _ => False) ∧ a.1.Pairwise (fun x y => x.path ≠ y.path) ∧ a.2.2.2.2.drop a.2.2.2.1 = a.2.1.map aj ∧ a.2.2.2.1 + a.2.1.length = a.2.2.2.2.length ∧ a.2.1.length + cz m a.1 ≤ roots.length + 16777216) (([], roots, 1, 0, roots.map aj)) 10 (bj (by omega) (by simp only [ae,af,aC,aU,List.length_map,gN,List.map_nil,bJ,List.length_nil,Int.cast_ofNat_Int,go_sem,reduceIte,zA,zB,zC,zD,zE,zF,reduceCtorEq] <;> rfl)) (⟨RI.start _ _, List.Pairwise.nil, rfl, by simp, by dsimp only; have := Zz; omega⟩) ?_
      rintro ⟨S, P, v, o, rs⟩ ⟨HL, Ue, zu, M3, hW⟩
      try dsimp only at HL Ue zu M3 hW ⊢
      intro Z3 wG
      simp only [ae,af,aC,aU,List.length_map,go_sem,reduceIte,zA,zB,zC,zD,zE,zF,reduceCtorEq]
      refine aN (fun wQ => ?_) (fun wQ => ?_)
      ·obtain ⟨q, P, rfl⟩ : ∃ q P2, P = q :: P2 := by
        cases P with
        | nil => simp at wQ
        | cons q r => exact ⟨q, r, rfl⟩
       simp only [List.length_cons] at wQ ⊢
       rw [wQ]
       obtain ⟨HM, hq⟩ := HL.pop
       have b9 : rs[o]? = some (aj q) := by
        have h := congrArg (fun x => x[0]?) zu
        simpa using h
       have kB : rs.drop (o + 1) = P.map aj := by
        rw [← List.drop_drop, zu]; rfl
       have jH : o + 1 + P.length = rs.length := by rw [List.length_cons] at M3; omega
       rw [List.length_cons] at hW
       have h0 : (0 : Int) < ((P.length + 1 : Nat) : Int) := by omega
       have h1 : (1 : Int) ≤ ((P.length + 1 : Nat) : Int) := by omega
       have dQ : (((P.length + 1 : Nat) : Int) - 1).toNat = P.length := by omega
       have c6 : ∀ mem : List aw, mem[9]? = some (.rows v 2 rs) → cutAt mem 2 1 none (.ms 9 v o (P.length + 1)) = some (.ms 9 v (o + 1) P.length) := fun mem hm => by
        unfold cutAt
        simp [eJ, hm] <;> omega
       have KE : q ∈ roots ∨ ∃ a ∈ m, q ∈ a.reqs := by
        rcases hq with hq | ⟨a, ha, hq⟩
        ·exact .inl hq
        ·exact .inr ⟨a, (HL.sub a ha).mem, hq⟩
       obtain ⟨r, XM, QC, HO⟩ := PA Zy (bK q KE)
       have Tc := (tx XM).2
       have Uf := fun (mem : List aw) (b : Nat) hm => HZ S q.path (mem := mem) (b := b) hm
       simp only [ae,af,aC,aU,b9,h0,h1,dQ,c6,List.length_cons,aj,al,Nat.add_zero,Int.le_refl,Int.toNat_one,Int.toNat_zero,Uf,List.length_map,go_sem,reduceIte,zA,zB,zC,zD,zE,zF,reduceCtorEq]
       refine aN (fun PC => ?_) (fun PC => ?_)
       ·have mM : oV S q.path = false := by simpa using PC
        have H3 : ∀ x ∈ S, x.path ≠ r.path := fun x hx he => by
         have : oV S q.path = true := by unfold oV; exact List.any_eq_true.2 ⟨x, hx, by rw [he, Tc]; simp⟩
         rw [mM] at this; cases this
        have eQ : seen S r.key = false := by
         cases hk : seen S r.key with
         | false => rfl
         | true => obtain ⟨x, hx, he⟩ := tm.1 hk; exact absurd (congrArg dA.path he) (H3 x hx)
        have w9 := fun (mem : List aw) (b : Nat) hm => H0 H3 (mem := mem) (b := b) hm
        rw [Tc] at w9
        have WC := fun (mem : List aw) (b : Nat) hm => K8 XM (mem := mem) (b := b) hm
        simp only [ag,ab,ah] at WC
        have XJ := pT zr QC eQ
        have XK := WB r QC
        have fO := bI r.reqs
        have eO : P.length + r.reqs.length ≤ 34359738368 := by omega
        simp only [ae,af,aC,aU,b9,h0,h1,dQ,c6,List.length_cons,aj,al,Nat.add_zero,Int.le_refl,Int.toNat_one,Int.toNat_zero,Uf,w9,WC,jH,fO,eO,Mv,List.length_map,go_sem,reduceIte,zA,zB,zC,zD,zE,zF,reduceCtorEq]
        refine Vq ?_
        intro o2 CV Dy zw
        try rw [List.length_map] at zw
        let nv : List Rl × List Rq × Nat × Nat × List V := (S ++ [r], P ++ r.reqs, v + 1, o2, CV)
        have wO : RI m roots (S ++ [r]) (P ++ r.reqs) (fun _ => False) ∧ (S ++ [r]).Pairwise (fun x y => x.path ≠ y.path) ∧ CV.drop o2 = (P ++ r.reqs).map aj ∧ o2 + (P ++ r.reqs).length = CV.length ∧ (P ++ r.reqs).length + cz m (S ++ [r]) ≤ roots.length + 16777216 := by
         refine ⟨(HM.Wv hq QC HO).close fun y hy hh => ?_, ?_, by rw [Dy, kB, List.map_append], by rw [List.length_append]; omega, by rw [List.length_append]; omega⟩
         ·rw [WA y hy r QC (by rw [Tc]; exact (me hh).symm)]; simp
         ·exact List.pairwise_append.2 ⟨Ue, List.pairwise_singleton _ _, fun x hx y hy => by rw [List.mem_singleton] at hy; exact hy ▸ H3 x hx⟩
        simp only [ae,af,aC,aU,b9,h0,h1,dQ,c6,List.length_cons,aj,al,Nat.add_zero,Int.le_refl,Int.toNat_one,Int.toNat_zero,Uf,w9,WC,jH,fO,eO,Mv,List.length_map,go_sem,reduceIte,zA,zB,zC,zD,zE,zF,reduceCtorEq]
        refine wG _ ⟨nv, ?_, ?_, bj (by omega) (by (simp only [nv,List.length_append,ae,af,aC,aU,go_sem,reduceIte,zA,zB,zC,zD,zE,zF,reduceCtorEq]))⟩
        ·exact wO
        ·dsimp only [nv]; omega
       ·have mM : oV S q.path = true := by simpa using PC
        have ZA : r ∈ S := by
         unfold oV at mM
         obtain ⟨x, hx, he⟩ := List.any_eq_true.1 mM
         have he := of_decide_eq_true he
         rw [← WA x (HL.sub x hx).mem r QC (by rw [he, Tc])]; exact hx
        let nv : List Rl × List Rq × Nat × Nat × List V := (S, P, v, o + 1, rs)
        have wO : RI m roots S P (fun _ => False) ∧ S.Pairwise (fun x y => x.path ≠ y.path) ∧ rs.drop (o + 1) = P.map aj ∧ o + 1 + P.length = rs.length ∧ P.length + cz m S ≤ roots.length + 16777216 := by
         refine ⟨HM.close fun y hy hh => ?_, Ue, kB, jH, by omega⟩
         rw [WA y hy r QC (by rw [Tc]; exact (me hh).symm)]; exact ZA
        simp only [ae,af,aC,aU,b9,h0,h1,dQ,c6,List.length_cons,aj,al,Nat.add_zero,Int.le_refl,Int.toNat_one,Int.toNat_zero,Uf,List.length_map,go_sem,reduceIte,zA,zB,zC,zD,zE,zF,reduceCtorEq]
        refine wG _ ⟨nv, ?_, ?_, bj (by omega) (by (simp only [nv,List.length_append,ae,af,aC,aU,go_sem,reduceIte,zA,zB,zC,zD,zE,zF,reduceCtorEq]))⟩
        ·exact wO
        ·dsimp only [nv]; omega
      ·obtain rfl : P = [] := by
        cases P with
        | nil => rfl
        | cons q r => simp at wQ
       have hSl : S.length = (bS m roots).length := by
        classical
        refine Le (S := S) (T := bS m roots) (Ue.imp fun h => fun e => h (congrArg Rl.path e)) ?_ fun x => by rw [HL.fin, yx]
        unfold bS
        exact List.Pairwise.filter _ (zr.imp fun h => fun e => jG h (congrArg Rl.key e))
       have PD : ((bJ strVal 0 (gN S)).length : Int) = S.length := Ld
       simp only [ae,af,aC,aU,PD,nX,qL,List.length_map,go_sem,reduceIte,zA,zB,zC,zD,zE,zF,reduceCtorEq]
       refine aN (fun PE => ?_) (fun PE => ?_)
       ·have hR : (8 : Int) = bG l roots s := by rw [IX, if_pos (by have := of_decide_eq_true PE; omega)]
        simp only [ae,af,aC,aU,PD,nX,qL,List.length_map,go_sem,reduceIte,zA,zB,zC,zD,zE,zF,reduceCtorEq]
        exact hK _ (Option.some.inj (congrArg (fun x => some (num x)) hR))
       ·have hR : (0 : Int) = bG l roots s := by rw [IX, if_neg (by have := of_decide_eq_false PE; omega)]
        simp only [ae,af,aC,aU,PD,nX,qL,List.length_map,go_sem,reduceIte,zA,zB,zC,zD,zE,zF,reduceCtorEq]
        exact hK _ (Option.some.inj (congrArg (fun x => some (num x)) hR))
end Go.Proofs.YtnfeacnbgbggfaaGreatDoor
end

section
namespace Go.Proofs.YtnfeacnbgbggfaaGreatDoor
open Go.Eng
variable [aE]
def pA : ByteArray := ⟨#[97,47,118,49]⟩
def pB : ByteArray := ⟨#[98,47,118,49]⟩
def e0 : ByteArray := ⟨#[]⟩
def tH (p : ByteArray) (b : Int) (q : List Rq) (y : Bool) : Rl := ⟨p, ⟨1, b, 0⟩, q, e0, e0, e0, y⟩
def EB : List Rq := [⟨pB, [⟨1000, 1000000⟩]⟩]
def xA : Rl := tH pA 0 EB false
def u6 : Rl := tH pB 0 [] false
def rC : Rl := tH pB 1 [] false
def Bs : Rl := tH pB 2 [] true
def jK : List Rl := [xA, u6, rC, Bs]
def bp : List Rq := [⟨pA, [⟨0, 1000000⟩]⟩]
def C1 : List dA := [⟨pA, ⟨1, 0, 0⟩⟩, ⟨pB, ⟨1, 0, 0⟩⟩]
def C2 : List dA := [⟨pA, ⟨1, 0, 0⟩⟩, ⟨pB, ⟨1, 1, 0⟩⟩]
theorem C3 : ey jK = 0 := by kernel_rfl
theorem Bt : ey [xA] = 0 := by kernel_rfl
theorem C4 : aq jK = jK := by unfold aq; rw [if_pos C3]
theorem EC : w6 jK := by
 refine ⟨by decide, fun r hr => ?_⟩
 unfold jK at hr
 simp only [List.mem_cons,List.not_mem_nil,or_false] at hr
 rcases hr with rfl | rfl | rfl | rfl
 ·refine ⟨by decide, by decide, fun q hq => ?_⟩
  unfold xA tH EB at hq
  simp only [List.mem_cons,List.not_mem_nil,or_false] at hq
  subst hq
  exact ⟨by decide, by decide⟩
 ·exact ⟨by decide, by decide, fun q hq => by simp [u6, tH] at hq⟩
 ·exact ⟨by decide, by decide, fun q hq => by simp [rC, tH] at hq⟩
 ·exact ⟨by decide, by decide, fun q hq => by simp [Bs, tH] at hq⟩
theorem H4 : ∀ q ∈ bp, qD q := fun q hq => by
 unfold bp at hq
 simp only [List.mem_cons,List.not_mem_nil,or_false] at hq
 subst hq
 exact ⟨by decide, by decide⟩
theorem PF {l : List Rl} (h : xA ∈ l) : oL l bp xA := .root _ _ (List.mem_singleton.2 rfl) h (by kernel_rfl)
theorem PG {l : List Rl} (h : xA ∈ l) {r : Rl} (hr : r ∈ l) (hh : eg ⟨pB, [⟨1000, 1000000⟩]⟩ r = true) : oL l bp r := .step xA _ r (PF h) (List.mem_singleton.2 rfl) hr hh
theorem Td : ¬ oL jK bp u6 := fun h => by
 have key := JZ (l := jK) (roots := bp) (fun r => r ∈ jK ∧ r ≠ u6 ∧ oL jK bp r) (fun r h => h.2.2) (fun q hq r hr hh => ?_) (fun a ha q hq r hr hh => ?_) u6
 ·exact ((key.2 h).2.1) rfl
 ·refine ⟨hr, fun e => ?_, .root q r hq hr hh⟩
  subst e
  unfold bp at hq
  rw [List.mem_singleton] at hq
  subst hq
  exact absurd hh (by rw [show eg ⟨pA, [⟨0, 1000000⟩]⟩ u6 = false from by kernel_rfl]; decide)
 ·refine ⟨hr, fun e => ?_, .step a q r ha.2.2 hq hr hh⟩
  subst e
  have h1 := ha.1
  unfold jK at h1
  simp only [List.mem_cons,List.not_mem_nil,or_false] at h1
  rcases h1 with rfl | rfl | rfl | rfl
  ·unfold xA tH EB at hq
   rw [List.mem_singleton] at hq
   subst hq
   exact absurd hh (by rw [show eg ⟨pB, [⟨1000, 1000000⟩]⟩ u6 = false from by kernel_rfl]; decide)
  ·simp [u6, tH] at hq
  ·simp [rC, tH] at hq
  ·simp [Bs, tH] at hq
theorem H5 : (bS (aq jK) bp).length = 3 := by
 rw [C4]
 have hA : oL jK bp xA := PF (by simp [jK])
 have h1 : oL jK bp rC := PG (by simp [jK]) (by simp [jK]) (by kernel_rfl)
 have h2 : oL jK bp Bs := PG (by simp [jK]) (by simp [jK]) (by kernel_rfl)
 unfold bS
 show (List.filter _ [xA, u6, rC, Bs]).length = 3
 rw [List.filter_cons_of_pos (by simpa using hA), List.filter_cons_of_neg (by simpa using Td), List.filter_cons_of_pos (by simpa using h1), List.filter_cons_of_pos (by simpa using h2)]
 rfl
theorem ED : bG jK bp C1 = 17 := by
 unfold bG
 rw [if_neg (by rw [C3]; simp), if_pos (show gX C1 = true by kernel_rfl), show gk jK C1 = some [xA, u6] by kernel_rfl]
 exact if_pos (.inl (by kernel_rfl))
theorem EE : bG jK bp C2 = 0 := by
 unfold bG
 rw [if_neg (by rw [C3]; simp), if_pos (show gX C2 = true by kernel_rfl), show gk jK C2 = some [xA, rC] by kernel_rfl]
 dsimp only
 rw [if_neg (by rw [show ([xA, rC].any fun r => r.reqs.any (brk [xA, rC])) = false by kernel_rfl, show bp.any (brk [xA, rC]) = false by kernel_rfl]; simp)]
 have hA : oL [xA, rC] bp xA := PF (by simp)
 have h1 : oL [xA, rC] bp rC := PG (by simp) (by simp) (by kernel_rfl)
 have : bS [xA, rC] bp = [xA, rC] := by
  unfold bS
  rw [List.filter_cons_of_pos (by simpa using hA), List.filter_cons_of_pos (by simpa using h1)]
  rfl
 rw [this]
 rfl
theorem H6 : canon (wP (dC (aq jK) pB)) = [⟨0, 1⟩, ⟨1000, 1001⟩] := by rw [C4]; kernel_rfl
theorem Bu (hG : aE.g = some 0) : aQ Tryz.prog 45 [] (.agg [.slice [.agg [str pA, num 1, num 0, num 0, .slice [.agg [str pB, .slice [.agg [num 1000, num 1000000]]]], str e0, str e0, str e0, bl false], .agg [str pB, num 1, num 0, num 0, .slice [], str e0, str e0, str e0, bl false],
  .agg [str pB, num 1, num 1, num 0, .slice [], str e0, str e0, str e0, bl false], .agg [str pB, num 1, num 2, num 0, .slice [], str e0, str e0, str e0, bl true]], .slice []]) := Cj yQ (JJ hG) 200 (by kernel_rfl)
end Go.Proofs.YtnfeacnbgbggfaaGreatDoor
end

section
namespace Go.Proofs.YtnfeacnbgbggfaaGreatDoor
open Go.Eng
open Nat renaming reduceAdd → zA, reduceLT → zB, reduceLeDiff → zC, reduceMul → zD, reduceEqDiff → zE, reduceSub → zF
variable [aE]
set_option maxHeartbeats 4000000
set_option maxRecDepth 100000
theorem H7 (hG : aE.g = some 0) : ∃ r_, (fun w => w = bl (true)) r_ ∧ aQ Tryz.prog 9 [] r_ := by
 refine dZ tt_ok [8] 89 [.tmp 0] (fn := Tryz.f9) Tryz.func9 rfl Tryz.call9 ⟨rfl, rfl, by simp⟩ fun K hK => ?_
 obtain ⟨RE, QD⟩ : ∃ x, x = (bS (aq jK) bp).map Rl.key := ⟨_, rfl⟩
 have Bl : ((RE.length : Nat) : Int) = 3 := by rw [QD, List.length_map, H5]; rfl
 have bt : ∀ (mem : List aw) (ks : List (Nat × Nat)) (n : Int), cK mem ks (num n) = mem := fun _ _ _ => rfl
 have qX : ∀ (mem : List aw) (ks : List (Nat × Nat)) (b : Bool), cK mem ks (bl b) = mem := fun _ _ _ => rfl
 have WD : IS xA := EC.2 xA (by simp [jK])
 have XN : (pM xA).length ≤ 1048576 := by have h := K5 (Hs (Bh xA ▸ Bt)) (by kernel_rfl); omega
 obtain ⟨MS, Ug⟩ : ∃ x, x = bs (pM xA) := ⟨_, rfl⟩
 have WE : MS.size ≤ 1048576 := by rw [Ug, oR]; exact XN
 simp only [List.length_map,Bl,bt,qX,go_sem,reduceIte,zA,zB,zC,zD,zE,zF,reduceCtorEq]
 refine cF (by have h : ∃ r_, (fun w => w = V.agg _) r_ ∧ aQ Tryz.prog 45 [] r_ := ⟨_, rfl, Bu hG⟩; simp only [jK,bp,C1,C2,xA,u6,rC,Bs,tH,EB,pA,pB,e0,bA,bh,ah,aX,List.map_cons,List.map_nil,ag,ab,aj,al,ak,aH] at h; exact h) ?_
 rintro _ rfl
 simp only [nd,BW,fa,List.length_map,Bl,bt,qX,go_sem,reduceIte,zA,zB,zC,zD,zE,zF,reduceCtorEq]
 refine cF (by have h := yV hG xA WD; rw [K6 Bt, ← Ug] at h; simp only [jK,bp,C1,C2,xA,u6,rC,Bs,tH,EB,pA,pB,e0,bA,bh,ah,aX,List.map_cons,List.map_nil,ag,ab,aj,al,ak,aH] at h; exact h) ?_
 rintro _ rfl
 simp only [nd,BW,fa,List.length_map,Bl,bt,qX,go_sem,reduceIte,zA,zB,zC,zD,zE,zF,reduceCtorEq]
 refine cF (by have h := KV hG MS WE; rw [Ug, HK Bt WD XN, ← Ug] at h; simp only [jK,bp,C1,C2,xA,u6,rC,Bs,tH,EB,pA,pB,e0,bA,bh,ah,aX,List.map_cons,List.map_nil,ag,ab,aj,al,ak,aH] at h; exact h) ?_
 rintro _ rfl
 simp only [nd,BW,fa,List.length_map,Bl,bt,qX,go_sem,reduceIte,zA,zB,zC,zD,zE,zF,reduceCtorEq]
 refine sE (v' := .slice [.agg [str ⟨#[97,47,118,49]⟩, .slice [.agg [num 0, num 1000000]]]]) 2 (by decide) rfl rfl ?_
 refine sE (v' := .slice [.agg [str ⟨#[97,47,118,49]⟩, num 1, num 0, num 0], .agg [str ⟨#[98,47,118,49]⟩, num 1, num 0, num 0]]) 5 (by decide) rfl rfl ?_
 refine sE (v' := .slice [.agg [str ⟨#[97,47,118,49]⟩, num 1, num 0, num 0], .agg [str ⟨#[98,47,118,49]⟩, num 1, num 1, num 0]]) 6 (by decide) rfl rfl ?_
 refine VL tt_ok [8] aG [⟨.r, 0, [], [], []⟩, ⟨.n, 0, [], [], []⟩, ⟨.n, 0, [], [], []⟩, ⟨.n, 0, [], [], []⟩, ⟨.r, 0, [], [], []⟩, ⟨.n, 0, [], [], []⟩, ⟨.n, 0, [], [], []⟩, ⟨.n, 0, [], [], []⟩, ⟨.n, 0, [], [], []⟩, ⟨.n, 0, [], [], []⟩, ⟨.n, 0, [], [], []⟩, ⟨.r, 0, [], [], []⟩, ⟨.n, 0, [], [], []⟩, ⟨.n, 0, [], [], []⟩, ⟨.n, 0, [], [], []⟩, ⟨.n, 0, [], [], []⟩, ⟨.n, 0, [], [], []⟩, ⟨.n, 0, [], [], []⟩, ⟨.n, 0, [], [], []⟩, ⟨.r, 0, [], [], []⟩, ⟨.n, 0, [], [], []⟩, ⟨.n, 0, [], [], []⟩, ⟨.n, 0, [], [], []⟩, ⟨.n, 0, [], [], []⟩, ⟨.n, 0, [], [], []⟩, ⟨.n, 0, [], [], []⟩, ⟨.r, 0, [], [], []⟩, ⟨.n, 0, [], [], []⟩, ⟨.n, 0, [], [], []⟩, ⟨.n, 0, [], [], []⟩, ⟨.n, 0, [], [], []⟩, ⟨.n, 0, [], [], []⟩, ⟨.n, 0, [], [], []⟩, ⟨.n, 0, [], [], []⟩, ⟨.n, 0, [], [], []⟩, ⟨.n, 0, [], [], []⟩, ⟨.n, 0, [], [], []⟩, ⟨.n, 0, [], [], []⟩, ⟨.n, 0, [], [], []⟩, ⟨.n, 0, [], [], []⟩, ⟨.n, 0, [], [], []⟩, ⟨.r, 0, [], [], []⟩, ⟨.n, 0, [], [], []⟩, ⟨.r, 0, [], [], []⟩, ⟨.r, 0, [], [], []⟩, ⟨.r, 0, [], [], []⟩, ⟨.n, 0, [], [], []⟩, ⟨.n, 0, [], [], []⟩, ⟨.n, 0, [], [], []⟩] 0 (by kernel_rfl) ?_
 simp only [nd,BW,fa,List.length_map,Bl,bt,qX,go_sem,reduceIte,zA,zB,zC,zD,zE,zF,reduceCtorEq]
 refine cG (by have h := s4 hG jK [] EC; rw [C3] at h; simp only [jK,bp,C1,C2,xA,u6,rC,Bs,tH,EB,pA,pB,e0,bA,bh,ah,aX,List.map_cons,List.map_nil,ag,ab,aj,al,ak,aH] at h; exact h) ?_
 rintro _ rfl
 simp only [nd,BW,fa,List.length_map,Bl,bt,qX,go_sem,reduceIte,zA,zB,zC,zD,zE,zF,reduceCtorEq]
 refine cG (by have h := za hG jK [] EC bp (by decide) H4; rw [← QD] at h; simp only [jK,bp,C1,C2,xA,u6,rC,Bs,tH,EB,pA,pB,e0,bA,bh,ah,aX,List.map_cons,List.map_nil,ag,ab,aj,al,ak,aH] at h; exact ⟨_, rfl, h⟩) ?_
 rintro _ rfl
 simp only [nd,BW,fa,List.length_map,Bl,bt,qX,go_sem,reduceIte,zA,zB,zC,zD,zE,zF,reduceCtorEq]
 refine cG (by have h := HR hG jK [] EC pB; rw [H6] at h; simp only [jK,bp,C1,C2,xA,u6,rC,Bs,tH,EB,pA,pB,e0,bA,bh,ah,aX,List.map_cons,List.map_nil,ag,ab,aj,al,ak,aH] at h; exact ⟨_, rfl, h⟩) ?_
 rintro _ rfl
 simp only [nd,BW,fa,List.length_map,Bl,bt,qX,go_sem,reduceIte,zA,zB,zC,zD,zE,zF,reduceCtorEq]
 refine cG (by have h := wq [⟨0, 1⟩, ⟨1000, 1001⟩] [⟨0, 1⟩, ⟨1000, 1001⟩] (by decide); rw [show decide (([⟨0, 1⟩, ⟨1000, 1001⟩] : List bF) = [⟨0, 1⟩, ⟨1000, 1001⟩]) = true from decide_eq_true rfl] at h; simp only [jK,bp,C1,C2,xA,u6,rC,Bs,tH,EB,pA,pB,e0,bA,bh,ah,aX,List.map_cons,List.map_nil,ag,ab,aj,al,ak,aH] at h; exact h) ?_
 rintro _ rfl
 simp only [nd,BW,fa,List.length_map,Bl,bt,qX,go_sem,reduceIte,zA,zB,zC,zD,zE,zF,reduceCtorEq]
 refine cG (by have h := pW hG jK [] EC bp (by decide) H4 C1 (by decide); rw [ED] at h; simp only [jK,bp,C1,C2,xA,u6,rC,Bs,tH,EB,pA,pB,e0,bA,bh,ah,aX,List.map_cons,List.map_nil,ag,ab,aj,al,ak,aH] at h; exact ⟨_, rfl, h⟩) ?_
 rintro _ rfl
 simp only [nd,BW,fa,List.length_map,Bl,bt,qX,go_sem,reduceIte,zA,zB,zC,zD,zE,zF,reduceCtorEq]
 refine cG (by have h := pW hG jK [] EC bp (by decide) H4 C2 (by decide); rw [EE] at h; simp only [jK,bp,C1,C2,xA,u6,rC,Bs,tH,EB,pA,pB,e0,bA,bh,ah,aX,List.map_cons,List.map_nil,ag,ab,aj,al,ak,aH] at h; exact ⟨_, rfl, h⟩) ?_
 rintro _ rfl
 simp only [nd,BW,fa,List.length_map,Bl,bt,qX,go_sem,reduceIte,zA,zB,zC,zD,zE,zF,reduceCtorEq]
 refine cG (by have h := Ez xA xA WD; rw [show decide (xA = xA) = true from decide_eq_true rfl] at h; simp only [jK,bp,C1,C2,xA,u6,rC,Bs,tH,EB,pA,pB,e0,bA,bh,ah,aX,List.map_cons,List.map_nil,ag,ab,aj,al,ak,aH] at h; exact h) ?_
 rintro _ rfl
 simp only [nd,BW,fa,List.length_map,Bl,bt,qX,go_sem,reduceIte,zA,zB,zC,zD,zE,zF,reduceCtorEq]
 exact hK _ rfl
end Go.Proofs.YtnfeacnbgbggfaaGreatDoor
end

section
namespace Go.Proofs.YtnfeacnbgbggfaaGreatDoor
open Go.Eng
set_option maxRecDepth 100000
open Go.ChangeShapes Go.WideShapes Go.ChangeAt Go.RowKit
@[reducible] def XO (n : Int) : aE := { n := n, κ := fun _ => none, ok := fun j b hb => (by cases hb), g := some 0, MK := fun _ => none }
theorem H8 {W : World} {v : Value} (bK : Cell.ok Tryz.prog W .any 0 3 v) : ∃ n : Int, v = .int .i64 n := by
 unfold Cell.ok at bK
 rw [Tryz.underlying3] at bK
 cases v with
 | int k n => exact ⟨n, by rw [show k = .i64 from bK.1]⟩
 | _ => exact bK.elim
theorem EF {W : World} (hS : W.ShapedOpen Tryz.prog) : ∃ n : Int, W.cell? ⟨0, 0, none⟩ = some (.int .i64 n) := by
 have h0 : (((begin Tryz.prog (fun _ _ => 0) default).world.heap[0]?).bind Obj.row?) = some (#[.int .i64 0], 3) := by kernel_rfl
 obtain ⟨cs, hc, hz, hr⟩ := hS.1 0 _ _ (of_decide_eq_true (by kernel_rfl)) h0
 obtain ⟨ts, h1, -, h3⟩ := hr (by kernel_rfl)
 obtain rfl : [3] = ts := Option.some.inj ((show Tryz.prog.cellTypes Tryz.prog.depth 3 = some [3] by kernel_rfl).symm.trans h1)
 have hz' : cs.size = 1 := hz
 obtain ⟨v, hv⟩ : ∃ v, cs[0]? = some v := ⟨cs[0], Array.getElem?_eq_getElem (by omega)⟩
 obtain ⟨u, hu, bK⟩ := h3 0 v hv
 obtain rfl : 3 = u := by simpa using hu
 obtain ⟨n, rfl⟩ := H8 bK
 exact ⟨n, by simp [World.cell?, hc, hv]⟩
theorem Li {F : Addr → Option Value} [aE] {hg : Gl F} {cs : List V} {v : Value} (bL : cs.length ≠ 1) (h : Rd F hg cs v.cells.toList) : aW ⟨F, fun _ _ => none, hg⟩ (.agg cs) v := by
 cases v with
 | agg xs => exact .agg _ _ _ (by simpa [Value.cells] using h.1.1) fun i c x hc hx => h.1.2 i c x hc (by simpa [Value.cells] using hx)
 | _ => exact absurd h.1.1 (by simpa [Value.cells] using bL)
theorem EG {H : Type} {enc : TypeId × Value → H} {P : Program} {f : Func} {s : ChangeSpec} {apart fresh handsOn again : Bool} {W W' : World} {args : Array Value} {v : Value} {ds gs : List (DataW H)} {before pa pv : List MemPlace}
  (hW : DataW.Whole enc P f.params.toList s.vars apart W args.toList ds gs before)
  (au : ∀ (b : Nat) (sp : Nat → Bool) (hd : Bool), DataW.TrodAll enc P W' b sp hd f.resultTypes.toList (v.resultList f.resultTypes.size) (s.fn H (ds ++ gs)).results [])
  (iS : ∀ sp : Nat → Bool, (∀ p ∈ before, sp p.block = true) → DataW.TrodAll enc P W' 0 sp true f.params.toList args.toList (s.fn H (ds ++ gs)).args pa)
  (Mw : ∀ sp : Nat → Bool, (∀ p ∈ before, sp p.block = true) → DataW.TrodVars enc P W' sp s.vars (s.fn H (ds ++ gs)).vars pv)
  (WG : before = pa ++ pv) (hb : Below W.heap.size W W')
  (bK : ∀ (j : Nat) (t : TypeId) (r : Value), f.resultTypes[j]? = some t → (v.resultList f.resultTypes.size)[j]? = some r → Value.okWide P W' .any 0 t r) :
  s.post enc P f apart fresh handsOn again W args v W' := by
 have az := hW.lt
 refine ⟨ds, gs, before, [], pa, pv, hW, au _ _ _, iS _ (fun p hp => by simpa using az p hp), Mw _ (fun p hp => by simpa using az p hp), hb.frame _, fun _ => ?_⟩
 obtain ⟨_, _, _, _, _, hz, hn⟩ := hW
 refine ⟨bK, _, _, ([] ++ pa) ++ pv, ⟨[] ++ pa, pv, trodAll_append (iS _ (fun _ _ => rfl)) (au _ _ _), Mw _ (fun _ _ => rfl), rfl, fun b off hp => ?_, fun ha => ?_⟩, fun p hp _ => ?_⟩
 ·have LU : MemPlace.cell b off ∈ before := by rw [WG]; simpa using hp
  rw [hb.frozen (show (⟨b, off, none⟩ : Addr).block < W.heap.size from az _ LU)]
  exact hz b off LU
 ·have := hn ha
  rw [WG] at this
  simpa using this
 ·rw [WG]
  simpa using hp
theorem H9 {F : Addr → Option Value} [aE] {hg : Gl F} {rows : List V} {a : Option Addr} {l c : Nat} (h : Rd F hg [.slice rows] (Value.slice a l c).cells.toList) : aW ⟨F, fun _ _ => none, hg⟩ (.slice rows) (.slice a l c) := h.1.2 0 _ _ rfl rfl
end Go.Proofs.YtnfeacnbgbggfaaGreatDoor
end
