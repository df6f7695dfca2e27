/-
  MAPS with keys of one kind: what reading and writing come to, as lists of keys and values.
  TABLES: the order of a good index, its groups by path (plain).
  TABLES: the maps' types, and what freezing and changing keys make of the tables.
  CONTRACTS: the table of an index.
  CONTRACTS: clones.
  CONTRACTS: Find.
  CONTRACTS: Read.
  PLAIN LAWS of manifests: what is written is read, what is read is written.
  CONTRACTS: equal releases.
  REACHING: what the loop of Reachable keeps (plain).
  CONTRACTS: what Reachable needs.
  CONTRACTS: Reachable.
  CONTRACTS: few releases; a selection that is contained.
  THE LAW IndexReturns.
  CONTRACTS: Available.
  CONTRACTS: the releases of a selection.
  CONTRACTS: requirements that a selection breaks.
  CONTRACTS: Solves.
  AWAKE: the example of the chapter.
  AWAKE.
  CLOSING: what is common to the laws of chapter 32.
-/
import Derived.Test.YtnfeacnbgbggfaaGreatDoorZ5
import Derived.WalkKit
import Derived.ProofKit
import Derived.OpenShut
import Derived.WideKeyArgs
import Derived.Deep.DeepHandedRow
set_option linter.all false
section
namespace Go.Proofs.YtnfeacnbgbggfaaGreatDoor
open Go.Eng
variable [aH]
section
variable {α : Type} [DecidableEq α]
def bE (kv : α → Value) : Nat → List (α × V) → List (Value × Nat × V)
 | _, [] => []
 | n, (k, v) :: r => (kv k, n, v) :: bE kv (n + 1) r
theorem tO (kv : α → Value) : ∀ (g : List (α × V)) (n : Nat), (bE kv n g).length = g.length
 | [], _ => rfl
 | _ :: r, n => by simp [bE, tO kv r (n + 1)]
theorem zY (kv : α → Value) : ∀ (g : List (α × V)) (n : Nat), (bE kv n g).map (fun e => e.2.2) = g.map (·.2)
 | [], _ => rfl
 | _ :: r, n => by simp [bE, zY kv r (n + 1)]
theorem DU (kv : α → Value) : ∀ (g : List (α × V)) (n i : Nat), (bE kv n g)[i]? = g[i]?.map fun e => (kv e.1, n + i, e.2)
 | [], _, _ => rfl
 | e :: r, n, 0 => rfl
 | e :: r, n, i + 1 => by
  show (bE kv (n + 1) r)[i]? = _
  rw [DU kv r (n + 1) i, show n + 1 + i = n + (i + 1) by omega]; rfl
theorem zZ (kv : α → Value) (k : α) (v : V) : ∀ (g : List (α × V)) (n : Nat), bE kv n (g ++ [(k, v)]) = bE kv n g ++ [(kv k, n + g.length, v)]
 | [], _ => rfl
 | e :: r, n => by
  show (kv e.1, n, e.2) :: bE kv (n + 1) (r ++ [(k, v)]) = (kv e.1, n, e.2) :: (bE kv (n + 1) r ++ _)
  rw [zZ kv k v r (n + 1), List.length_cons, show n + 1 + r.length = n + (r.length + 1) by omega]
theorem DV (kv : α → Value) (k : α) (v : V) : ∀ (g : List (α × V)) (n i : Nat), i < g.length → bE kv n (g.set i (k, v)) = (bE kv n g).set i (kv k, n + i, v)
 | [], _, _, h => by simp at h
 | e :: r, n, 0, _ => rfl
 | e :: r, n, i + 1, h => by
  show (kv e.1, n, e.2) :: bE kv (n + 1) (r.set i (k, v)) = (kv e.1, n, e.2) :: (bE kv (n + 1) r).set i _
  rw [DV kv k v r (n + 1) i (by simpa using h), show n + 1 + i = n + (i + 1) by omega]
theorem kR (kv : α → Value) (p : V → Bool) : ∀ (g : List (α × V)) (n : Nat), ((bE kv n g).all fun e => p e.2.2) = g.all fun e => p e.2
 | [], _ => rfl
 | _ :: r, n => by simp [bE, kR kv p r (n + 1)]
theorem DW (kv : α → Value) : ∀ (g : List (α × V)) (vs : List V) (n : Nat), ti (bE kv n g) vs = bE kv n (List.zipWith (fun e v => (e.1, v)) g vs)
 | [], _, _ => rfl
 | e :: r, [], _ => rfl
 | e :: r, v :: vs, n => by
  show _ :: ti (bE kv (n + 1) r) vs = _
  rw [DW kv r vs (n + 1)]; rfl
def dB (a : α) : List (α × V) → Nat → Option (Nat × V)
 | [], _ => none
 | e :: r, i => if e.1 = a then some (i, e.2) else dB a r (i + 1)
def getM (a : α) : List (α × V) → Option V
 | [] => none
 | e :: r => if e.1 = a then some e.2 else getM a r
theorem qs (a : α) : ∀ (g : List (α × V)) (i : Nat), (dB a g i).map (·.2) = getM a g
 | [], _ => rfl
 | e :: r, i => by
  unfold dB getM
  split
  ·rfl
  ·exact qs a r (i + 1)
theorem z6 {a : α} : ∀ {g : List (α × V)} {n i : Nat} {v : V}, dB a g n = some (i, v) → n ≤ i ∧ g[i - n]? = some (a, v)
 | [], _, _, _, h => by simp [dB] at h
 | e :: r, n, i, v, h => by
  unfold dB at h
  split at h
  ·rename_i he; cases h; subst he; simp
  ·obtain ⟨h1, h2⟩ := z6 h
   refine ⟨by omega, ?_⟩
   rw [show i - n = (i - (n + 1)) + 1 by omega]; simpa using h2
structure KT (P : Program) (T kt et : TypeId) (kv : α → Value) (ky : α → V) : Prop where
 map : cU P T = some (kt, et)
 val : ∀ a, bA (ky a) = some (kv a)
 ok : ∀ a, nk P kt (kv a) = true
 bits : ∀ a, Instr.sameBits 10000 (kv a) (kv a) = true
 find : ∀ (a : α) (g : List (α × V)), kY P kt (kv a) (bE kv 0 g) = some (dB a g 0)
theorem KT.now {P : Program} {kt : TypeId} {kv : α → Value} {d : TypeDesc} (hd : P.underlying kt = some d) (h : ∀ a b, Instr.sameNow d (kv a) (kv b) = some (decide (b = a))) (a : α) (g : List (α × V)) : kY P kt (kv a) (bE kv 0 g) = some (dB a g 0) := by
 have key : ∀ (g : List (α × V)) (n i : Nat), dU d (kv a) (bE kv n g) i = some (dB a g i) := by
  intro g
  induction g with
  | nil => intro n i; rfl
  | cons e r ih =>
   intro n i
   obtain ⟨k, v⟩ := e
   simp only [bE,dU,dB,h]
   by_cases hk : k = a
   ·simp [hk]
   ·rw [decide_eq_false hk, if_neg hk]; exact ih _ _
 unfold kY
 rw [hd]
 dsimp only
 rw [key]
theorem KT.ask {P : Program} {kt : TypeId} {kv : α → Value} {d : TypeDesc} (hd : P.underlying kt = some d) (h0 : ∀ a b, Instr.sameNow d (kv a) (kv b) = none) (h : ∀ a b, aG P (Op.equal kt (kv a) (kv b)) = some (decide (a = b))) (a : α) (g : List (α × V)) : kY P kt (kv a) (bE kv 0 g) = some (dB a g 0) := by
 have key : ∀ (g : List (α × V)) (n i : Nat), iD P kt (kv a) (bE kv n g) i = some (dB a g i) := by
  intro g
  induction g with
  | nil => intro n i; rfl
  | cons e r ih =>
   intro n i
   obtain ⟨k, v⟩ := e
   simp only [bE,iD,dB,h]
   by_cases hk : k = a
   ·simp [hk]
   ·rw [decide_eq_false (fun e => hk e.symm), if_neg hk]; exact ih _ _
 unfold kY
 rw [hd]
 dsimp only
 cases g with
 | nil => rfl
 | cons e r =>
  have : dU d (kv a) (bE kv 0 (e :: r)) 0 = none := by
   obtain ⟨k, v⟩ := e
   simp only [bE,dU,h0]
  rw [this]
  dsimp only
  exact key _ _ _
section
variable {P : Program} {T kt et : TypeId} {kv : α → Value} {ky : α → V}
def ll (a : α) (v : V) (g : List (α × V)) : List (α × V) := match dB a g 0 with
 | none => g ++ [(a, v)]
 | some (i, _) => g.set i (a, v)
theorem KT.put (h : KT P T kt et kv ky) (a : α) (v : V) (g : List (α × V)) {mem : List aw} {b : Nat} (hm : mem[b]? = some (.map (bE kv 0 g) g.length)) :
  ch P mem T (.mp b) (ky a) v = some (mem.set b (.map (bE kv 0 (ll a v g)) (ll a v g).length)) := by
 unfold ch
 rw [h.map]
 dsimp only
 rw [h.val]
 dsimp only
 rw [if_pos (h.ok a), hm]
 dsimp only
 unfold insertAt
 rw [h.find]
 unfold ll
 cases hf : dB a g 0 with
 | none =>
  dsimp only
  rw [zZ, Nat.zero_add, List.length_append, List.length_singleton]
 | some p =>
  obtain ⟨i, w⟩ := p
  obtain ⟨-, h2⟩ := z6 hf
  rw [Nat.sub_zero] at h2
  dsimp only
  rw [DU, h2]
  dsimp only [Option.map_some]
  rw [if_pos (h.bits a)]
  dsimp only
  rw [DV _ _ _ _ _ _ (List.getElem?_eq_some_iff.1 h2).1, List.length_set]
theorem KT.get (h : KT P T kt et kv ky) (a : α) (g : List (α × V)) {mem : List aw} {b : Nat} (hm : mem[b]? = some (.map (bE kv 0 g) g.length)) {z : V} (hz : zeroV P et = some z) (ok : Bool) :
  dg P mem T (.mp b) (ky a) ok = some (QY ok (getM a g).isSome ((getM a g).getD z)) := by
 unfold dg
 rw [h.map]
 dsimp only
 rw [h.val]
 dsimp only
 rw [if_pos (h.ok a)]
 unfold ov
 dsimp only
 rw [hm]
 dsimp only
 rw [h.find, ← qs a g 0]
 cases hf : dB a g 0 with
 | none => dsimp only; rw [hz]; rfl
 | some p => rfl
end
end
end Go.Proofs.YtnfeacnbgbggfaaGreatDoor
end

section
namespace Go.Proofs.YtnfeacnbgbggfaaGreatDoor
open Go.Eng
variable [aH]
instance lawfulBA : LawfulBEq ByteArray where
 eq_of_beq h := (iv _ _).1 h
 rfl := (iv _ _).2 rfl
def DX (a b : da) : Prop := a.mj < b.mj ∨ (a.mj = b.mj ∧ (a.mn < b.mn ∨ (a.mn = b.mn ∧ a.pt < b.pt)))
def iZ (a b : Rl) : Prop := a.path.data.toList < b.path.data.toList ∨ (a.path = b.path ∧ DX a.aC b.aC)
theorem iZ.trans {a b c : Rl} (h1 : iZ a b) (h2 : iZ b c) : iZ a c := by
 rcases h1 with h1 | ⟨h1, Gg⟩ <;> rcases h2 with h2 | ⟨h2, Ru⟩
 ·exact .inl (List.lt_trans h1 h2)
 ·exact .inl (h2 ▸ h1)
 ·exact .inl (h1 ▸ h2)
 ·refine .inr ⟨h1.trans h2, ?_⟩
  unfold DX at *
  omega
theorem n5 {a b : ByteArray} (h : a.data.toList < b.data.toList) : a ≠ b := fun e => by
 subst e; exact absurd h (List.lt_irrefl _)
theorem Qd (a b : ByteArray) : a = b ∨ a.data.toList < b.data.toList ∨ b.data.toList < a.data.toList := by
 by_cases h : a = b
 ·exact .inl h
 ·rcases Decidable.em (a.data.toList < b.data.toList) with h1 | h1
  ·exact .inr (.inl h1)
  ·refine .inr (.inr ?_)
   have h2 : b.data.toList ≤ a.data.toList := h1
   rcases List.le_iff_lt_or_eq.1 h2 with h3 | h3
   ·exact h3
   ·exact absurd (ByteArray.ext (Array.toList_inj.1 h3)).symm h
theorem LK {a b : Rl} (h1 : ¬ 0 < a.cmp b) (h2 : a.key ≠ b.key) : iZ a b := by
 unfold Rl.cmp kN at h1
 rw [lV] at h1
 rcases Qd a.path b.path with he | hl | hg
 ·right
  refine ⟨he, ?_⟩
  rw [he] at h1
  have hn : ¬ b.path.data.toList < b.path.data.toList := List.lt_irrefl _
  simp only [decide_eq_true_eq,hn,if_false,if_true,ne_eq,not_true_eq_false] at h1
  have hv : a.aC ≠ b.aC := fun e => h2 (fP.ext' he e)
  have rz : ¬ (a.aC.mj = b.aC.mj ∧ a.aC.mn = b.aC.mn ∧ a.aC.pt = b.aC.pt) := fun ⟨p, q, r⟩ => hv (da.ext' p q r)
  unfold da.cmp fp at h1
  unfold DX
  by_cases q1 : a.aC.mj = b.aC.mj
  ·by_cases q2 : a.aC.mn = b.aC.mn
   ·simp [q1, q2] at h1
    have q3 : a.aC.pt ≠ b.aC.pt := fun e => rz ⟨q1, q2, e⟩
    split at h1 <;> (try split at h1) <;> omega
   ·simp [q1] at h1
    split at h1 <;> (try split at h1) <;> omega
  ·split at h1 <;> (try split at h1) <;> omega
 ·exact .inl hl
 ·have bH : a.path ≠ b.path := fun e => n5 hg e.symm
  have DL : ¬ a.path.data.toList < b.path.data.toList := fun h => absurd (List.lt_trans h hg) (List.lt_irrefl _)
  simp [DL, bH] at h1
theorem nC : ∀ (l : List Rl) (p : Rl), dS (some p) l = 0 → (p :: l).Pairwise iZ
 | [], p, _ => List.pairwise_singleton _ _
 | r :: t, p, h => by
  rw [fk] at h
  by_cases h0 : gH r = 0
  ·rw [if_neg (by simp [h0])] at h
   dsimp only at h
   split at h
   ·omega
   ·rename_i hk
    split at h
    ·omega
    ·rename_i hc
     have ih := nC t r h
     have Rv := LK hc hk
     rw [List.pairwise_cons] at ih
     refine List.Pairwise.cons (fun x hx => ?_) (List.pairwise_cons.2 ih)
     rcases List.mem_cons.1 hx with rfl | hx
     ·exact Rv
     ·exact Rv.trans (ih.1 x hx)
  ·rw [if_pos h0] at h; exact absurd h h0
theorem vQ {l : List Rl} (h : eH l = 0) : l.Pairwise iZ := by
 unfold eH at h
 split at h
 ·omega
 ·cases l with
  | nil => exact List.Pairwise.nil
  | cons r t =>
   rw [fk] at h
   by_cases h0 : gH r = 0
   ·rw [if_neg (by simp [h0])] at h
    exact nC t r h
   ·rw [if_pos h0] at h; exact absurd h h0
theorem Qe {l : List Rl} (h : eH l = 0) : l.length ≤ 256 := by
 unfold eH at h
 split at h
 ·omega
 ·omega
theorem kc {a b : Rl} (h : iZ a b) : a.key ≠ b.key := fun e => by
 have e1 : a.path = b.path := congrArg fP.path e
 have e2 : a.aC = b.aC := congrArg fP.aC e
 rcases h with h | ⟨-, h⟩
 ·exact n5 h e1
 ·rw [e2] at h; unfold DX at h; omega
def uT (ps : List ByteArray) (p : ByteArray) : List ByteArray := if p ∈ ps then ps else ps ++ [p]
def aA (l : List Rl) : List ByteArray := l.foldl (fun ps r => uT ps r.path) []
theorem fN (l : List Rl) (r : Rl) : aA (l ++ [r]) = uT (aA l) r.path := by unfold aA; rw [List.foldl_append]; rfl
theorem Ir {ps : List ByteArray} {p q : ByteArray} : q ∈ uT ps p ↔ q ∈ ps ∨ q = p := by
 unfold uT
 split
 ·exact ⟨.inl, fun h => h.elim id fun e => e ▸ ‹_›⟩
 ·simp
theorem l8 {α : Type} {p : List α → Prop} (h0 : p []) (hs : ∀ l x, p l → p (l ++ [x])) (l : List α) : p l := by
 have : ∀ m : List α, p m.reverse := fun m => by
  induction m with
  | nil => exact h0
  | cons x r ih => rw [List.reverse_cons]; exact hs _ _ ih
 have h := this l.reverse
 rwa [List.reverse_reverse] at h
theorem gW {l : List Rl} {p : ByteArray} : p ∈ aA l ↔ ∃ r ∈ l, r.path = p := by
 induction l using l8 with
 | h0 => simp [aA]
 | hs l x ih =>
  rw [fN, Ir, ih]
  constructor
  ·rintro (⟨r, hr, h⟩ | rfl)
   ·exact ⟨r, List.mem_append_left _ hr, h⟩
   ·exact ⟨x, by simp, rfl⟩
  ·rintro ⟨r, hr, h⟩
   rcases List.mem_append.1 hr with hr | hr
   ·exact .inl ⟨r, hr, h⟩
   ·rw [List.mem_singleton] at hr; subst hr; exact .inr h.symm
theorem uU (l : List Rl) : (aA l).Nodup := by
 induction l using l8 with
 | h0 => exact List.nodup_nil
 | hs l x ih =>
  rw [fN]
  unfold uT
  split
  ·exact ih
  ·rename_i h
   rw [List.nodup_append]
   exact ⟨ih, by simp, fun a ha b hb => by rw [List.mem_singleton] at hb; subst hb; exact fun e => h (e ▸ ha)⟩
def bM (l : List Rl) (p : ByteArray) : List Rl := l.filter fun r => decide (r.path = p)
theorem z7 (l : List Rl) (r : Rl) (p : ByteArray) : bM (l ++ [r]) p = if r.path = p then bM l p ++ [r] else bM l p := by
 unfold bM
 rw [List.filter_append]
 by_cases h : r.path = p <;> simp [h]
def bQ (l : List Rl) (p : ByteArray) : List V := (bM l p).map ag
theorem nD {l : List Rl} {r : Rl} {p : ByteArray} (h : r.path ≠ p) : bQ (l ++ [r]) p = bQ l p := by unfold bQ; rw [z7, if_neg h]
theorem tP (l : List Rl) (r : Rl) : bQ (l ++ [r]) r.path = bQ l r.path ++ [ag r] := by unfold bQ; rw [z7, if_pos rfl, List.map_append]; rfl
theorem kS {l : List Rl} {p : ByteArray} (h : p ∉ aA l) : bQ l p = [] := by
 unfold bQ bM
 rw [List.filter_eq_nil_iff.2, List.map_nil]
 intro r hr
 simp only [decide_eq_true_eq]
 exact fun e => h (gW.2 ⟨r, hr, e⟩)
def gP (l : List Rl) : List (ByteArray × V) := (aA l).map fun p => (p, .slice (bQ l p))
def gL (q : ByteArray) (x : V) (l : List Rl) : List (ByteArray × V) := (aA l).map fun p => (p, if p = q then x else .slice (bQ l p))
theorem mO (f : ByteArray → V) (q : ByteArray) : ∀ (ps : List ByteArray) (n : Nat), dB q (ps.map fun p => (p, f p)) n = if q ∈ ps then some (n + ps.idxOf q, f q) else none
 | [], _ => by simp [dB]
 | p :: r, n => by
  simp only [List.map_cons,dB]
  by_cases h : p = q
  ·subst h; simp
  ·rw [if_neg h, mO f q r (n + 1)]
   by_cases h2 : q ∈ r
   ·rw [if_pos h2, if_pos (List.mem_cons_of_mem _ h2), List.idxOf_cons, show (p == q) = false by simpa using h]
    simp only [cond_false]
    rw [show n + 1 + r.idxOf q = n + (r.idxOf q + 1) by omega]
   ·rw [if_neg h2, if_neg (by simp [h2]; exact fun e => h e.symm)]
theorem tQ (f : ByteArray → V) (q : ByteArray) (ps : List ByteArray) : getM q (ps.map fun p => (p, f p)) = if q ∈ ps then some (f q) else none := by
 rw [← qs q _ 0, mO]
 split <;> rfl
theorem z8 (f : ByteArray → V) {q : ByteArray} {ps : List ByteArray} (hn : ps.Nodup) (h : q ∈ ps) (v : V) : ll q v (ps.map fun p => (p, f p)) = ps.map fun p => (p, if p = q then v else f p) := by
 unfold ll
 rw [mO, if_pos h]
 dsimp only
 apply List.ext_getElem?
 intro i
 rw [List.getElem?_set, List.getElem?_map, List.getElem?_map, Nat.zero_add, List.length_map]
 by_cases hi : ps.idxOf q = i
 ·rw [if_pos hi]
  have aD := List.idxOf_lt_length_of_mem h
  have hq : ps[i]? = some q := by rw [← hi, List.getElem?_eq_getElem aD, List.getElem_idxOf aD]
  rw [if_pos (by omega), hq]; simp
 ·rw [if_neg hi]
  cases hp : ps[i]? with
  | none => rfl
  | some p =>
   have : p ≠ q := fun e => by
    subst e
    have h1 := (List.getElem?_eq_some_iff.1 hp)
    obtain ⟨h2, h3⟩ := h1
    have := hn.idxOf_getElem i h2
    rw [h3] at this
    exact hi this
   simp [this]
theorem xy (f : ByteArray → V) {q : ByteArray} {ps : List ByteArray} (h : q ∉ ps) (v : V) : ll q v (ps.map fun p => (p, f p)) = ps.map (fun p => (p, f p)) ++ [(q, v)] := by
 unfold ll
 rw [mO, if_neg h]
theorem LL {q : ByteArray} {l : List Rl} {r : Rl} (hq : r.path = q) (hl : q ∈ aA l) (x y : V) : ll q y (gL q x l) = gL q y (l ++ [r]) := by
 unfold gL
 rw [z8 _ (uU l) hl, fN, hq, show uT (aA l) q = aA l from if_pos hl]
 refine List.map_congr_left fun p _ => ?_
 by_cases hp : p = q
 ·simp [hp]
 ·rw [if_neg hp, if_neg hp, if_neg hp, nD (fun e => hp (e.symm.trans hq))]
theorem Qf {l : List Rl} {r : Rl} (h : r.path ∉ aA l) (y : V) : ll r.path y (gP l) = gL r.path y (l ++ [r]) := by
 unfold gP gL
 rw [xy _ h, fN, show uT (aA l) r.path = aA l ++ [r.path] from if_neg h, List.map_append]
 congr 1
 ·refine List.map_congr_left fun p hp => ?_
  have : p ≠ r.path := fun e => h (e ▸ hp)
  rw [if_neg this, nD (fun e => this e.symm)]
 ·simp
theorem Qg {q : ByteArray} {l : List Rl} (hl : q ∈ aA l) (x : V) : getM q (gL q x l) = some x := by
 unfold gL
 rw [tQ, if_pos hl, if_pos rfl]
theorem Aa {q : ByteArray} {l : List Rl} (hl : q ∉ aA l) : getM q (gP l) = none := by
 unfold gP
 rw [tQ, if_neg hl]
theorem Is {l : List Rl} {p r : Rl} (h : (l ++ [p]).Pairwise iZ) (Rv : iZ p r) (bH : p.path ≠ r.path) : r.path ∉ aA (l ++ [p]) := fun hm => by
 obtain ⟨x, hx, he⟩ := gW.1 hm
 rcases Rv with Rv | ⟨e, -⟩
 ·rcases List.mem_append.1 hx with hx | hx
  ·have h1 := (List.pairwise_append.1 h).2.2 x hx p (by simp)
   rcases h1 with h1 | ⟨e, -⟩
   ·exact n5 (List.lt_trans h1 Rv) he
   ·exact bH (e ▸ he)
  ·rw [List.mem_singleton] at hx; subst hx; exact bH he
 ·exact bH e
def gK (l : List Rl) : List (fP × V) := l.map fun r => (r.key, ag r)
theorem n9 {α : Type} [DecidableEq α] {a : α} : ∀ {g : List (α × V)} {n : Nat}, (∀ e ∈ g, e.1 ≠ a) → dB a g n = none
 | [], _, _ => rfl
 | e :: r, n, h => by
  unfold dB
  rw [if_neg (h e (by simp))]
  exact n9 fun e' he => h e' (by simp [he])
theorem LM {l : List Rl} {r : Rl} (h : ∀ x ∈ l, x.key ≠ r.key) : ll r.key (ag r) (gK l) = gK (l ++ [r]) := by
 unfold ll gK
 rw [n9 (fun e he => by obtain ⟨x, hx, rfl⟩ := List.mem_map.1 he; exact h x hx), List.map_append]
 rfl
end Go.Proofs.YtnfeacnbgbggfaaGreatDoor
end

section
namespace Go.Proofs.YtnfeacnbgbggfaaGreatDoor
open Go.Eng
variable [aH]
set_option maxHeartbeats 4000000
set_option maxRecDepth 100000
def ln (s : fP) : V := .agg [str s.path, num s.aC.mj, num s.aC.mn, num s.aC.pt]
theorem FH (u : fP) : nk Tryz.prog 54 (aN u) = true := by
 obtain ⟨a, b, c, d⟩ := u
 kernel_rfl
theorem It (u : fP) : Instr.sameBits 10000 (aN u) (aN u) = true := by
 have h : ∀ s : ByteArray, Instr.sameBits 9999 (.string s) (.string s) = true := fun s => (iv s s).2 rfl
 have h2 : ∀ n : Int, Instr.sameBits 9999 (.int .i64 n) (.int .i64 n) = true := fun n => by
  show Instr.sameBits (9998 + 1) _ _ = true
  simp [Instr.sameBits]
 show Instr.sameBits (9999 + 1) (aN u) (aN u) = true
 unfold aN
 rw [Instr.sameBits]
 simp [h, h2]
theorem Nz {T et : TypeId} (h : cU Tryz.prog T = some (54, et)) : KT Tryz.prog T 54 et aN ln :=
 ⟨h, fun _ => rfl, FH, It, KT.ask Tryz.underlying54 (fun a b => by unfold aN; rfl) Tl⟩
def strVal (s : ByteArray) : Value := .string s
theorem Iu {T et : TypeId} (h : cU Tryz.prog T = some (9, et)) : KT Tryz.prog T 9 et strVal str :=
 ⟨h, fun _ => rfl, fun a => by unfold nk; rw [Tryz.underlying9], fun a => (iv a a).2 rfl,
  KT.now Tryz.underlying9 fun a b => by
   show some (a == b) = some (decide (b = a))
   congr 1
   rw [Bool.eq_iff_iff, iv, decide_eq_true_eq]
   exact ⟨fun h => h.symm, fun h => h.symm⟩⟩
theorem TW : cU Tryz.prog 79 = some (54, 40) := by kernel_rfl
theorem NA : cU Tryz.prog 80 = some (9, 22) := by kernel_rfl
theorem TX : cU Tryz.prog 85 = some (54, 4) := by kernel_rfl
theorem TY : cU Tryz.prog 92 = some (9, 40) := by kernel_rfl
theorem TZ : cU Tryz.prog 93 = some (9, 4) := by kernel_rfl
theorem Iv : zeroV Tryz.prog 22 = some (.sc (.slice none 0 0)) := by kernel_rfl
theorem NB : zeroV Tryz.prog 4 = some (bl false) := by kernel_rfl
theorem tR : zeroV Tryz.prog 40 = some (.agg [str ⟨#[]⟩, num 0, num 0, num 0, .sc (.slice none 0 0), str ⟨#[]⟩, str ⟨#[]⟩, str ⟨#[]⟩, bl false]) := by kernel_rfl
theorem Qh : KT Tryz.prog 79 54 40 aN ln := Nz TW
theorem Qi : KT Tryz.prog 80 9 22 strVal str := Iu NA
theorem T0 : KT Tryz.prog 85 54 4 aN ln := Nz TX
theorem LN : KT Tryz.prog 92 9 40 strVal str := Iu TY
theorem T1 : KT Tryz.prog 93 9 4 strVal str := Iu TZ
theorem l9 (n : Nat) (r : Rl) : ai n (ag r) = true := by simp [ag, af, ah, ai, dp]
theorem ab (n : Nat) (l : List Rl) : ((bE aN 0 (gK l)).all fun e => ai n e.2.2) = true := by
 rw [kR aN (ai n)]
 unfold gK
 simp [l9]
theorem bU {n b : Nat} (h : b < n) (v o k : Nat) (q : ByteArray) (l : List Rl) : ((bE strVal 0 (gL q (.ms b v o k) l)).all fun e => ai n e.2.2) = true := by
 rw [kR strVal (ai n)]
 unfold gL
 rw [List.all_map, List.all_eq_true]
 intro p _
 simp only [Function.comp]
 split
 ·simpa [ai] using h
 ·rfl
theorem ae (n : Nat) (l : List Rl) : ((bE strVal 0 (gP l)).all fun e => ai n e.2.2) = true := by
 rw [kR strVal (ai n)]
 unfold gP
 rw [List.all_map, List.all_eq_true]
 intro p _
 rfl
theorem mP (q : ByteArray) (x : V) (l : List Rl) : (gL q x l).length = (aA l).length := by simp [gL]
theorem mQ (l : List Rl) : (gP l).length = (aA l).length := by simp [gP]
theorem Ab {α : Type} {mem : List aw} {f g : α → V} : ∀ {ps : List α}, (∀ p ∈ ps, dO mem (f p) = some (g p)) → cy mem (ps.map f) = some (ps.map g)
 | [], _ => rfl
 | p :: r, h => by
  have ih := Ab (mem := mem) (f := f) (g := g) (ps := r) fun q hq => h q (List.mem_cons_of_mem _ hq)
  simp only [List.map_cons,cy,h p (by simp),ih]
theorem tS (B0 B1 B2 B3 B4 : aw) (rest : List aw) (v e : Nat) (rs : List V) : ∀ (keys : List (Nat × Nat)), (∀ k ∈ keys, k = (5, v)) → ∀ B5, (B5 = .rows v e rs ∨ B5 = .mX v e rs) →
  ∃ Xk, (Xk = .rows v e rs ∨ Xk = .mX v e rs) ∧ bS (B0 :: B1 :: B2 :: B3 :: B4 :: B5 :: rest) keys = B0 :: B1 :: B2 :: B3 :: B4 :: Xk :: rest
 | [], _, B5, h => ⟨B5, h, rfl⟩
 | k :: r, hk, B5, h => by
  obtain rfl := hk k (by simp)
  unfold bS
  rw [List.foldl_cons]
  rcases h with rfl | rfl
  ·have h1 : sE (B0 :: B1 :: B2 :: B3 :: B4 :: .rows v e rs :: rest) (5, v) = B0 :: B1 :: B2 :: B3 :: B4 :: .mX v e rs :: rest := by simp [sE]
   rw [h1]
   exact tS B0 B1 B2 B3 B4 rest v e rs r (fun k eS => hk k (by simp [eS])) _ (.inr rfl)
  ·have h1 : sE (B0 :: B1 :: B2 :: B3 :: B4 :: .mX v e rs :: rest) (5, v) = B0 :: B1 :: B2 :: B3 :: B4 :: .mX v e rs :: rest := by simp [sE]
   rw [h1]
   exact tS B0 B1 B2 B3 B4 rest v e rs r (fun k eS => hk k (by simp [eS])) _ (.inr rfl)
theorem Iw (l : List Rl) (q : ByteArray) (v e : Nat) (B0 B1 B2 B3 B4 : aw) (rest : List aw) :
  cy (B0 :: B1 :: B2 :: B3 :: B4 :: .rows v e (bQ l q) :: rest) ((bE strVal 0 (gL q (.ms 5 v 0 (bQ l q).length) l)).map fun e => e.2.2) = some ((aA l).map fun p => .slice (bQ l p)) ∧
  ∃ B5, (∀ n, az n B5 = true) ∧ (∀ σ, cq σ B5 = B5) ∧ bS (B0 :: B1 :: B2 :: B3 :: B4 :: .rows v e (bQ l q) :: rest) (((bE strVal 0 (gL q (.ms 5 v 0 (bQ l q).length) l)).map fun e => e.2.2).flatMap cn) = B0 :: B1 :: B2 :: B3 :: B4 :: B5 :: rest := by
 rw [zY]
 unfold gL
 rw [List.map_map]
 constructor
 ·refine Ab fun p _ => ?_
  simp only [Function.comp]
  split
  ·rename_i h; subst h
   simp [dO, bu]
  ·rfl
 ·obtain ⟨B5, h1, h2⟩ := tS B0 B1 B2 B3 B4 rest v e (bQ l q) (((aA l).map ((fun x => x.2) ∘ fun p => (p, if p = q then V.ms 5 v 0 (bQ l q).length else V.slice (bQ l p)))).flatMap cn) (fun k hk => by
   obtain ⟨x, hx, hk⟩ := List.mem_flatMap.1 hk
   obtain ⟨p, -, rfl⟩ := List.mem_map.1 hx
   simp only [Function.comp] at hk
   split at hk
   ·simpa [cn, ej] using hk
   ·simp [cn, ej] at hk) _ (.inl rfl)
  exact ⟨B5, fun n => by rcases h1 with rfl | rfl <;> rfl, fun σ => by rcases h1 with rfl | rfl <;> rfl, h2⟩
theorem DY (l : List Rl) (q : ByteArray) (x : V) : ti (bE strVal 0 (gL q x l)) ((aA l).map fun p => .slice (bQ l p)) = bE strVal 0 (gP l) := by
 rw [DW]
 congr 1
 unfold gL gP
 rw [List.zipWith_map, List.zipWith_self]
theorem pq {α : Type} (kv : α → Value) (σ : Nat → Nat) (c : Nat) : ∀ (g : List (α × V)) (n : Nat), cq σ (.map (bE kv n g) c) = .map (bE kv n (g.map fun e => (e.1, bt σ e.2))) c := by
 have key : ∀ (g : List (α × V)) (n : Nat), (bE kv n g).map (fun e => (e.1, e.2.1, bt σ e.2.2)) = bE kv n (g.map fun e => (e.1, bt σ e.2)) := by
  intro g
  induction g with
  | nil => intro n; rfl
  | cons e r ih => intro n; simp only [bE,List.map_cons,ih]
 intro g n
 show aw.map _ _ = _
 rw [key]
theorem DZ (σ : Nat → Nat) (r : Rl) : bt σ (ag r) = ag r := Fa σ (l9 0 r)
theorem se (σ : Nat → Nat) (l : List Rl) (c : Nat) : cq σ (.map (bE aN 0 (gK l)) c) = .map (bE aN 0 (gK l)) c := by
 rw [pq]
 congr 2
 unfold gK
 rw [List.map_map]
 exact List.map_congr_left fun r _ => by simp only [Function.comp,DZ]
theorem LO (σ : Nat → Nat) (q : ByteArray) (x : V) (l : List Rl) (c : Nat) : cq σ (.map (bE strVal 0 (gL q x l)) c) = .map (bE strVal 0 (gL q (bt σ x) l)) c := by
 rw [pq]
 congr 2
 unfold gL
 rw [List.map_map]
 refine List.map_congr_left fun p _ => ?_
 simp only [Function.comp]
 split <;> rfl
theorem D0 (σ : Nat → Nat) (l : List Rl) (c : Nat) : cq σ (.map (bE strVal 0 (gP l)) c) = .map (bE strVal 0 (gP l)) c := by
 rw [pq]
 congr 2
 unfold gP
 rw [List.map_map]
 exact List.map_congr_left fun p _ => rfl
def eR (l : List Rl) : ByteArray := match l.getLast? with | some r => r.path | none => ⟨#[]⟩
theorem kT (l : List Rl) (r : Rl) : eR (l ++ [r]) = r.path := by simp [eR]
theorem ix {l : List Rl} {i : Nat} {r : Rl} (h : l[i]? = some r) : l.take (i + 1) = l.take i ++ [r] := by rw [List.take_add_one, h]; rfl
theorem ru {l : List Rl} (hs : l.Pairwise iZ) {i : Nat} {r : Rl} (h : l[i]? = some r) : (r.path = eR (l.take i) ∧ r.path ∈ aA (l.take i)) ∨ r.path ∉ aA (l.take i) := by
 have aD := (List.getElem?_eq_some_iff.1 h).1
 rcases Nat.eq_zero_or_pos i with rfl | hi
 ·exact .inr (by simp [aA])
 ·obtain ⟨j, rfl⟩ : ∃ j, i = j + 1 := ⟨i - 1, by omega⟩
  have hp : l[j]? = some l[j] := List.getElem?_eq_getElem (by omega)
  have ht : (l.take (j + 1)).Pairwise iZ := List.Pairwise.sublist (List.take_sublist _ _) hs
  have hjr : iZ l[j] r := by
   have h1 := List.pairwise_iff_getElem.1 hs j (j + 1) (by omega) aD (by omega)
   rwa [(List.getElem?_eq_some_iff.1 h).2] at h1
  rw [ix hp] at ht ⊢
  rw [kT]
  by_cases he : r.path = l[j].path
  ·exact .inl ⟨he, gW.2 ⟨l[j], List.mem_append_right _ (List.mem_singleton.2 rfl), he.symm⟩⟩
  ·exact .inr (Is ht hjr fun e => he e.symm)
theorem LP {l : List Rl} (hs : l.Pairwise iZ) {i : Nat} {r : Rl} (h : l[i]? = some r) : ∀ x ∈ l.take i, x.key ≠ r.key := fun x hx => by
 obtain ⟨aD, hr⟩ := List.getElem?_eq_some_iff.1 h
 obtain ⟨j, hj, rfl⟩ := List.getElem_of_mem hx
 rw [List.length_take] at hj
 rw [List.getElem_take]
 have h1 := List.pairwise_iff_getElem.1 hs j i (by omega) aD (by omega)
 rw [hr] at h1
 exact kc h1
theorem LQ {l : List Rl} (hs : l.Pairwise iZ) {i : Nat} {r : Rl} (h : l[i]? = some r) (B0 B1 : aw) (rest : List aw) :
  ch Tryz.prog (B0 :: B1 :: .map (bE aN 0 (gK (l.take i))) (gK (l.take i)).length :: rest) 79 (.mp 2) (ln r.key) (ag r) = some (B0 :: B1 :: .map (bE aN 0 (gK (l.take i ++ [r]))) (gK (l.take i ++ [r])).length :: rest) := by
 have := Qh.put r.key (ag r) (gK (l.take i)) (mem := B0 :: B1 :: .map (bE aN 0 (gK (l.take i))) (gK (l.take i)).length :: rest) (b := 2) rfl
 rw [LM (LP hs h)] at this
 exact this
theorem Ix {g : List (ByteArray × V)} {q : ByteArray} {x : V} {c : Nat} (hc : c = g.length) (h : (getM q g).getD (.sc (.slice none 0 0)) = x) (B0 B1 B2 : aw) (rest : List aw) :
  dg Tryz.prog (B0 :: B1 :: B2 :: .map (bE strVal 0 g) c :: rest) 80 (.mp 3) (str q) false = some x := by
 subst hc
 rw [Qi.get q g (b := 3) rfl Iv, h]; rfl
theorem Iy {g g' : List (ByteArray × V)} {q : ByteArray} {y : V} {c c' : Nat} (hc : c = g.length) (h : ll q y g = g') (JY : c' = g'.length) (B0 B1 B2 : aw) (rest : List aw) :
  ch Tryz.prog (B0 :: B1 :: B2 :: .map (bE strVal 0 g) c :: rest) 80 (.mp 3) (str q) y = some (B0 :: B1 :: B2 :: .map (bE strVal 0 g') c' :: rest) := by
 subst hc; subst JY; subst h
 exact Qi.put q y g (b := 3) rfl
theorem Iz (l : List Rl) (p : ByteArray) (i : Nat) : (bQ (l.take i) p).length ≤ l.length := by
 unfold bQ bM
 rw [List.length_map]
 exact Nat.le_trans (List.length_filter_le _ _) (by rw [List.length_take]; omega)
def al (l : List Rl) : List Rl := if eH l = 0 then l else []
def LR (l : List Rl) (I : List V) : List aw := [.box [.slice (l.map ag), .slice I], .box [.mp 2, .mp 3], .map (bE aN 0 (gK (al l))) (gK (al l)).length, .map (bE strVal 0 (gP (al l))) (aA (al l)).length]
theorem vR (l : List Rl) (I : List V) : (LR l I).all (az 4) = true := by
 unfold LR
 simp only [List.all_cons,List.all_nil,nS,tb,ab,ae,ai,Bool.and_true,decide_eq_true_eq,Bool.true_and]
 decide
theorem LS {l : List Rl} (h : eH l ≠ 0) (I : List V) : LR l I = [.box [.slice (l.map ag), .slice I], .box [.mp 2, .mp 3], .map [] 0, .map [] 0] := by
 unfold LR al
 rw [if_neg h]; rfl
theorem Qj {l : List Rl} (h : eH l = 0) (I : List V) : LR l I = [.box [.slice (l.map ag), .slice I], .box [.mp 2, .mp 3], .map (bE aN 0 (gK l)) (gK l).length, .map (bE strVal 0 (gP l)) (aA l).length] := by
 unfold LR al
 rw [if_pos h]
end Go.Proofs.YtnfeacnbgbggfaaGreatDoor
end

section
namespace Go.Proofs.YtnfeacnbgbggfaaGreatDoor
open Go.Eng
open Nat renaming reduceAdd → zA, reduceLT → zB, reduceLeDiff → zC, reduceMul → zD, reduceEqDiff → zE, reduceSub → zF
variable [aH]
set_option maxHeartbeats 4000000
set_option maxRecDepth 100000
theorem Ac (hG : aH.g = some 0) (l : List Rl) (I : List V) (hb : ux l) : ∃ r_ m_, (fun r m => r = .bN [.agg [.mp 2, .mp 3], num (eH l)] ∧ m = LR l I) r_ m_ ∧ aR Tryz.prog 46 [bk l I] ([]) r_ m_ := by
 refine Ge tt_ok [9,10,11] 43 [.cell 2 82, .tmp 3] (4) (by decide) (fn := Tryz.f46) Tryz.func46 rfl Tryz.call46 ⟨rfl, rfl, by simp⟩ fun K hK => ?_
 simp only [bk,aV]
 have AP := hb.1
 have OB := vR l I
 simp only [ab,bU (show 5 < 6 by decide),ae,List.length_map,go_sem,reduceIte,zA,zB,zC,zD,zE,zF,reduceCtorEq]
 refine cF (by have h := tI hG l I hb; simp only [bk,aV] at h; exact h) ?_
 rintro _ rfl
 simp only [ab,bU (show 5 < 6 by decide),ae,List.length_map,go_sem,reduceIte,zA,zB,zC,zD,zE,zF,reduceCtorEq]
 refine aM (fun cX => ?_) (fun cX => ?_)
 ·have c6 : eH l ≠ 0 := by simpa using cX
  have Xl := LS c6 I
  have hr : V.bN [.agg [.mp 2, .mp 3], num (eH l)] = .bN [.agg [.mp 2, .mp 3], num (eH l)] := rfl
  simp only [ab,bU (show 5 < 6 by decide),ae,List.length_map,go_sem,reduceIte,zA,zB,zC,zD,zE,zF,reduceCtorEq]
  exact hK _ _ ⟨hr, Xl.symm⟩
 ·have c6 : eH l = 0 := by simpa using cX
  have Xl := Qj c6 I
  have hr : V.bN [.agg [.mp 2, .mp 3], num 0] = .bN [.agg [.mp 2, .mp 3], num (eH l)] := by rw [c6]
  have hs := vQ c6
  simp only [ab,bU (show 5 < 6 by decide),ae,List.length_map,go_sem,reduceIte,zA,zB,zC,zD,zE,zF,reduceCtorEq]
  refine HG 0 9 ?_
  refine cO tt_ok [9,10,11] (fun a : Nat × Nat => [(2, .ptr 1 0), (4, .ptr 4 0), (18, .slice (l.map ag)), (19, num l.length), (20, num a.1)]) (fun a : Nat × Nat => [.box [.slice (l.map ag), .slice I], .box [.sc (.map none), .sc (.map none)], .map (bE aN 0 (gK (l.take a.1))) (gK (l.take a.1)).length, .map (bE strVal 0 (gL (eR (l.take a.1)) (.ms 5 a.2 0 (bQ (l.take a.1) (eR (l.take a.1))).length) (l.take a.1))) (aA (l.take a.1)).length, .box [.mp 2, .mp 3], .rows a.2 9 (bQ (l.take a.1) (eR (l.take a.1)))]) (fun a => l.length - a.1) (fun a => a.1 ≤ l.length) ((0, 0)) 6 (bm (by omega) (by simp only [ab,bU (show 5 < 6 by decide),ae,List.length_map,Int.cast_ofNat_Int,go_sem,reduceIte,zA,zB,zC,zD,zE,zF,reduceCtorEq] <;> rfl)) (Nat.zero_le _) ?_
  rintro ⟨i, v⟩ hi
  try dsimp only at hi ⊢
  intro Z1 bW
  simp only [ab,bU (show 5 < 6 by decide),ae,List.length_map,go_sem,reduceIte,zA,zB,zC,zD,zE,zF,reduceCtorEq]
  refine aM (fun gx => ?_) (fun gx => ?_)
  ·have aD : i < l.length := by simpa using gx
   have hw := aB i (by omega)
   obtain ⟨x, hx⟩ : ∃ x, l[i]? = some x := ⟨_, List.getElem?_eq_getElem aD⟩
   have sf := ix hx
   have jA := fun B0 B1 rest => LQ hs hx B0 B1 rest
   simp only [ln,ag,af,ah] at jA
   simp only [ab,bU (show 5 < 6 by decide),ae,hw,List.getElem?_map,hx,ag,af,ah,jA,List.length_map,go_sem,reduceIte,zA,zB,zC,zD,zE,zF,reduceCtorEq]
   refine bI tt_ok aK [⟨.n, 0, [], [], []⟩, ⟨.r, 0, [], [], []⟩, ⟨.r, 0, [], [], []⟩, ⟨.n, 0, [], [], []⟩, ⟨.r, 0, [], [], []⟩, ⟨.w, 0, [], [], []⟩] 1 (by kernel_rfl) ?_
   simp only [ab,bU (show 5 < 6 by decide),ae,hw,List.getElem?_map,hx,ag,af,ah,jA,List.length_map,go_sem,reduceIte,zA,zB,zC,zD,zE,zF,reduceCtorEq]
   refine cG (by have h := kO x; simp only [ag,af,ah,br] at h; exact h) ?_
   rintro _ rfl
   rcases ru hs hx with ⟨hq, LG⟩ | Xm
   ·simp only [ab,bU (show 5 < 6 by decide),ae,hw,List.getElem?_map,hx,ag,af,ah,jA,List.length_map,go_sem,reduceIte,zA,zB,zC,zD,zE,zF,reduceCtorEq]
    have fT : bY [V.agg [str x.path, num x.aC.mj, num x.aC.mn, num x.aC.pt, V.slice (x.reqs.map ao), str x.ar, str x.gq, str x.ce, bl x.yk]] 0 9 = true := rfl
    have er : (bQ (l.take i) (eR (l.take i))).length + 1 ≤ 34359738368 := by have := Iz l (eR (l.take i)) i; omega
    have T2 := fun B0 B1 B2 rest => Ix (g := gL (eR (l.take i)) (.ms 5 v 0 (bQ (l.take i) (eR (l.take i))).length) (l.take i)) (q := x.path) (x := .ms 5 v 0 (bQ (l.take i) (eR (l.take i))).length) (mP _ _ _).symm (by rw [hq, Qg (hq ▸ LG), Option.getD_some]) B0 B1 B2 rest
    have oq := fun y B0 B1 B2 rest => Iy (g := gL (eR (l.take i)) (.ms 5 v 0 (bQ (l.take i) (eR (l.take i))).length) (l.take i)) (g' := gL x.path y (l.take i ++ [x])) (q := x.path) (y := y) (mP _ _ _).symm (by rw [hq]; exact LL hq (hq ▸ LG) _ y) (mP _ _ _).symm B0 B1 B2 rest
    have b8 : bQ (l.take i ++ [x]) x.path = bQ (l.take i) (eR (l.take i)) ++ [V.agg [str x.path, num x.aC.mj, num x.aC.mn, num x.aC.pt, V.slice (x.reqs.map ao), str x.ar, str x.gq, str x.ce, bl x.yk]] := by rw [tP, ← hq]; rfl
    have qH : (bQ (l.take i) (eR (l.take i)) ++ [V.agg [str x.path, num x.aC.mj, num x.aC.mn, num x.aC.pt, V.slice (x.reqs.map ao), str x.ar, str x.gq, str x.ce, bl x.yk]]).length = (bQ (l.take i ++ [x]) x.path).length := by rw [b8]
    refine bI tt_ok aK [⟨.n, 0, [], [], []⟩, ⟨.b, 0, [], [0], []⟩, ⟨.n, 0, [], [], []⟩, ⟨.b, 0, [], [2], []⟩, ⟨.n, 0, [], [], []⟩, ⟨.r, 0, [], [4], []⟩, ⟨.n, 0, [], [], []⟩, ⟨.r, 0, [], [6], []⟩, ⟨.r, 0, [], [4,5,6,7], []⟩, ⟨.r, 0, [], [], []⟩, ⟨.n, 0, [], [9], []⟩, ⟨.w, 0, [], [4,5,6,7,8,9,10], []⟩, ⟨.w, 1, [], [0,1,2,3,4,5,6,7,8,9,10,11], []⟩] 2 (by kernel_rfl) ?_
    simp only [ab,bU (show 5 < 6 by decide),ae,hw,List.getElem?_map,hx,ag,af,ah,jA,T2,oq,fT,er,List.length_cons,List.length_nil,Nat.zero_add,List.length_map,go_sem,reduceIte,zA,zB,zC,zD,zE,zF,reduceCtorEq]
    refine BL tt_ok ?_
    simp only [ab,bU (show 5 < 6 by decide),ae,hw,List.getElem?_map,hx,ag,af,ah,jA,T2,oq,fT,er,List.length_cons,List.length_nil,Nat.zero_add,List.length_map,go_sem,reduceIte,zA,zB,zC,zD,zE,zF,reduceCtorEq]
    refine bW _ ⟨(i + 1, v + 1), ?_, ?_, bm (by omega) (by (simp only [sf,kT,b8,← qH,hw,ab,bU (show 5 < 6 by decide),ae,go_sem,reduceIte,zA,zB,zC,zD,zE,zF,reduceCtorEq]))⟩
    ·exact aD
    ·dsimp only; omega
   ·simp only [ab,bU (show 5 < 6 by decide),ae,hw,List.getElem?_map,hx,ag,af,ah,jA,List.length_map,go_sem,reduceIte,zA,zB,zC,zD,zE,zF,reduceCtorEq]
    have fT : bY [V.agg [str x.path, num x.aC.mj, num x.aC.mn, num x.aC.pt, V.slice (x.reqs.map ao), str x.ar, str x.gq, str x.ce, bl x.yk]] 0 9 = true := rfl
    have er : (0 : Nat) + 1 ≤ 34359738368 := by decide
    obtain ⟨U7, B5, YE, T3, Xn⟩ := Iw (l.take i) (eR (l.take i)) v 9 (.box [.slice (l.map ag), .slice I]) (.box [.sc (.map none), .sc (.map none)]) (.map (bE aN 0 (gK (l.take i ++ [x]))) (gK (l.take i ++ [x])).length) (.map (bE strVal 0 (gL (eR (l.take i)) (.ms 5 v 0 (bQ (l.take i) (eR (l.take i))).length) (l.take i))) (aA (l.take i)).length) (.box [.mp 2, .mp 3]) [.box [str x.path, num x.aC.mj, num x.aC.mn, num x.aC.pt, V.slice (x.reqs.map ao), str x.ar, str x.gq, str x.ce, bl x.yk], .hole]
    refine DB (k := 3) rfl U7 ?_
    simp only [Xn,DY,List.set_cons_succ,List.set_cons_zero]
    have T2 := fun B0 B1 B2 rest => Ix (g := gP (l.take i)) (q := x.path) (x := .sc (.slice none 0 0)) (mQ _).symm (by rw [Aa Xm, Option.getD_none]) B0 B1 B2 rest
    have oq := fun y B0 B1 B2 rest => Iy (g := gP (l.take i)) (g' := gL x.path y (l.take i ++ [x])) (q := x.path) (y := y) (mQ _).symm (Qf Xm y) (mP _ _ _).symm B0 B1 B2 rest
    have b8 : bQ (l.take i ++ [x]) x.path = [V.agg [str x.path, num x.aC.mj, num x.aC.mn, num x.aC.pt, V.slice (x.reqs.map ao), str x.ar, str x.gq, str x.ce, bl x.yk]] := by rw [tP, kS Xm]; rfl
    have qH : [V.agg [str x.path, num x.aC.mj, num x.aC.mn, num x.aC.pt, V.slice (x.reqs.map ao), str x.ar, str x.gq, str x.ce, bl x.yk]].length = 1 := rfl
    refine bI tt_ok aK [⟨.n, 0, [], [], []⟩, ⟨.b, 0, [], [0], []⟩, ⟨.n, 0, [], [], []⟩, ⟨.b, 0, [], [2], []⟩, ⟨.n, 0, [], [], []⟩, ⟨.r, 0, [], [4], []⟩, ⟨.n, 0, [], [], []⟩, ⟨.r, 0, [], [6], []⟩, ⟨.r, 0, [], [4,5,6,7], []⟩, ⟨.r, 0, [], [], []⟩, ⟨.n, 0, [], [9], []⟩, ⟨.w, 0, [], [4,5,6,7,8,9,10], []⟩, ⟨.w, 1, [], [0,1,2,3,4,5,6,7,8,9,10,11], []⟩] 2 (by kernel_rfl) ?_
    simp only [ab,bU (show 5 < 6 by decide),ae,hw,List.getElem?_map,hx,ag,af,ah,jA,T2,oq,fT,er,List.length_cons,List.length_nil,Nat.zero_add,List.length_map,go_sem,reduceIte,zA,zB,zC,zD,zE,zF,reduceCtorEq]
    refine S7 5 8 (by omega) (by omega) (by simp) (by simp) (by simp [bo, bF, ai, dp]) (by simp [nS, tb, KL, YE, ab, bU, bo, bF, ai, dp, KM, KN]) ?_
    simp only [rh,se,LO,T3,List.map_cons,List.map_nil,List.set_cons_succ,List.set_cons_zero,List.getD_cons_succ,List.getD_cons_zero]
    simp only [cq,ca,bt,show swp 5 8 8 = 5 from rfl,show swp 5 8 0 = 0 from rfl,show swp 5 8 1 = 1 from rfl,show swp 5 8 2 = 2 from rfl,show swp 5 8 3 = 3 from rfl,show swp 5 8 4 = 4 from rfl,show swp 5 8 6 = 6 from rfl,show swp 5 8 7 = 7 from rfl]
    refine BL tt_ok ?_
    simp only [ab,bU (show 5 < 6 by decide),ae,hw,List.getElem?_map,hx,ag,af,ah,jA,T2,oq,fT,er,List.length_cons,List.length_nil,Nat.zero_add,List.length_map,go_sem,reduceIte,zA,zB,zC,zD,zE,zF,reduceCtorEq]
    refine bW _ ⟨(i + 1, 0), ?_, ?_, bm (by omega) (by (simp only [sf,kT,b8,qH,hw,ab,bU (show 5 < 6 by decide),ae,go_sem,reduceIte,zA,zB,zC,zD,zE,zF,reduceCtorEq]))⟩
    ·exact aD
    ·dsimp only; omega
  ·have c5 : ¬ i < l.length := by simpa using gx
   have rD : i = l.length := by omega
   subst rD
   rw [List.take_length]
   obtain ⟨U7, B5, YE, T3, Xn⟩ := Iw l (eR l) v 9 (.box [.slice (l.map ag), .slice I]) (.box [.sc (.map none), .sc (.map none)]) (.map (bE aN 0 (gK l)) (gK l).length) (.map (bE strVal 0 (gL (eR l) (.ms 5 v 0 (bQ l (eR l)).length) l)) (aA l).length) (.box [.mp 2, .mp 3]) []
   simp only [ab,bU (show 5 < 6 by decide),ae,List.length_map,go_sem,reduceIte,zA,zB,zC,zD,zE,zF,reduceCtorEq]
   refine DB (k := 3) rfl U7 ?_
   simp only [Xn,DY,List.set_cons_succ,List.set_cons_zero]
   refine UX tt_ok [9,10,11] ?_
   simp only [ab,bU (show 5 < 6 by decide),ae,List.length_map,go_sem,reduceIte,zA,zB,zC,zD,zE,zF,reduceCtorEq]
   exact hK _ _ ⟨hr, Xl.symm⟩
end Go.Proofs.YtnfeacnbgbggfaaGreatDoor
end

section
namespace Go.Proofs.YtnfeacnbgbggfaaGreatDoor
open Go.Eng
open Nat renaming reduceAdd → zA, reduceLT → zB, reduceLeDiff → zC, reduceMul → zD, reduceEqDiff → zE, reduceSub → zF
variable [aH]
set_option maxHeartbeats 4000000
set_option maxRecDepth 100000
theorem pw (l : List bB) : bY (l.map aj) 0 2 = true := by
 cases l <;> rfl
theorem Ad (l : List bB) (hl : l.length ≤ 34359738368) : aO Tryz.prog 113 [.slice (l.map aj)] (.slice (l.map aj)) := by
 have h1 := pw l
 have AI : (l.map aj).length ≤ 34359738368 := by rw [List.length_map]; exact hl
 generalize l.map aj = rows at h1 AI
 refine yE tt_ok (fn := Tryz.f113) Tryz.func113 rfl Tryz.call113 ?_
 simp only [vC,di,Tryz.ntmps113,List.length_cons,List.length_nil,zA,zF,List.replicate_succ,List.replicate_zero]
 refine bz tt_ok fun K hK => ?_
 simp only [go_sem,reduceIte,zA,zB,zC,zD,zE,zF,reduceCtorEq]
 refine hK _ ?_
 refine fI ?_
 refine bz tt_ok fun K hK => ?_
 simp only [go_sem,reduceIte,zA,zB,zC,zD,zE,zF,reduceCtorEq]
 intro b hb
 refine hK _ ?_
 cases b with
 | true =>
  have h0 : rows = [] := by
   cases rows with
   | nil => rfl
   | cons a r => have := hb (by simp); cases this
  subst h0
  refine fJ rfl ?_
  refine bz tt_ok fun K hK => ?_
  simp only [go_sem,reduceIte,zA,zB,zC,zD,zE,zF,reduceCtorEq]
  refine hK _ ?_
  exact jo ⟨.inl rfl, rfl⟩
 | false =>
  refine fJ rfl (iJ ?_)
  show eL _ _ _ _ _ _
  refine bz tt_ok fun K hK => ?_
  simp only [h1,AI,go_sem,reduceIte,zA,zB,zC,zD,zE,zF,reduceCtorEq]
  refine hK _ ?_
  refine jo ⟨.inl rfl, ?_⟩
  simp [jO, Tryz.f113, gh, jN, lL, yv, dO, bu]
theorem ct (l : List Rq) : bY (l.map ao) 0 2 = true := by
 cases l <;> rfl
theorem tT (r : Rl) (hb : Cm r) : ∃ r_, (fun w => w = ag r) r_ ∧ aO Tryz.prog 77 [ag r] r_ := by
 refine ef tt_ok [] 27 [.cell 2 40] (fn := Tryz.f77) Tryz.func77 rfl Tryz.call77 ⟨rfl, rfl, by simp⟩ fun K hK => ?_
 simp only [ag,af,ah]
 obtain ⟨rF, ur, M0⟩ := hb
 simp only [List.length_map,go_sem,reduceIte,zA,zB,zC,zD,zE,zF,reduceCtorEq]
 refine xg 0 4 0 2 rfl rfl ?_
 refine cO tt_ok [] (fun i : Nat => [(1, .ptr 0 0), (2, .ptr 1 0), (9, .slice (r.reqs.map ao)), (10, num r.reqs.length), (11, num i)]) (fun i : Nat => [.box [str r.path, num r.aC.mj, num r.aC.mn, num r.aC.pt, .ms 2 i 0 i, str r.ar, str r.gq, str r.ce, bl r.yk], .box [str ⟨#[]⟩, num 0, num 0, num 0, .sc (.slice none 0 0), str ⟨#[]⟩, str ⟨#[]⟩, str ⟨#[]⟩, bl false], .rows i 2 ((r.reqs.take i).map ao)]) (fun i => r.reqs.length - i) (fun i => i ≤ r.reqs.length) (0) 3 (bm (by omega) (by simp only [List.length_map,Int.cast_ofNat_Int,go_sem,reduceIte,zA,zB,zC,zD,zE,zF,reduceCtorEq] <;> rfl)) (Nat.zero_le _) ?_
 intro i hi
 intro Z1 bW
 simp only [List.length_map,go_sem,reduceIte,zA,zB,zC,zD,zE,zF,reduceCtorEq]
 refine aM (fun Cj => ?_) (fun Cj => ?_)
 ·have aD : i < r.reqs.length := by simpa using Cj
  have hw := aB i (by omega)
  obtain ⟨x, hx⟩ : ∃ x, r.reqs[i]? = some x := ⟨_, List.getElem?_eq_getElem aD⟩
  have sf : (r.reqs.take (i + 1)).map ao = (r.reqs.take i).map ao ++ [.agg [str x.path, .slice (x.set.map aj)]] := by rw [List.take_add_one, hx, List.map_append]; rfl
  have fT : bY [.agg [str x.path, .slice (x.set.map aj)]] 0 2 = true := rfl
  have NC : (r.reqs.take i).length = i := by rw [List.length_take]; omega
  have er : i + 1 ≤ 34359738368 := by omega
  have U2 : ((r.reqs.take i).map ao ++ [V.agg [str x.path, .slice (x.set.map aj)]]).length = i + 1 := by rw [List.length_append, List.length_map, NC]; rfl
  simp only [hw,List.getElem?_map,hx,ao,ak,fT,NC,er,U2,List.length_cons,List.length_nil,Nat.zero_add,List.length_map,go_sem,reduceIte,zA,zB,zC,zD,zE,zF,reduceCtorEq]
  refine cF (⟨_, rfl, Ad x.set (by have := (M0 x (List.mem_of_getElem? hx)).2; omega)⟩) ?_
  rintro _ rfl
  simp only [hw,List.getElem?_map,hx,ao,ak,fT,NC,er,U2,List.length_cons,List.length_nil,Nat.zero_add,List.length_map,go_sem,reduceIte,zA,zB,zC,zD,zE,zF,reduceCtorEq]
  refine bW _ ⟨i + 1, ?_, ?_, bm (by omega) (by (simp only [sf,hw,U2,go_sem,reduceIte,zA,zB,zC,zD,zE,zF,reduceCtorEq]))⟩
  ·exact aD
  ·omega
 ·have c5 : ¬ i < r.reqs.length := by simpa using Cj
  have rD : i = r.reqs.length := by omega
  subst rD
  simp only [List.length_map,go_sem,reduceIte,zA,zB,zC,zD,zE,zF,reduceCtorEq]
  refine hK _ ?_
  try simp only [jO,Tryz.f77,gh,jN,lL,yv,List.length_map,List.take_length,go_sem,reduceIte,zA,zB,zC,zD,zE,zF,reduceCtorEq]
  simp [dO, bu, cK, ag, af, ah]
  exact List.take_of_length_le (by simp)
end Go.Proofs.YtnfeacnbgbggfaaGreatDoor
end

section
namespace Go.Proofs.YtnfeacnbgbggfaaGreatDoor
open Go.Eng
open Nat renaming reduceAdd → zA, reduceLT → zB, reduceLeDiff → zC, reduceMul → zD, reduceEqDiff → zE, reduceSub → zF
variable [aH]
set_option maxHeartbeats 4000000
set_option maxRecDepth 100000
def ND (k : Nat) (l : List Rl) (I : List V) : List aw := [.box [.slice (l.map ag), .slice I], .box [.mp (k + 2), .mp (k + 3)], .map (bE aN 0 (gK (al l))) (gK (al l)).length, .map (bE strVal 0 (gP (al l))) (aA (al l)).length]
theorem fm (hG : aH.g = some 0) (l : List Rl) (I : List V) (hb : ux l) (M : List aw) : ∃ r_ m_, (fun r m => r = .bN [.agg [.mp (M.length + 2), .mp (M.length + 3)], num (eH l)] ∧ m = M ++ ND M.length l I) r_ m_ ∧ aR Tryz.prog 46 [bk l I] M r_ m_ := by
 obtain ⟨r, m, ⟨rfl, rfl⟩, h⟩ := Ac hG l I hb
 have h2 := h.zf M (fun j => M.length + j) 0 rfl (by simp [bk, aV, ai, dp]) rfl (by simp [ai, dp, LR]) (vR l I) (Nat.zero_le _) (fun i B hi => by simp at hi) (fun i j hi => by omega) (fun j _ => by omega)
 refine ⟨_, _, ⟨?_, ?_⟩, by simpa only [ca, bt, bk, aV] using h2⟩
 ·simp only [ca,bt]
 ·unfold mZ LR ND
  simp only [vC,gj,List.map_cons,List.map_nil,se,D0]
  simp only [cq,ca,bt]
def nf (l : List Rl) (s : fP) : Option Rl := (al l).find? fun r => decide (r.key = s)
def ja : Rl := ⟨⟨#[]⟩, ⟨0, 0, 0⟩, [], ⟨#[]⟩, ⟨#[]⟩, ⟨#[]⟩, false⟩
theorem xz (s : fP) : ∀ (l : List Rl), getM s (gK l) = (l.find? fun r => decide (r.key = s)).map ag
 | [] => rfl
 | r :: t => by
  show (if r.key = s then some (ag r) else getM s (gK t)) = _
  rw [List.find?_cons]
  by_cases h : r.key = s
  ·simp [h]
  ·simp [h, xz s t]
theorem D1 {l : List Rl} {s : fP} {r : Rl} (h : nf l s = some r) {mem : List aw} {b : Nat} (hm : mem[b]? = some (.map (bE aN 0 (gK (al l))) (gK (al l)).length)) :
  dg Tryz.prog mem 79 (.mp b) (ln s) true = some (.bN [ag r, bl true]) := by
 rw [Qh.get s (gK (al l)) hm tR, xz]
 unfold nf at h
 rw [h]; rfl
theorem Ae {l : List Rl} {s : fP} (h : nf l s = none) {mem : List aw} {b : Nat} (hm : mem[b]? = some (.map (bE aN 0 (gK (al l))) (gK (al l)).length)) :
  dg Tryz.prog mem 79 (.mp b) (ln s) true = some (.bN [.agg [str ⟨#[]⟩, num 0, num 0, num 0, .sc (.slice none 0 0), str ⟨#[]⟩, str ⟨#[]⟩, str ⟨#[]⟩, bl false], bl false]) := by
 rw [Qh.get s (gK (al l)) hm tR, xz]
 unfold nf at h
 rw [h]; rfl
theorem D2 {l : List Rl} {s : fP} {r : Rl} (h : nf l s = some r) : r ∈ l := by
 unfold nf at h
 have := List.mem_of_find?_eq_some h
 unfold al at this
 split at this
 ·exact this
 ·simp at this
theorem Af : Cm ja := ⟨by decide, by decide, fun q hq => by simp [ja] at hq⟩
theorem vS : ∃ r_, (fun w => w = V.agg [str ⟨#[]⟩, num 0, num 0, num 0, .slice [], str ⟨#[]⟩, str ⟨#[]⟩, str ⟨#[]⟩, bl false]) r_ ∧ aO Tryz.prog 77 [.agg [str ⟨#[]⟩, num 0, num 0, num 0, .slice [], str ⟨#[]⟩, str ⟨#[]⟩, str ⟨#[]⟩, bl false]] r_ := by
 have h := tT ja Af
 exact h
theorem LU (hG : aH.g = some 0) (l : List Rl) (I : List V) (hb : ux l) (p : ByteArray) (v : da) : ∃ r_, (fun w => w = .bN [ag ((nf l ⟨p, v⟩).getD ja), bl (nf l ⟨p, v⟩).isSome]) r_ ∧ aO Tryz.prog 24 [bk l I, str p, aU v] r_ := by
 refine ef tt_ok [] 29 [.cell 6 40, .tmp 7] (fn := Tryz.f24) Tryz.func24 rfl Tryz.call24 ⟨rfl, rfl, by simp⟩ fun K hK => ?_
 simp only [bk,aV,aU]
 simp only [ab,ae,List.length_map,go_sem,reduceIte,zA,zB,zC,zD,zE,zF,reduceCtorEq]
 refine cW (by have h := fm hG l I hb; simp only [bk,aV] at h; exact h _) ?_
 rintro _ _ ⟨rfl, rfl⟩
 simp only [vC,ND,List.length_cons,List.length_nil,zA]
 rcases hf : nf l ⟨p, v⟩ with _ | r
 ·have cI := fun (mem : List aw) (b : Nat) hm => Ae hf (mem := mem) (b := b) hm
  simp only [ln] at cI
  simp only [ab,ae,cI,List.length_map,go_sem,reduceIte,zA,zB,zC,zD,zE,zF,reduceCtorEq]
  refine cF (by first | exact vS | (have h := tT r Rw; simp only [ag,af,ah] at h; exact h)) ?_
  rintro _ rfl
  simp only [ab,ae,cI,List.length_map,go_sem,reduceIte,zA,zB,zC,zD,zE,zF,reduceCtorEq]
  exact hK _ (by rw [hf]; rfl)
 ·have Rw : Cm r := hb.2 r (D2 hf)
  have cI := fun (mem : List aw) (b : Nat) hm => D1 hf (mem := mem) (b := b) hm
  simp only [ln,ag,af,ah] at cI
  simp only [ab,ae,cI,List.length_map,go_sem,reduceIte,zA,zB,zC,zD,zE,zF,reduceCtorEq]
  refine cF (by first | exact vS | (have h := tT r Rw; simp only [ag,af,ah] at h; exact h)) ?_
  rintro _ rfl
  simp only [ab,ae,cI,List.length_map,go_sem,reduceIte,zA,zB,zC,zD,zE,zF,reduceCtorEq]
  exact hK _ (by rw [hf]; rfl)
end Go.Proofs.YtnfeacnbgbggfaaGreatDoor
end

section
namespace Go.Proofs.YtnfeacnbgbggfaaGreatDoor
open Go.Eng
open Nat renaming reduceAdd → zA, reduceLT → zB, reduceLeDiff → zC, reduceMul → zD, reduceEqDiff → zE, reduceSub → zF
variable [aH]
set_option maxHeartbeats 4000000
set_option maxRecDepth 100000
theorem qt {s : ByteArray} {a : Nat} {e : Int} (h : a ≤ s.size) : (lj s a e).2.1 ≤ s.size := by
 unfold lj
 split
 ·exact h
 ·cases hr : pc s a with
  | none => exact h
  | some p => exact (Cu hr).2
theorem IA {s t : ByteArray} {a j : Nat} (h : BT s a = some (t, j)) : t.size ≤ s.size ∧ j ≤ s.size := by
 have := Pr h
 omega
theorem qu {s : ByteArray} {a : Nat} {e : Int} (h : a ≤ s.size) : (l6 s a e).2.1 ≤ s.size := by
 unfold l6
 split
 ·exact h
 ·cases hr : BT s a with
  | none => exact h
  | some p => exact (IA hr).2
theorem tU (s : ByteArray) (a : Nat) (e : Int) : (l6 s a e).1.size ≤ s.size := by
 unfold l6
 split
 ·exact Nat.zero_le _
 ·cases hr : BT s a with
  | none => exact Nat.zero_le _
  | some p => exact (IA hr).1
theorem xC {m : Int} {s : ByteArray} {a : Nat} {e : Int} (h : a ≤ s.size) : (rq m s a e).2.1 ≤ s.size := by
 unfold rq
 split
 ·exact h
 ·cases hr : pc s a with
  | none => exact h
  | some p =>
   dsimp only
   split
   ·exact (Cu hr).2
   ·exact h
theorem tV {m : Int} {s : ByteArray} {a : Nat} {e : Int} (hm : 0 ≤ m) : ((rq m s a e).1 : Int) ≤ m := by
 unfold rq
 split
 ·exact hm
 ·cases hr : pc s a with
  | none => exact hm
  | some p =>
   dsimp only
   split
   ·assumption
   ·exact hm
def AQ (s : ByteArray) : Nat → Nat × Int → List bB × Nat × Int
 | 0, st => ([], st)
 | n + 1, st => if st.2 ≠ 0 then ([], st) else
   (⟨((lj s st.1 st.2).1 : Int), ((lj s (lj s st.1 st.2).2.1 (lj s st.1 st.2).2.2).1 : Int)⟩ :: (AQ s n (lj s (lj s st.1 st.2).2.1 (lj s st.1 st.2).2.2).2).1, (AQ s n (lj s (lj s st.1 st.2).2.1 (lj s st.1 st.2).2.2).2).2)
def oa (s : ByteArray) (st : Nat × Int) : Rq × Nat × Int :=
 let t := l6 s st.1 st.2
 let c := rq (s.size : Int) s t.2.1 t.2.2
 let r := AQ s c.1 c.2
 (⟨t.1, r.1⟩, r.2)
def AR (s : ByteArray) : Nat → Nat × Int → List Rq × Nat × Int
 | 0, st => ([], st)
 | n + 1, st => ((oa s st).1 :: (AR s n (oa s st).2).1, (AR s n (oa s st).2).2)
theorem IB (s : ByteArray) : ∀ (n : Nat) (st : Nat × Int), st.1 ≤ s.size → (AQ s n st).2.1 ≤ s.size ∧ (AQ s n st).1.length ≤ n
 | 0, st, h => ⟨h, Nat.le_refl _⟩
 | n + 1, st, h => by
  rw [AQ]
  split
  ·exact ⟨h, Nat.zero_le _⟩
  ·have := IB s n _ (qt (e := (lj s st.1 st.2).2.2) (qt (e := st.2) h))
   exact ⟨this.1, by rw [List.length_cons]; omega⟩
theorem LV (s : ByteArray) (st : Nat × Int) (h : st.1 ≤ s.size) : (oa s st).2.1 ≤ s.size ∧ (oa s st).1.path.size ≤ s.size ∧ (oa s st).1.set.length ≤ s.size := by
 unfold oa
 dsimp only
 have h1 := qu (e := st.2) h
 have h2 := xC (m := (s.size : Int)) (e := (l6 s st.1 st.2).2.2) h1
 have h3 := IB s (rq (s.size : Int) s (l6 s st.1 st.2).2.1 (l6 s st.1 st.2).2.2).1 _ h2
 have h4 := tV (m := (s.size : Int)) (s := s) (a := (l6 s st.1 st.2).2.1) (e := (l6 s st.1 st.2).2.2) (by omega)
 exact ⟨h3.1, tU _ _ _, by omega⟩
theorem IC (s : ByteArray) : ∀ (n : Nat) (st : Nat × Int), st.1 ≤ s.size → (AR s n st).2.1 ≤ s.size ∧ (AR s n st).1.length = n ∧ ∀ q ∈ (AR s n st).1, q.path.size ≤ s.size ∧ q.set.length ≤ s.size
 | 0, st, h => ⟨h, rfl, fun q hq => by simp [AR] at hq⟩
 | n + 1, st, h => by
  have h1 := LV s st h
  have h2 := IC s n _ h1.1
  rw [AR]
  refine ⟨h2.1, by rw [List.length_cons, h2.2.1], fun q hq => ?_⟩
  rcases List.mem_cons.1 hq with rfl | hq
  ·exact h1.2
  ·exact h2.2.2 q hq
theorem xD (s : ByteArray) : ∀ (n : Nat) (st : Nat × Int), AR s (n + 1) st = ((AR s n st).1 ++ [(oa s (AR s n st).2).1], (oa s (AR s n st).2).2)
 | 0, st => rfl
 | n + 1, st => by
  rw [AR, xD s n]
  rfl
def xE (s : ByteArray) : Rl × Nat × Nat × Int :=
 let p := l6 s 0 0
 let mn := lj s p.2.1 p.2.2
 let pt := lj s mn.2.1 mn.2.2
 let y := rq 1 s pt.2.1 pt.2.2
 let ar := l6 s y.2.1 y.2.2
 let gq := l6 s ar.2.1 ar.2.2
 let ce := l6 s gq.2.1 gq.2.2
 let n := rq 16 s ce.2.1 ce.2.2
 (⟨p.1, ⟨bO p.1, (mn.1 : Int), (pt.1 : Int)⟩, [], ar.1, gq.1, ce.1, decide ((y.1 : Int) = 1)⟩, n)
def Ag (s : ByteArray) : Rl × Nat × Int :=
 let h := xE s
 let q := AR s h.2.1 h.2.2
 ({ h.1 with reqs := q.1 }, q.2)
def ob (s : ByteArray) : Bool := decide (bD (l6 s 0 0).1 = 0) && decide (qo s (Ag s).2.1 (Ag s).2.2 = 0) && decide (eH [(Ag s).1] = 0)
def ma (s : ByteArray) : V := if ob s = true then .bN [ag (Ag s).1, num 0] else .bN [ag ja, num 9]
theorem LW (hG : aH.g = some 0) (s : ByteArray) (hs : s.size ≤ 1048576) : ∃ r_, (fun w => w = ma s) r_ ∧ aO Tryz.prog 19 [str s] r_ := by
 refine ef tt_ok [17,19] 91 [.cell 2 40, .tmp 3] (fn := Tryz.f19) Tryz.func19 rfl Tryz.call19 ⟨rfl, rfl, by simp⟩ fun K hK => ?_
 have fu : Tryz.prog.underlying 9 = some .string := by kernel_rfl
 have sl : ∀ (a : ByteArray) (ty : TypeId), cH Tryz.prog (Builtin.len_ #[9] ty) [.sc (.string a)] = some (num a.size) := fun a ty => ck (P := Tryz.prog) (tt := tt) (T := 9) a fu ty
 have fR : s.size ≤ 1073741824 := by omega
 have bd : ∀ (mem : List aw) (ks : List (Nat × Nat)) (n : Int), cp mem ks (num n) = mem := fun _ _ _ => rfl
 simp only [sl,List.length_map,bd,go_sem,reduceIte,zA,zB,zC,zD,zE,zF,reduceCtorEq]
 refine cW (xw s _) ?_
 rintro _ _ ⟨rfl, rfl⟩
 try simp only [vC,List.length_cons,List.length_nil,zA]
 simp only [sl,List.length_map,bd,go_sem,reduceIte,zA,zB,zC,zD,zE,zF,reduceCtorEq]
 refine cW (l7 s fR 0 0 (Nat.zero_le _) _ 1 rfl) ?_
 rintro _ _ ⟨rfl, rfl⟩
 obtain ⟨x1, uE⟩ : ∃ x, x = l6 s 0 0 := ⟨_, rfl⟩
 rw [← uE]
 have MO : x1.2.1 ≤ s.size := uE ▸ qu (Nat.zero_le _)
 have Gr : x1.1.size ≤ s.size := uE ▸ tU _ _ _
 try simp only [List.set_cons_zero,List.set_cons_succ]
 simp only [sl,List.length_map,bd,go_sem,reduceIte,zA,zB,zC,zD,zE,zF,reduceCtorEq]
 refine cF (r8 hG x1.1 (by omega)) ?_
 rintro _ ⟨nm, rfl⟩
 simp only [sl,List.length_map,bd,go_sem,reduceIte,zA,zB,zC,zD,zE,zF,reduceCtorEq]
 refine aM (fun jg => ?_) (fun jg => ?_)
 ·have hR : ma s = .bN [ag ja, num 9] := by
   unfold ma ob
   rw [← uE, if_neg (by have : ¬ bD x1.1 = 0 := (by simpa using jg); simp [this])]
  simp only [sl,List.length_map,bd,go_sem,reduceIte,zA,zB,zC,zD,zE,zF,reduceCtorEq]
  exact hK _ (hR.symm)
 ·have hmj : bD x1.1 = 0 := by simpa using jg
  simp only [sl,List.length_map,bd,go_sem,reduceIte,zA,zB,zC,zD,zE,zF,reduceCtorEq]
  refine cW (tM s fR x1.2.1 x1.2.2 MO _ 1 rfl) ?_
  rintro _ _ ⟨rfl, rfl⟩
  obtain ⟨x2, xQ⟩ : ∃ x, x = lj s x1.2.1 x1.2.2 := ⟨_, rfl⟩
  rw [← xQ]
  have xl : x2.2.1 ≤ s.size := xQ ▸ qt MO
  try simp only [List.set_cons_zero,List.set_cons_succ]
  simp only [sl,List.length_map,bd,go_sem,reduceIte,zA,zB,zC,zD,zE,zF,reduceCtorEq]
  refine cW (tM s fR x2.2.1 x2.2.2 xl _ 1 rfl) ?_
  rintro _ _ ⟨rfl, rfl⟩
  obtain ⟨x3, J4⟩ : ∃ x, x = lj s x2.2.1 x2.2.2 := ⟨_, rfl⟩
  rw [← J4]
  have Cx : x3.2.1 ≤ s.size := J4 ▸ qt xl
  try simp only [List.set_cons_zero,List.set_cons_succ]
  simp only [sl,List.length_map,bd,go_sem,reduceIte,zA,zB,zC,zD,zE,zF,reduceCtorEq]
  refine cW (qp s fR 1 x3.2.1 x3.2.2 Cx _ 1 rfl) ?_
  rintro _ _ ⟨rfl, rfl⟩
  obtain ⟨x4, Gw⟩ : ∃ x, x = rq 1 s x3.2.1 x3.2.2 := ⟨_, rfl⟩
  rw [← Gw]
  have YF : x4.2.1 ≤ s.size := Gw ▸ xC Cx
  try simp only [List.set_cons_zero,List.set_cons_succ]
  simp only [sl,List.length_map,bd,go_sem,reduceIte,zA,zB,zC,zD,zE,zF,reduceCtorEq]
  refine cW (l7 s fR x4.2.1 x4.2.2 YF _ 1 rfl) ?_
  rintro _ _ ⟨rfl, rfl⟩
  obtain ⟨x5, Xo⟩ : ∃ x, x = l6 s x4.2.1 x4.2.2 := ⟨_, rfl⟩
  rw [← Xo]
  have YG : x5.2.1 ≤ s.size := Xo ▸ qu YF
  try simp only [List.set_cons_zero,List.set_cons_succ]
  simp only [sl,List.length_map,bd,go_sem,reduceIte,zA,zB,zC,zD,zE,zF,reduceCtorEq]
  refine cW (l7 s fR x5.2.1 x5.2.2 YG _ 1 rfl) ?_
  rintro _ _ ⟨rfl, rfl⟩
  obtain ⟨x6, Xp⟩ : ∃ x, x = l6 s x5.2.1 x5.2.2 := ⟨_, rfl⟩
  rw [← Xp]
  have YH : x6.2.1 ≤ s.size := Xp ▸ qu YG
  try simp only [List.set_cons_zero,List.set_cons_succ]
  simp only [sl,List.length_map,bd,go_sem,reduceIte,zA,zB,zC,zD,zE,zF,reduceCtorEq]
  refine cW (l7 s fR x6.2.1 x6.2.2 YH _ 1 rfl) ?_
  rintro _ _ ⟨rfl, rfl⟩
  obtain ⟨x7, Xq⟩ : ∃ x, x = l6 s x6.2.1 x6.2.2 := ⟨_, rfl⟩
  rw [← Xq]
  have YI : x7.2.1 ≤ s.size := Xq ▸ qu YH
  try simp only [List.set_cons_zero,List.set_cons_succ]
  simp only [sl,List.length_map,bd,go_sem,reduceIte,zA,zB,zC,zD,zE,zF,reduceCtorEq]
  refine cW (qp s fR 16 x7.2.1 x7.2.2 YI _ 1 rfl) ?_
  rintro _ _ ⟨rfl, rfl⟩
  obtain ⟨x8, U8⟩ : ∃ x, x = rq 16 s x7.2.1 x7.2.2 := ⟨_, rfl⟩
  rw [← U8]
  have YJ : x8.2.1 ≤ s.size := U8 ▸ xC YI
  have hm8 : (x8.1 : Int) ≤ 16 := U8 ▸ tV (by decide)
  try simp only [List.set_cons_zero,List.set_cons_succ]
  simp only [sl,List.length_map,bd,go_sem,reduceIte,zA,zB,zC,zD,zE,zF,reduceCtorEq]
  obtain ⟨h, hh⟩ : ∃ x : Rl, x = ⟨x1.1, ⟨bO x1.1, (x2.1 : Int), (x3.1 : Int)⟩, [], x5.1, x6.1, x7.1, decide ((x4.1 : Int) = 1)⟩ := ⟨_, rfl⟩
  obtain ⟨N, hN⟩ : ∃ x, x = x8.1 := ⟨_, rfl⟩
  have Xr : xE s = (h, N, x8.2) := by rw [hh, hN, U8, Xq, Xp, Xo, Gw, J4, xQ, uE]; rfl
  have e1 : x1.1 = h.path := by rw [hh]
  have e2 : bO x1.1 = h.aC.mj := by rw [hh]
  have e3 : (x2.1 : Int) = h.aC.mn := by rw [hh]
  have e4 : (x3.1 : Int) = h.aC.pt := by rw [hh]
  have e5 : x5.1 = h.ar := by rw [hh]
  have e6 : x6.1 = h.gq := by rw [hh]
  have e7 : x7.1 = h.ce := by rw [hh]
  have e8 : decide ((x4.1 : Int) = 1) = h.yk := by rw [hh]
  rw [e1] at Gr
  simp only [e2,e3,e4,e5,e6,e7,e8,← hN]
  rw [e1]
  have aaA : N ≤ 16 := by omega
  have hhr : h.reqs = [] := by rw [hh]
  refine xg 2 4 0 2 rfl rfl ?_
  refine cO tt_ok [17,19] (fun b : Nat × List Rq × Nat × Int => [(0, str s), (2, .ptr 0 0), (4, .ptr 1 0), (5, .ptr 2 0), (46, num N), (47, num b.1)]) (fun b : Nat × List Rq × Nat × Int => [.box [str ⟨#[]⟩, num 0, num 0, num 0, .sc (.slice none 0 0), str ⟨#[]⟩, str ⟨#[]⟩, str ⟨#[]⟩, bl false], .box [str s, num b.2.2.1, num b.2.2.2], .box [str h.path, num h.aC.mj, num h.aC.mn, num h.aC.pt, .ms 3 b.1 0 b.1, str h.ar, str h.gq, str h.ce, bl h.yk], .rows b.1 2 (b.2.1.map ao)]) (fun b => N - b.1) (fun b => b.1 ≤ N ∧ b.2 = AR s b.1 x8.2 ∧ b.2.2.1 ≤ s.size ∧ b.2.1.length = b.1) ((0, [], x8.2)) 4 (bm (by omega) (by simp only [sl,List.length_map,bd,List.map_nil,Int.cast_ofNat_Int,go_sem,reduceIte,zA,zB,zC,zD,zE,zF,reduceCtorEq] <;> rfl)) (⟨Nat.zero_le _, rfl, YJ, rfl⟩) ?_
  rintro ⟨i, Q, a, e⟩ ⟨hi, hq, MG, Rx⟩
  try dsimp only at hi hq MG Rx ⊢
  intro Z1 bW
  simp only [sl,List.length_map,bd,go_sem,reduceIte,zA,zB,zC,zD,zE,zF,reduceCtorEq]
  refine aM (fun Qk => ?_) (fun Qk => ?_)
  ·have aD : i < N := by simpa using Qk
   have hw := aB i (by omega)
   simp only [hw,sl,List.length_map,bd,go_sem,reduceIte,zA,zB,zC,zD,zE,zF,reduceCtorEq]
   refine cW (l7 s fR a e MG _ 1 rfl) ?_
   rintro _ _ ⟨rfl, rfl⟩
   obtain ⟨y1, Pn⟩ : ∃ x, x = l6 s a e := ⟨_, rfl⟩
   rw [← Pn]
   have fH : y1.2.1 ≤ s.size := Pn ▸ qu MG
   have hzk : y1.1.size ≤ s.size := Pn ▸ tU _ _ _
   try simp only [List.set_cons_zero,List.set_cons_succ]
   simp only [hw,sl,List.length_map,bd,go_sem,reduceIte,zA,zB,zC,zD,zE,zF,reduceCtorEq]
   refine cW (qp s fR (s.size : Int) y1.2.1 y1.2.2 fH _ 1 rfl) ?_
   rintro _ _ ⟨rfl, rfl⟩
   obtain ⟨y2, Po⟩ : ∃ x, x = rq (s.size : Int) s y1.2.1 y1.2.2 := ⟨_, rfl⟩
   rw [← Po]
   have kD : y2.2.1 ≤ s.size := Po ▸ xC fH
   have OD : (y2.1 : Int) ≤ (s.size : Int) := Po ▸ tV (by omega)
   obtain ⟨C, hC⟩ : ∃ x, x = y2.1 := ⟨_, rfl⟩
   rw [← hC]
   obtain ⟨T, hT⟩ : ∃ x, x = y1.1 := ⟨_, rfl⟩
   rw [← hT]
   try simp only [List.set_cons_zero,List.set_cons_succ]
   simp only [hw,sl,List.length_map,bd,go_sem,reduceIte,zA,zB,zC,zD,zE,zF,reduceCtorEq]
   refine xg 4 1 0 2 rfl rfl ?_
   refine cO tt_ok [17,19] (fun d : Nat × List bB × Nat × Int => [(0, str s), (2, .ptr 0 0), (4, .ptr 1 0), (5, .ptr 2 0), (9, .ptr 4 0), (46, num N), (47, num i), (55, num C), (56, num d.1)]) (fun d : Nat × List bB × Nat × Int => [.box [str ⟨#[]⟩, num 0, num 0, num 0, .sc (.slice none 0 0), str ⟨#[]⟩, str ⟨#[]⟩, str ⟨#[]⟩, bl false], .box [str s, num d.2.2.1, num d.2.2.2], .box [str h.path, num h.aC.mj, num h.aC.mn, num h.aC.pt, .ms 3 i 0 i, str h.ar, str h.gq, str h.ce, bl h.yk], .rows i 2 (Q.map ao), .box [str T, .ms 5 d.1 0 d.1], .rows d.1 2 (d.2.1.map aj)]) (fun d => C - d.1) (fun d => d.1 ≤ C ∧ AQ s C y2.2 = (d.2.1 ++ (AQ s (C - d.1) d.2.2).1, (AQ s (C - d.1) d.2.2).2) ∧ d.2.2.1 ≤ s.size ∧ d.2.1.length = d.1) ((0, [], y2.2)) 6 (bm (by omega) (by simp only [hw,sl,List.length_map,bd,List.map_nil,Int.cast_ofNat_Int,go_sem,reduceIte,zA,zB,zC,zD,zE,zF,reduceCtorEq] <;> rfl)) (⟨Nat.zero_le _, rfl, kD, rfl⟩) ?_
   rintro ⟨j, L, a2, e2⟩ ⟨hj, uo, ID, Ck⟩
   try dsimp only at hj uo ID Ck ⊢
   intro Z2 qk
   simp only [hw,sl,List.length_map,bd,go_sem,reduceIte,zA,zB,zC,zD,zE,zF,reduceCtorEq]
   refine aM (fun rP => ?_) (fun rP => ?_)
   ·have Xs : j < C := by simpa using rP
    have LX := aB j (by omega)
    simp only [hw,LX,sl,List.length_map,bd,go_sem,reduceIte,zA,zB,zC,zD,zE,zF,reduceCtorEq]
    refine cS (Fz s fR a2 e2 _ 1 rfl) ?_
    rintro _ rfl
    simp only [hw,LX,sl,List.length_map,bd,go_sem,reduceIte,zA,zB,zC,zD,zE,zF,reduceCtorEq]
    refine aM (fun Ql => ?_) (fun Ql => ?_)
    ·have UZ : e2 ≠ 0 := by simpa using Ql
     simp only [hw,LX,sl,List.length_map,bd,go_sem,reduceIte,zA,zB,zC,zD,zE,zF,reduceCtorEq]
     refine qh (k := 4) (vs' := [str T, .slice (L.map aj)]) rfl (by simp [cy, dO, bu, Ck, ku, List.take_of_length_le]) ?_
     have tW : ∀ (x : ByteArray) (y : List V), bY [V.agg [str x, .slice y]] 0 2 = true := fun x y => rfl
     have Qm : i + 1 ≤ 34359738368 := by omega
     have Xt : (Q.map ao).length = i := by rw [List.length_map, Rx]
     refine BL tt_ok ?_
     simp only [hw,LX,tW,Qm,Xt,List.length_append,List.length_cons,List.length_nil,Nat.zero_add,sl,List.length_map,bd,go_sem,reduceIte,zA,zB,zC,zD,zE,zF,reduceCtorEq]
     have xT : oa s (a, e) = (⟨T, L⟩, a2, e2) := by
      unfold oa
      dsimp only
      rw [← Pn, ← Po, ← hC, ← hT]
      have hb := uo
      have gw : AQ s (C - j) (a2, e2) = ([], a2, e2) := by first | (rw [show C - j = 0 by omega]; rfl) | (obtain ⟨k, hk⟩ : ∃ k, C - j = k + 1 := ⟨C - j - 1, by omega⟩; rw [hk, AQ, if_pos UZ])
      rw [gw] at hb
      simp only [List.append_nil] at hb
      rw [hb]
     refine bW _ ⟨(i + 1, Q ++ [⟨T, L⟩], a2, e2), ?_, ?_, bm (by omega) (by (simp only [hw,List.map_append,List.map_cons,List.map_nil,ao,ak,go_sem,reduceIte,zA,zB,zC,zD,zE,zF,reduceCtorEq]))⟩
     ·exact ⟨aD, by dsimp only; rw [xD, ← hq]; dsimp only; rw [xT], ID, by dsimp only; rw [List.length_append, Rx]; rfl⟩
     ·dsimp only; omega
    ·have JO : e2 = 0 := by simpa using Ql
     have fT : ∀ x y : Int, bY [V.agg [num x, num y]] 0 2 = true := fun x y => rfl
     have LY : j + 1 ≤ 34359738368 := by omega
     have U9 : (L.map aj).length = j := by rw [List.length_map, Ck]
     simp only [hw,LX,fT,LY,U9,List.length_append,List.length_cons,List.length_nil,Nat.zero_add,sl,List.length_map,bd,go_sem,reduceIte,zA,zB,zC,zD,zE,zF,reduceCtorEq]
     refine bI tt_ok aK [⟨.n, 0, [], [], []⟩, ⟨.r, 0, [], [0], [1]⟩, ⟨.n, 0, [], [], []⟩, ⟨.e, 1, [], [2], []⟩, ⟨.n, 0, [], [], []⟩, ⟨.e, 1, [], [2,3,4], []⟩, ⟨.n, 0, [], [2,3,4,5], []⟩, ⟨.n, 0, [], [2,3,4,5,6], []⟩, ⟨.w, 0, [], [0,1,2,3,4,5,6,7], []⟩, ⟨.n, 0, [], [0,1,2,3,4,5,6,7,8], []⟩, ⟨.w, 1, [], [0,1,2,3,4,5,6,7,8,9], []⟩] 2 (by kernel_rfl) ?_
     simp only [hw,LX,fT,LY,U9,List.length_append,List.length_cons,List.length_nil,Nat.zero_add,sl,List.length_map,bd,go_sem,reduceIte,zA,zB,zC,zD,zE,zF,reduceCtorEq]
     refine Yk rfl rfl (tN s fR a2 e2 ID 1) ?_
     rintro _ _ ⟨rfl, rfl⟩
     obtain ⟨z1, Gr⟩ : ∃ x, x = lj s a2 e2 := ⟨_, rfl⟩
     rw [← Gr]
     have Va : z1.2.1 ≤ s.size := Gr ▸ qt ID
     try simp only [List.set_cons_zero,List.set_cons_succ]
     simp only [hw,LX,fT,LY,U9,List.length_append,List.length_cons,List.length_nil,Nat.zero_add,sl,List.length_map,bd,go_sem,reduceIte,zA,zB,zC,zD,zE,zF,reduceCtorEq]
     refine Yk rfl rfl (tN s fR z1.2.1 z1.2.2 Va 1) ?_
     rintro _ _ ⟨rfl, rfl⟩
     obtain ⟨z2, FI⟩ : ∃ x, x = lj s z1.2.1 z1.2.2 := ⟨_, rfl⟩
     rw [← FI]
     have hj2 : z2.2.1 ≤ s.size := FI ▸ qt Va
     try simp only [List.set_cons_zero,List.set_cons_succ]
     simp only [hw,LX,fT,LY,U9,List.length_append,List.length_cons,List.length_nil,Nat.zero_add,sl,List.length_map,bd,go_sem,reduceIte,zA,zB,zC,zD,zE,zF,reduceCtorEq]
     refine qk _ ⟨(j + 1, L ++ [⟨(z1.1 : Int), (z2.1 : Int)⟩], z2.2), ?_, ?_, bm (by omega) (by (simp only [LX,List.map_append,List.map_cons,List.map_nil,aj,go_sem,reduceIte,zA,zB,zC,zD,zE,zF,reduceCtorEq]))⟩
     ·refine ⟨Xs, ?_, hj2, by dsimp only; rw [List.length_append, Ck]; rfl⟩
      dsimp only
      rw [uo, show C - j = C - (j + 1) + 1 by omega, AQ, if_neg (by simp [JO])]
      dsimp only
      rw [← Gr, ← FI, List.append_assoc]; rfl
     ·dsimp only; omega
   ·have aaC : ¬ j < C := by simpa using rP
    simp only [hw,sl,List.length_map,bd,go_sem,reduceIte,zA,zB,zC,zD,zE,zF,reduceCtorEq]
    refine qh (k := 4) (vs' := [str T, .slice (L.map aj)]) rfl (by simp [cy, dO, bu, Ck, ku, List.take_of_length_le]) ?_
    have tW : ∀ (x : ByteArray) (y : List V), bY [V.agg [str x, .slice y]] 0 2 = true := fun x y => rfl
    have Qm : i + 1 ≤ 34359738368 := by omega
    have Xt : (Q.map ao).length = i := by rw [List.length_map, Rx]
    refine BL tt_ok ?_
    simp only [hw,tW,Qm,Xt,List.length_append,List.length_cons,List.length_nil,Nat.zero_add,sl,List.length_map,bd,go_sem,reduceIte,zA,zB,zC,zD,zE,zF,reduceCtorEq]
    have xT : oa s (a, e) = (⟨T, L⟩, a2, e2) := by
     unfold oa
     dsimp only
     rw [← Pn, ← Po, ← hC, ← hT]
     have hb := uo
     have gw : AQ s (C - j) (a2, e2) = ([], a2, e2) := by first | (rw [show C - j = 0 by omega]; rfl) | (obtain ⟨k, hk⟩ : ∃ k, C - j = k + 1 := ⟨C - j - 1, by omega⟩; rw [hk, AQ, if_pos UZ])
     rw [gw] at hb
     simp only [List.append_nil] at hb
     rw [hb]
    refine bW _ ⟨(i + 1, Q ++ [⟨T, L⟩], a2, e2), ?_, ?_, bm (by omega) (by (simp only [hw,List.map_append,List.map_cons,List.map_nil,ao,ak,go_sem,reduceIte,zA,zB,zC,zD,zE,zF,reduceCtorEq]))⟩
    ·exact ⟨aD, by dsimp only; rw [xD, ← hq]; dsimp only; rw [xT], ID, by dsimp only; rw [List.length_append, Rx]; rfl⟩
    ·dsimp only; omega
  ·have c5 : ¬ i < N := by simpa using Qk
   obtain rfl : i = N := by omega
   have qH : Ag s = ({ h with reqs := Q }, a, e) := by unfold Ag; rw [Xr]; dsimp only; rw [← hq]
   simp only [sl,List.length_map,bd,go_sem,reduceIte,zA,zB,zC,zD,zE,zF,reduceCtorEq]
   refine qh (k := 2) (vs' := [str h.path, num h.aC.mj, num h.aC.mn, num h.aC.pt, .slice (Q.map ao), str h.ar, str h.gq, str h.ce, bl h.yk]) rfl (by simp [cy, dO, bu, Rx, ku, List.take_of_length_le]) ?_
   have Qb : ux [{ h with reqs := Q }] := by
    refine ⟨by simp, fun r hr => ?_⟩
    rw [List.mem_singleton] at hr; subst hr
    have h2 := IC s i x8.2 YJ
    rw [← hq] at h2
    refine ⟨by dsimp only; omega, by dsimp only; omega, fun q LG => ?_⟩
    have := h2.2.2 q LG
    exact ⟨by omega, by omega⟩
   refine UX tt_ok [17,19] ?_
   simp only [sl,List.length_map,bd,go_sem,reduceIte,zA,zB,zC,zD,zE,zF,reduceCtorEq]
   refine cS (LA s fR a e _ 1 rfl) ?_
   rintro _ rfl
   simp only [sl,List.length_map,bd,go_sem,reduceIte,zA,zB,zC,zD,zE,zF,reduceCtorEq]
   refine aM (fun Cy => ?_) (fun Cy => ?_)
   ·have bH : qo s a e ≠ 0 := by simpa using Cy
    have hR : ma s = .bN [ag ja, num 9] := by unfold ma ob; rw [qH, if_neg (by simp [bH])]
    simp only [sl,List.length_map,bd,go_sem,reduceIte,zA,zB,zC,zD,zE,zF,reduceCtorEq]
    exact hK _ (hR.symm)
   ·have hez : qo s a e = 0 := by simpa using Cy
    simp only [sl,List.length_map,bd,go_sem,reduceIte,zA,zB,zC,zD,zE,zF,reduceCtorEq]
    refine cF (by have hh := vM hG [{ h with reqs := Q }] Qb []; simp only [aV,List.map_cons,List.map_nil,ag,af,ah] at hh; exact hh) ?_
    rintro _ rfl
    simp only [sl,List.length_map,bd,go_sem,reduceIte,zA,zB,zC,zD,zE,zF,reduceCtorEq]
    refine aM (fun Qn => ?_) (fun Qn => ?_)
    ·have hR : ma s = .bN [ag ja, num 9] := by
      first
      | exact hR
      | (unfold ma ob; rw [qH, if_neg (by have : ¬ eH [{ h with reqs := Q }] = 0 := (by simpa using Qn); simp [this])])
     simp only [sl,List.length_map,bd,go_sem,reduceIte,zA,zB,zC,zD,zE,zF,reduceCtorEq]
     exact hK _ (hR.symm)
    ·have hR : ma s = .bN [ag { h with reqs := Q }, num 0] := by
      unfold ma ob
      rw [qH, ← uE, if_pos (by have : eH [{ h with reqs := Q }] = 0 := (by simpa using Qn); simp [this, hmj, hez])]
     simp only [sl,List.length_map,bd,go_sem,reduceIte,zA,zB,zC,zD,zE,zF,reduceCtorEq]
     exact hK _ (hR.symm)
end Go.Proofs.YtnfeacnbgbggfaaGreatDoor
end

section
namespace Go.Proofs.YtnfeacnbgbggfaaGreatDoor
open Go.Eng
variable [aH]
theorem D3 (n : Nat) : nc (n : Int) = uv n := by unfold nc; rw [Int.toNat_natCast]
theorem tX {s t : ByteArray} {a : Nat} {rest : List UInt8} (hn : t.size < 9223372036854775808) (h : from_ s a = eT t ++ rest) : ∃ j, l6 s a 0 = (t, j, 0) ∧ from_ s j = rest := by
 obtain ⟨h1, h2⟩ := Pq hn h
 exact ⟨_, by unfold l6; rw [if_neg (by simp), h1], h2⟩
theorem xF {s : ByteArray} {a n : Nat} {rest : List UInt8} (hn : n < 9223372036854775808) (h : from_ s a = uv n ++ rest) : ∃ j, lj s a 0 = (n, j, 0) ∧ from_ s j = rest := by
 obtain ⟨h1, h2⟩ := BU hn h
 exact ⟨_, by unfold lj; rw [if_neg (by simp), h1], h2⟩
theorem Cz {m : Int} {s : ByteArray} {a n : Nat} {rest : List UInt8} (hn : n < 9223372036854775808) (hm : (n : Int) ≤ m) (h : from_ s a = uv n ++ rest) : ∃ j, rq m s a 0 = (n, j, 0) ∧ from_ s j = rest := by
 obtain ⟨h1, h2⟩ := BU hn h
 exact ⟨_, by unfold rq; rw [if_neg (by simp), h1]; exact if_pos hm, h2⟩
theorem tY {n : Int} (h0 : 0 ≤ n) : ∃ k : Nat, n = k ∧ nc n = uv k := ⟨n.toNat, by omega, rfl⟩
theorem IE {s : ByteArray} : ∀ (l : List bB) (a : Nat) (rest : List UInt8), (∀ x ∈ l, nZ x) → from_ s a = l.flatMap FD ++ rest → ∃ j, AQ s l.length (a, 0) = (l, j, 0) ∧ from_ s j = rest
 | [], a, rest, _, h => ⟨a, rfl, h⟩
 | x :: t, a, rest, hx, h => by
  have hb := hx x (by simp)
  unfold nZ at hb
  obtain ⟨k1, e1, u1⟩ := tY (n := x.lo) (by omega)
  obtain ⟨k2, e2, u2⟩ := tY (n := x.hi) (by omega)
  rw [List.flatMap_cons, FD, u1, u2, List.append_assoc, List.append_assoc] at h
  obtain ⟨j1, h1, Gg⟩ := xF (by omega) h
  obtain ⟨j2, h2, Ru⟩ := xF (by omega) Gg
  obtain ⟨j, h3, h4⟩ := IE t j2 rest (fun y hy => hx y (by simp [hy])) Ru
  refine ⟨j, ?_, h4⟩
  rw [List.length_cons, AQ, if_neg (by simp)]
  simp only [h1,h2,h3,Prod.mk.injEq,and_true,List.cons.injEq]
  exact bB.ext' e1.symm e2.symm
theorem LZ {s : ByteArray} {q : Rq} {a : Nat} {rest : List UInt8} (hw : Rr q) (hp : q.path.size ≤ 1048576) (hl : q.set.length ≤ s.size) (hs : s.size ≤ 1048576) (h : from_ s a = vO q ++ rest) : ∃ j, oa s (a, 0) = (q, j, 0) ∧ from_ s j = rest := by
 unfold vO at h
 rw [D3, List.append_assoc, List.append_assoc] at h
 obtain ⟨j1, h1, Gg⟩ := tX (by omega) h
 obtain ⟨j2, h2, Ru⟩ := Cz (m := (s.size : Int)) (by omega) (by omega) Gg
 obtain ⟨j, h3, h4⟩ := IE q.set j2 rest (kQ hw) Ru
 refine ⟨j, ?_, h4⟩
 unfold oa
 simp only [h1,h2,h3]
theorem L0 (q : Rq) : q.set.length ≤ (vO q).length := by
 unfold vO
 rw [List.length_append]
 have : ∀ l : List bB, l.length ≤ (l.flatMap FD).length := by
  intro l
  induction l with
  | nil => simp
  | cons x t ih =>
   rw [List.flatMap_cons, List.length_append, List.length_cons]
   have h1 : 0 < (FD x).length := by unfold FD nc; rw [List.length_append]; have := P5 x.lo.toNat; omega
   omega
 have := this q.set
 omega
theorem IF {s : ByteArray} (hs : s.size ≤ 1048576) : ∀ (l : List Rq) (a : Nat) (rest : List UInt8), (∀ q ∈ l, Rr q ∧ q.path.size ≤ 1048576) → from_ s a = l.flatMap vO ++ rest → ∃ j, AR s l.length (a, 0) = (l, j, 0) ∧ from_ s j = rest
 | [], a, rest, _, h => ⟨a, rfl, h⟩
 | q :: t, a, rest, hq, h => by
  have h0 := hq q (by simp)
  rw [List.flatMap_cons, List.append_assoc] at h
  have hlen : q.set.length ≤ s.size := by
   have h1 := congrArg List.length h
   rw [ju, List.length_append] at h1
   have := L0 q
   omega
  obtain ⟨j1, h1, Gg⟩ := LZ h0.1 h0.2 hlen hs h
  obtain ⟨j, h3, h4⟩ := IF hs t j1 rest (fun y hy => hq y (by simp [hy])) Gg
  refine ⟨j, ?_, h4⟩
  rw [List.length_cons, AR]
  simp only [h1,h3]
theorem FJ (s : ByteArray) : from_ s 0 = bn s := by unfold from_ bn; rw [List.drop_zero]
theorem FK {s : ByteArray} {j : Nat} (h : from_ s j = []) : qo s j 0 = 0 := by
 have h1 := congrArg List.length h
 rw [ju] at h1
 unfold qo
 rw [if_neg]
 intro h2
 simp at h1
 omega
theorem IG {r : Rl} (h : eH [r] = 0) (hb : Cm r) (hs : (qq r).length ≤ 1048576) : ma (bs (qq r)) = .bN [ag r, num 0] := by
 have hw := Ip (Cw r ▸ h)
 have hv := sd hw.aC
 have jH : (bs (qq r)).size ≤ 1048576 := by rw [pn]; exact hs
 have h0 : from_ (bs (qq r)) 0 = qq r := by rw [FJ, ka]
 generalize hS : bs (qq r) = s at *
 obtain ⟨k1, e1, u1⟩ := tY (n := r.aC.mn) (by omega)
 obtain ⟨k2, e2, u2⟩ := tY (n := r.aC.pt) (by omega)
 obtain ⟨k3, e3, u3⟩ := tY (n := xS r) (n4 r).1
 have hk3 := n4 r
 have Gj := h0
 unfold qq Gh at h0
 rw [u1, u2, u3, D3] at h0
 simp only [List.append_assoc] at h0
 have s1 := fM hw.ar
 have s2 := fM hw.gq
 have s3 := fM hw.ce
 obtain ⟨j1, p1, q1⟩ := tX (by have := hb.1; omega) h0
 obtain ⟨j2, p2, q2⟩ := xF (by omega) q1
 obtain ⟨j3, p3, q3⟩ := xF (by omega) q2
 obtain ⟨j4, p4, q4⟩ := Cz (m := 1) (by omega) (by omega) q3
 obtain ⟨j5, p5, q5⟩ := tX (by omega) q4
 obtain ⟨j6, p6, q6⟩ := tX (by omega) q5
 obtain ⟨j7, p7, q7⟩ := tX (by omega) q6
 obtain ⟨j8, p8, q8⟩ := Cz (m := 16) (by have := hw.len; omega) (by have := hw.len; omega) q7
 obtain ⟨j9, p9, q9⟩ := IF jH r.reqs j8 [] (fun q hq => ⟨hw.reqs q hq, (hb.2.2 q hq).1⟩) (by rw [List.append_nil]; exact q8)
 have L1 : decide ((k3 : Int) = 1) = r.yk := by
  rw [← e3]
  unfold xS
  cases r.yk <;> simp
 have Xr : xE s = (⟨r.path, ⟨bO r.path, r.aC.mn, r.aC.pt⟩, [], r.ar, r.gq, r.ce, r.yk⟩, r.reqs.length, j8, 0) := by
  unfold xE
  simp only [p1,p2,p3,p4,p5,p6,p7,p8,L1,← e1,← e2]
 have qH : Ag s = (r, j9, 0) := by
  unfold Ag
  rw [Xr]
  simp only [p9,Prod.mk.injEq,and_true]
  rw [← hw.mj]
 have bK : ob s = true := by
  unfold ob
  rw [qH, p1]
  simp only [FK q9,hw.path,h,decide_true,Bool.and_self]
 unfold ma
 rw [if_pos bK, qH]
end Go.Proofs.YtnfeacnbgbggfaaGreatDoor
end

section
namespace Go.Proofs.YtnfeacnbgbggfaaGreatDoor
open Go.Eng
open Nat renaming reduceAdd → zA, reduceLT → zB, reduceLeDiff → zC, reduceMul → zD, reduceEqDiff → zE, reduceSub → zF
variable [aH]
set_option maxHeartbeats 4000000
set_option maxRecDepth 100000
theorem Rq.ext' {a b : Rq} (h1 : a.path = b.path) (h2 : a.set = b.set) : a = b := by cases a; cases b; simp_all
instance : DecidableEq Rq := fun a b => if h : a.path = b.path ∧ a.set = b.set then .isTrue (Rq.ext' h.1 h.2) else .isFalse fun e => h (by subst e; exact ⟨rfl, rfl⟩)
theorem Rl.ext' {a b : Rl} (h1 : a.path = b.path) (h2 : a.aC = b.aC) (h3 : a.reqs = b.reqs) (h4 : a.ar = b.ar) (h5 : a.gq = b.gq) (h6 : a.ce = b.ce) (h7 : a.yk = b.yk) : a = b := by cases a; cases b; simp_all
instance : DecidableEq Rl := fun a b => if h : a.path = b.path ∧ a.aC = b.aC ∧ a.reqs = b.reqs ∧ a.ar = b.ar ∧ a.gq = b.gq ∧ a.ce = b.ce ∧ a.yk = b.yk then .isTrue (Rl.ext' h.1 h.2.1 h.2.2.1 h.2.2.2.1 h.2.2.2.2.1 h.2.2.2.2.2.1 h.2.2.2.2.2.2) else .isFalse fun e => h (by subst e; exact ⟨rfl, rfl, rfl, rfl, rfl, rfl, rfl⟩)
theorem bool_beq (p q : Bool) : (p == q) = decide (p = q) := by cases p <;> cases q <;> rfl
theorem CA (s t : List Rq) (hl : s.length ≤ 1048576) (hb : ∀ q ∈ s, xm q) : ∃ r_, (fun w => w = bl (decide (s = t))) r_ ∧ aO Tryz.prog 74 [ah s, ah t] r_ := by
 refine ef tt_ok [] 42 [.tmp 4] (fn := Tryz.f74) Tryz.func74 rfl Tryz.call74 ⟨rfl, rfl, by simp⟩ fun K hK => ?_
 simp only [ah]
 simp only [List.length_map,go_sem,reduceIte,zA,zB,zC,zD,zE,zF,reduceCtorEq]
 refine aM (fun cY => ?_) (fun cY => ?_)
 ·have ay : false = decide (s = t) := by
   refine (decide_eq_false fun e => ?_).symm
   subst e; simp at cY
  simp only [List.length_map,go_sem,reduceIte,zA,zB,zC,zD,zE,zF,reduceCtorEq]
  exact hK _ (congrArg bl ay)
 ·have iq : s.length = t.length := by have := cY; simp at this; omega
  simp only [List.length_map,go_sem,reduceIte,zA,zB,zC,zD,zE,zF,reduceCtorEq]
  refine bL tt_ok [] [5] 0 [0,1,10] (fun vs => ((s.length : Int) - Go.Eng.intOf (vs.headD .undef)).toNat) (fun vs => ∃ i : Nat, vs = [num i] ∧ i ≤ s.length ∧ ∀ j < i, s[j]? = t[j]?) (by omega) (by simp only [List.length_map,go_sem,reduceIte,zA,zB,zC,zD,zE,zF,reduceCtorEq]) (⟨0, rfl, Nat.zero_le _, fun j hj => absurd hj (Nat.not_lt_zero j)⟩) fun vs hI Z1 bW => ?_
  obtain ⟨i, rfl, hi, bh⟩ := hI
  simp only [List.length_map,go_sem,reduceIte,zA,zB,zC,zD,zE,zF,reduceCtorEq]
  refine aM (fun cX => ?_) (fun cX => ?_)
  ·have aD : i < s.length := by simpa using cX
   have hw := aB i (by omega)
   obtain ⟨x, hx⟩ : ∃ x, s[i]? = some x := ⟨_, List.getElem?_eq_getElem aD⟩
   obtain ⟨y, hy⟩ : ∃ y, t[i]? = some y := ⟨_, List.getElem?_eq_getElem (by omega)⟩
   simp only [hw,List.getElem?_map,hx,hy,ao,ak,Option.map_some,List.length_map,go_sem,reduceIte,zA,zB,zC,zD,zE,zF,reduceCtorEq]
   refine bI tt_ok aK [⟨.n, 0, [], [], []⟩, ⟨.n, 0, [], [], []⟩, ⟨.r, 0, [], [], []⟩, ⟨.n, 0, [], [], []⟩, ⟨.r, 0, [], [], []⟩, ⟨.n, 0, [], [], []⟩, ⟨.n, 0, [], [], []⟩, ⟨.r, 0, [], [], []⟩, ⟨.n, 0, [], [], []⟩, ⟨.r, 0, [], [], []⟩, ⟨.n, 0, [], [], []⟩, ⟨.n, 0, [], [], []⟩, ⟨.n, 0, [], [], []⟩, ⟨.n, 0, [], [], []⟩, ⟨.r, 0, [], [], []⟩, ⟨.n, 0, [], [], []⟩, ⟨.r, 0, [], [], []⟩, ⟨.n, 0, [], [], []⟩, ⟨.n, 0, [], [], []⟩, ⟨.r, 0, [], [], []⟩, ⟨.n, 0, [], [], []⟩, ⟨.r, 0, [], [], []⟩, ⟨.n, 0, [], [], []⟩, ⟨.n, 0, [], [], []⟩, ⟨.n, 0, [], [], []⟩] 0 (by kernel_rfl) ?_
   simp only [hw,List.getElem?_map,hx,hy,ao,ak,Option.map_some,List.length_map,go_sem,reduceIte,zA,zB,zC,zD,zE,zF,reduceCtorEq]
   refine aM (fun CB => ?_) (fun CB => ?_)
   ·have ay : false = decide (s = t) := by
     refine (decide_eq_false fun e => ?_).symm
     subst e; rw [hx] at hy; cases hy; simp [au] at CB
    simp only [hw,List.getElem?_map,hx,hy,ao,ak,Option.map_some,List.length_map,go_sem,reduceIte,zA,zB,zC,zD,zE,zF,reduceCtorEq]
    exact hK _ (congrArg bl ay)
   ·simp only [hw,List.getElem?_map,hx,hy,ao,ak,Option.map_some,List.length_map,go_sem,reduceIte,zA,zB,zC,zD,zE,zF,reduceCtorEq]
    refine cG (by have h := r7 x.set y.set (hb x (List.mem_of_getElem? hx)).2; simp only [ak] at h; exact h) ?_
    rintro _ rfl
    simp only [hw,List.getElem?_map,hx,hy,ao,ak,Option.map_some,List.length_map,go_sem,reduceIte,zA,zB,zC,zD,zE,zF,reduceCtorEq]
    refine aM (fun nb => ?_) (fun nb => ?_)
    ·have ay : false = decide (s = t) := by
      first
      | exact ay
      | (refine (decide_eq_false fun e => ?_).symm; subst e; rw [hx] at hy; cases hy; simp at nb)
     simp only [hw,List.getElem?_map,hx,hy,ao,ak,Option.map_some,List.length_map,go_sem,reduceIte,zA,zB,zC,zD,zE,zF,reduceCtorEq]
     exact hK _ (congrArg bl ay)
    ·simp only [hw,List.getElem?_map,hx,hy,ao,ak,Option.map_some,List.length_map,go_sem,reduceIte,zA,zB,zC,zD,zE,zF,reduceCtorEq]
     refine bW _ (dD (by omega) (by simp only [hw,List.getElem?_map,hx,hy,ao,ak,Option.map_some,List.length_map,go_sem,reduceIte,zA,zB,zC,zD,zE,zF,reduceCtorEq]) ?_ ?_) <;> simp only [gQ,lk,reduceIte,zE]
     ·refine ⟨i + 1, rfl, aD, fun j hj => ?_⟩
      rcases Nat.lt_or_ge j i with h | h
      ·exact bh j h
      ·obtain rfl : j = i := by omega
       rw [hx, hy]
       have h9 := nb
       have UH : x.path = y.path := by simpa [au] using CB
       have VN : x.set = y.set := by simpa using h9
       rw [Rq.ext' UH VN]
     ·simp only [Go.Eng.intOf,List.headD_cons]; omega
  ·have c5 : ¬ i < s.length := by simpa using cX
   have ay : true = decide (s = t) := (decide_eq_true (iR iq fun j hj => bh j (by omega))).symm
   simp only [List.length_map,go_sem,reduceIte,zA,zB,zC,zD,zE,zF,reduceCtorEq]
   exact hK _ (congrArg bl ay)
theorem vT (a b : Rl) (hb : Cm a) : ∃ r_, (fun w => w = bl (decide (a = b))) r_ ∧ aO Tryz.prog 21 [ag a, ag b] r_ := by
 refine ef tt_ok [] 52 [.tmp 4] (fn := Tryz.f21) Tryz.func21 rfl Tryz.call21 ⟨rfl, rfl, by simp⟩ fun K hK => ?_
 simp only [ag,af,ah]
 have hT4 : Tryz.prog.underlying 4 = some .bool := by kernel_rfl
 have D4 := fun x y => Ki (P := Tryz.prog) x y hT4 a.yk b.yk
 simp only [cQ,D4,go_sem,reduceIte,zA,zB,zC,zD,zE,zF,reduceCtorEq]
 refine aM (fun zW => ?_) (fun zW => ?_)
 ·simp only [cQ,D4,go_sem,reduceIte,zA,zB,zC,zD,zE,zF,reduceCtorEq]
  refine aM (fun Ca => ?_) (fun Ca => ?_)
  ·simp only [cQ,D4,go_sem,reduceIte,zA,zB,zC,zD,zE,zF,reduceCtorEq]
   refine aM (fun Qo => ?_) (fun Qo => ?_)
   ·simp only [cQ,D4,go_sem,reduceIte,zA,zB,zC,zD,zE,zF,reduceCtorEq]
    refine aM (fun Qp => ?_) (fun Qp => ?_)
    ·simp only [cQ,D4,go_sem,reduceIte,zA,zB,zC,zD,zE,zF,reduceCtorEq]
     refine aM (fun Qq => ?_) (fun Qq => ?_)
     ·simp only [cQ,D4,go_sem,reduceIte,zA,zB,zC,zD,zE,zF,reduceCtorEq]
      refine aM (fun Qr => ?_) (fun Qr => ?_)
      ·simp only [cQ,D4,go_sem,reduceIte,zA,zB,zC,zD,zE,zF,reduceCtorEq]
       refine cF (by have h := CA a.reqs b.reqs hb.2.1 hb.2.2; simp only [ah] at h; exact h) ?_
       rintro _ rfl
       simp only [cQ,D4,go_sem,reduceIte,zA,zB,zC,zD,zE,zF,reduceCtorEq]
       refine hK _ (congrArg bl ?_)
       obtain ⟨a1, a2, a3, a4, a5, a6, a7⟩ := a
       obtain ⟨b1, b2, b3, b4, b5, b6, b7⟩ := b
       simp_all [au, bool_beq]
      ·simp only [cQ,D4,go_sem,reduceIte,zA,zB,zC,zD,zE,zF,reduceCtorEq]
       refine hK _ (congrArg bl ?_)
       obtain ⟨a1, a2, a3, a4, a5, a6, a7⟩ := a
       obtain ⟨b1, b2, b3, b4, b5, b6, b7⟩ := b
       simp_all [au, bool_beq]
     ·simp only [cQ,D4,go_sem,reduceIte,zA,zB,zC,zD,zE,zF,reduceCtorEq]
      refine hK _ (congrArg bl ?_)
      obtain ⟨a1, a2, a3, a4, a5, a6, a7⟩ := a
      obtain ⟨b1, b2, b3, b4, b5, b6, b7⟩ := b
      simp_all [au, bool_beq]
    ·simp only [cQ,D4,go_sem,reduceIte,zA,zB,zC,zD,zE,zF,reduceCtorEq]
     refine hK _ (congrArg bl ?_)
     obtain ⟨a1, a2, a3, a4, a5, a6, a7⟩ := a
     obtain ⟨b1, b2, b3, b4, b5, b6, b7⟩ := b
     simp_all [au, bool_beq]
   ·simp only [cQ,D4,go_sem,reduceIte,zA,zB,zC,zD,zE,zF,reduceCtorEq]
    refine hK _ (congrArg bl ?_)
    obtain ⟨a1, a2, a3, a4, a5, a6, a7⟩ := a
    obtain ⟨b1, b2, b3, b4, b5, b6, b7⟩ := b
    simp_all [au, bool_beq]
  ·simp only [cQ,D4,go_sem,reduceIte,zA,zB,zC,zD,zE,zF,reduceCtorEq]
   refine hK _ (congrArg bl ?_)
   obtain ⟨a1, a2, a3, a4, a5, a6, a7⟩ := a
   obtain ⟨b1, b2, b3, b4, b5, b6, b7⟩ := b
   simp_all [au, bool_beq]
 ·simp only [cQ,D4,go_sem,reduceIte,zA,zB,zC,zD,zE,zF,reduceCtorEq]
  refine hK _ (congrArg bl ?_)
  obtain ⟨a1, a2, a3, a4, a5, a6, a7⟩ := a
  obtain ⟨b1, b2, b3, b4, b5, b6, b7⟩ := b
  simp_all [au, bool_beq]
end Go.Proofs.YtnfeacnbgbggfaaGreatDoor
end

section
namespace Go.Proofs.YtnfeacnbgbggfaaGreatDoor
open Go.Eng
variable [aH]
structure RI (g : List Rl) (roots : List Rq) (S : List Rl) (P : List Rq) (X : Rq → Prop) : Prop where
 sub : ∀ r ∈ S, rk g roots r
 Vb : ∀ q ∈ P, q ∈ roots ∨ ∃ a ∈ S, q ∈ a.reqs
 fQ : ∀ q, (q ∈ roots ∨ ∃ a ∈ S, q ∈ a.reqs) → X q ∨ q ∈ P ∨ ∀ r ∈ g, jW q r = true → r ∈ S
theorem RI.start (g : List Rl) (roots : List Rq) : RI g roots [] roots fun _ => False :=
 ⟨fun r hr => by simp at hr, fun q hq => .inl hq, fun q hq => by
  rcases hq with hq | ⟨a, ha, -⟩
  ·exact .inr (.inl hq)
  ·simp at ha⟩
variable {g : List Rl} {roots : List Rq} {S : List Rl} {P : List Rq}
theorem RI.fin (h : RI g roots S [] fun _ => False) {r : Rl} : r ∈ S ↔ rk g roots r := by
 refine ⟨h.sub r, fun hr => ?_⟩
 induction hr with
 | root q r hq hr hh =>
  rcases h.fQ q (.inl hq) with h1 | h1 | h1
  ·exact h1.elim
  ·simp at h1
  ·exact h1 r hr hh
 | step a q r _ hq hr hh ih =>
  rcases h.fQ q (.inr ⟨a, ih, hq⟩) with h1 | h1 | h1
  ·exact h1.elim
  ·simp at h1
  ·exact h1 r hr hh
theorem RI.pop {q : Rq} (h : RI g roots S (q :: P) fun _ => False) : RI g roots S P (fun x => x = q) ∧ (q ∈ roots ∨ ∃ a ∈ S, q ∈ a.reqs) :=
 ⟨⟨h.sub, fun x hx => h.Vb x (by simp [hx]), fun x hx => by
  rcases h.fQ x hx with h1 | h1 | h1
  ·exact h1.elim
  ·rcases List.mem_cons.1 h1 with h1 | h1
   ·exact .inl h1
   ·exact .inr (.inl h1)
  ·exact .inr (.inr h1)⟩, h.Vb q (by simp)⟩
theorem RI.Xu {q : Rq} {r : Rl} (h : RI g roots S P fun x => x = q) (hq : q ∈ roots ∨ ∃ a ∈ S, q ∈ a.reqs) (hr : r ∈ g) (hh : jW q r = true) : RI g roots (S ++ [r]) (P ++ r.reqs) fun x => x = q := by
 refine ⟨fun x hx => ?_, fun x hx => ?_, fun x hx => ?_⟩
 ·rcases List.mem_append.1 hx with hx | hx
  ·exact h.sub x hx
  ·rw [List.mem_singleton] at hx; subst hx
   rcases hq with hq | ⟨a, ha, hq⟩
   ·exact .root q x hq hr hh
   ·exact .step a q x (h.sub a ha) hq hr hh
 ·rcases List.mem_append.1 hx with hx | hx
  ·rcases h.Vb x hx with h1 | ⟨a, ha, h1⟩
   ·exact .inl h1
   ·exact .inr ⟨a, List.mem_append_left _ ha, h1⟩
  ·exact .inr ⟨r, List.mem_append_right _ (List.mem_singleton.2 rfl), hx⟩
 ·have : (x ∈ roots ∨ ∃ a ∈ S, x ∈ a.reqs) ∨ x ∈ r.reqs := by
   rcases hx with hx | ⟨a, ha, hx⟩
   ·exact .inl (.inl hx)
   ·rcases List.mem_append.1 ha with ha | ha
    ·exact .inl (.inr ⟨a, ha, hx⟩)
    ·rw [List.mem_singleton] at ha; subst ha; exact .inr hx
  rcases this with hx | hx
  ·rcases h.fQ x hx with h1 | h1 | h1
   ·exact .inl h1
   ·exact .inr (.inl (List.mem_append_left _ h1))
   ·exact .inr (.inr fun y hy VY => List.mem_append_left _ (h1 y hy VY))
  ·exact .inr (.inl (List.mem_append_right _ hx))
theorem RI.close {q : Rq} (h : RI g roots S P fun x => x = q) (hc : ∀ r ∈ g, jW q r = true → r ∈ S) : RI g roots S P fun _ => False :=
 ⟨h.sub, h.Vb, fun x hx => by
  rcases h.fQ x hx with rfl | h1 | h1
  ·exact .inr (.inr hc)
  ·exact .inr (.inl h1)
  ·exact .inr (.inr h1)⟩
def seen (S : List Rl) (k : fP) : Bool := S.any fun r => decide (r.key = k)
theorem tZ {S : List Rl} {k : fP} : seen S k = true ↔ ∃ r ∈ S, r.key = k := by unfold seen; rw [List.any_eq_true]; simp
theorem mb (hs : g.Pairwise iZ) (hS : ∀ r ∈ S, r ∈ g) {r : Rl} (hr : r ∈ g) : seen S r.key = true ↔ r ∈ S := by
 rw [tZ]
 constructor
 ·rintro ⟨x, hx, he⟩
  have hxg := hS x hx
  obtain ⟨i, hi, rfl⟩ := List.getElem_of_mem hxg
  obtain ⟨j, hj, rfl⟩ := List.getElem_of_mem hr
  rcases Nat.lt_trichotomy i j with h | h | h
  ·exact absurd he (kc (List.pairwise_iff_getElem.1 hs i j hi hj h))
  ·subst h; exact hx
  ·exact absurd he.symm (kc (List.pairwise_iff_getElem.1 hs j i hj hi h))
 ·exact fun h => ⟨r, h, rfl⟩
def cz (g S : List Rl) : Nat := ((g.filter fun r => !seen S r.key).map fun r => r.reqs.length).sum
theorem Ah (g S : List Rl) : cz g S ≤ (g.map fun r => r.reqs.length).sum := by
 unfold cz
 induction g with
 | nil => simp
 | cons a r ih =>
  rw [List.filter_cons]
  split <;> simp <;> omega
theorem vU (S : List Rl) (r : Rl) (k : fP) : seen (S ++ [r]) k = (seen S k || decide (r.key = k)) := by simp [seen]
theorem qv (hs : g.Pairwise iZ) {r : Rl} (hr : r ∈ g) (hn : seen S r.key = false) : cz g (S ++ [r]) + r.reqs.length = cz g S := by
 unfold cz
 induction g with
 | nil => simp at hr
 | cons a t ih =>
  rw [List.pairwise_cons] at hs
  simp only [List.filter_cons,vU]
  rcases List.mem_cons.1 hr with rfl | hr
  ·have h2 : (t.filter fun x => !(seen S x.key || decide (r.key = x.key))) = t.filter fun x => !seen S x.key := by
    refine List.filter_congr fun x hx => ?_
    have := kc (hs.1 x hx)
    simp [this]
   simp only [hn,decide_true,Bool.or_true,Bool.not_true,Bool.not_false,if_true,Bool.false_eq_true,if_false,h2,List.map_cons,List.sum_cons]
   omega
  ·have bH : ¬ r.key = a.key := fun e => kc (hs.1 r hr) e.symm
   have := ih hs.2 hr
   simp only [vU] at this
   simp only [bH,decide_false,Bool.or_false]
   split
   ·simp only [List.map_cons,List.sum_cons]; omega
   ·exact this
def gS (S : List Rl) : List (fP × V) := S.map fun r => (r.key, bl true)
theorem ax (n : Nat) (S : List Rl) : ((bE aN 0 (gS S)).all fun e => ai n e.2.2) = true := by
 rw [kR aN (ai n)]
 unfold gS
 simp [ai]
theorem D5 (k : fP) : ∀ S : List Rl, (getM k (gS S)).getD (bl false) = bl (seen S k)
 | [] => rfl
 | r :: t => by
  show (if r.key = k then some (bl true) else getM k (gS t)).getD _ = _
  unfold seen
  rw [List.any_cons]
  by_cases h : r.key = k
  ·simp [h]
  ·have := D5 k t
   unfold seen at this
   simp [h, this]
theorem ua (S : List Rl) (k : fP) {mem : List aw} {b : Nat} (hm : mem[b]? = some (.map (bE aN 0 (gS S)) (gS S).length)) : dg Tryz.prog mem 85 (.mp b) (ln k) false = some (bl (seen S k)) := by
 rw [T0.get k (gS S) hm NB, D5]; rfl
theorem Ai {S : List Rl} {r : Rl} (h : seen S r.key = false) {mem : List aw} {b : Nat} (hm : mem[b]? = some (.map (bE aN 0 (gS S)) (gS S).length)) : ch Tryz.prog mem 85 (.mp b) (ln r.key) (bl true) = some (mem.set b (.map (bE aN 0 (gS (S ++ [r]))) (gS (S ++ [r])).length)) := by
 have hp : ll r.key (bl true) (gS S) = gS (S ++ [r]) := by
  unfold ll gS
  rw [n9 (fun e he => by
   obtain ⟨x, hx, rfl⟩ := List.mem_map.1 he
   exact fun e => by rw [tZ.2 ⟨x, hx, e⟩] at h; cases h), List.map_append]
  rfl
 rw [T0.put r.key (bl true) (gS S) hm, hp]
theorem sg {l : List Rl} {p : ByteArray} {r : Rl} : r ∈ bM l p ↔ r ∈ l ∧ r.path = p := by unfold bM; simp
theorem mR (l : List Rl) (q : ByteArray) {mem : List aw} {b : Nat} (hm : mem[b]? = some (.map (bE strVal 0 (gP l)) (aA l).length)) :
  dg Tryz.prog mem 80 (.mp b) (str q) false = some (if q ∈ aA l then .slice (bQ l q) else .sc (.slice none 0 0)) := by
 rw [← mQ] at hm
 rw [Qi.get q (gP l) hm Iv]
 unfold gP
 rw [tQ]
 split <;> rfl
theorem ub (h : RI g roots S [] fun _ => False) (hs : g.Pairwise iZ) : dn g roots = g.filter fun r => seen S r.key := by
 unfold dn
 refine List.filter_congr fun r hr => ?_
 have hS : ∀ x ∈ S, x ∈ g := fun x hx => (h.sub x hx).mem
 rw [Bool.eq_iff_iff, @decide_eq_true_iff _ (Classical.propDecidable _), ← h.fin, mb hs hS hr]
end Go.Proofs.YtnfeacnbgbggfaaGreatDoor
end

section
namespace Go.Proofs.YtnfeacnbgbggfaaGreatDoor
open Go.Eng
open Nat renaming reduceAdd → zA, reduceLT → zB, reduceLeDiff → zC, reduceMul → zD, reduceEqDiff → zE, reduceSub → zF
variable [aH]
set_option maxHeartbeats 4000000
set_option maxRecDepth 100000
theorem uV (l : List Rq) (hl : l.length ≤ 34359738368) : aR Tryz.prog 23 [.slice (l.map ao)] [] (.ms 0 1 0 l.length) [.rows 1 2 (l.map ao)] := by
 have h1 := ct l
 have AI : (l.map ao).length ≤ 34359738368 := by rw [List.length_map]; exact hl
 rw [← List.length_map (f := ao)]
 generalize l.map ao = rows at h1 AI
 refine GK tt_ok (fn := Tryz.f23) 1 (by simp) Tryz.func23 rfl Tryz.call23 ?_
 simp only [vC,di,Tryz.ntmps23,List.length_cons,List.length_nil,zA,zF,List.replicate_succ,List.replicate_zero]
 refine bz tt_ok fun K hK => ?_
 simp only [go_sem,reduceIte,zA,zB,zC,zD,zE,zF,reduceCtorEq]
 refine hK _ ?_
 refine fI ?_
 refine bz tt_ok fun K hK => ?_
 simp only [go_sem,reduceIte,zA,zB,zC,zD,zE,zF,reduceCtorEq]
 intro b hb
 refine hK _ ?_
 cases b with
 | true =>
  have h0 : rows = [] := by
   cases rows with
   | nil => rfl
   | cons a r => have := hb (by simp); cases this
  subst h0
  refine fJ rfl ?_
  refine bz tt_ok fun K hK => ?_
  simp only [go_sem,reduceIte,zA,zB,zC,zD,zE,zF,reduceCtorEq]
  refine hK _ ?_
  refine vm 2 1 2 rfl ?_
  exact jo ⟨.inl rfl, rfl, rfl, rfl, rfl⟩
 | false =>
  refine fJ rfl (iJ ?_)
  show eL _ _ _ _ _ _
  refine bz tt_ok fun K hK => ?_
  simp only [h1,AI,go_sem,reduceIte,zA,zB,zC,zD,zE,zF,reduceCtorEq]
  refine hK _ ?_
  refine jo ⟨.inl rfl, ?_⟩
  simp [gh, jN, lL, Tryz.f23, ai, az, dp]
theorem rv (l : List Rq) (hl : l.length ≤ 34359738368) (M : List aw) : ∃ r_ m_, (fun r m => r = V.ms M.length 1 0 l.length ∧ m = M ++ [.rows 1 2 (l.map ao)]) r_ m_ ∧ aR Tryz.prog 23 [.slice (l.map ao)] M r_ m_ := by
 have h2 := (uV l hl).zf M (fun j => M.length + j) 0 rfl rfl rfl (by simp [ai]) rfl (Nat.zero_le _) (fun i B hi => by simp at hi) (fun i j hi => by omega) (fun j _ => by omega)
 exact ⟨_, _, ⟨rfl, rfl⟩, h2⟩
theorem Aj {l : List Rl} {r : Rl} (h : r ∈ al l) : r ∈ l := by
 unfold al at h
 split at h
 ·exact h
 ·simp at h
theorem dK (l : List Rl) : (al l).Pairwise iZ := by
 unfold al
 split
 ·exact vQ ‹_›
 ·exact List.Pairwise.nil
theorem vV : ∀ (l : List Rl) (b : Option Rl), dS b l = 0 → ∀ r ∈ l, gH r = 0
 | [], _, _, r, hr => by simp at hr
 | a :: t, b, h, r, hr => by
  rw [fk] at h
  by_cases h0 : gH a = 0
  ·rcases List.mem_cons.1 hr with rfl | hr
   ·exact h0
   ·rw [if_neg (by simp [h0])] at h
    refine vV t (some a) ?_ r hr
    cases b with
    | none => exact h
    | some p =>
     dsimp only at h
     split at h
     ·omega
     ·split at h
      ·omega
      ·exact h
  ·rw [if_pos h0] at h; exact absurd h h0
theorem xG {l : List Rl} {r : Rl} (h : r ∈ al l) : gH r = 0 := by
 unfold al at h
 split at h
 ·rename_i h0
  unfold eH at h0
  split at h0
  ·omega
  ·exact vV l none h0 r h
 ·simp at h
theorem uc {l : List Rl} {r : Rl} (h : r ∈ al l) : r.aC.ok = true := by
 have h1 := xG h
 unfold gH at h1
 split at h1
 ·omega
 ·split at h1
  ·omega
  ·rename_i h2
   revert h2
   cases r.aC.ok <;> simp
theorem mS {l : List Rl} {r : Rl} (h : r ∈ al l) : r.reqs.length ≤ 16 := by
 have h1 := xG h
 unfold gH at h1
 split at h1
 ·omega
 ·split at h1
  ·omega
  ·split at h1
   ·rename_i h2; exact absurd h1 h2
   ·rename_i h2
    simp only [ne_eq,Decidable.not_not] at h2
    unfold fq at h2
    split at h2 <;> omega
theorem eJ (l : List Rl) : (al l).length ≤ 256 := by
 unfold al
 split
 ·exact Qe ‹_›
 ·simp
theorem CC (l S : List Rl) : cz (al l) S ≤ 4096 := by
 refine Nat.le_trans (Ah _ _) ?_
 have h1 : ∀ g : List Rl, (∀ r ∈ g, r.reqs.length ≤ 16) → (g.map fun r => r.reqs.length).sum ≤ 16 * g.length := fun g => by
  induction g with
  | nil => simp
  | cons a t ih =>
   intro h
   have := ih fun r hr => h r (by simp [hr])
   have := h a (by simp)
   simp only [List.map_cons,List.sum_cons,List.length_cons]; omega
 have := h1 (al l) fun r hr => mS hr
 have := eJ l
 omega
end Go.Proofs.YtnfeacnbgbggfaaGreatDoor
end

section
namespace Go.Proofs.YtnfeacnbgbggfaaGreatDoor
open Go.Eng
open Nat renaming reduceAdd → zA, reduceLT → zB, reduceLeDiff → zC, reduceMul → zD, reduceEqDiff → zE, reduceSub → zF
variable [aH]
set_option maxHeartbeats 4000000
set_option maxRecDepth 100000
theorem IH (hG : aH.g = some 0) (l : List Rl) (I : List V) (hb : ux l) (roots : List Rq) (hr : roots.length ≤ 1048576) (Rw : ∀ q ∈ roots, xm q) : aO Tryz.prog 13 [bk l I, ah roots] (bZ ((dn (al l) roots).map Rl.key)) := by
 refine Rf tt_ok [] 79 [.tmp 4] (fn := Tryz.f13) Tryz.func13 rfl Tryz.call13 ⟨rfl, rfl, by simp⟩ fun K hK => ?_
 simp only [bk,aV,ah]
 have AP := hb.1
 simp only [ab,ae,ax,List.length_map,go_sem,reduceIte,zA,zB,zC,zD,zE,zF,reduceCtorEq]
 refine cW (by have h := fm hG l I hb; simp only [bk,aV] at h; exact h _) ?_
 rintro _ _ ⟨rfl, rfl⟩
 simp only [vC,ND,List.length_cons,List.length_nil,zA]
 simp only [ab,ae,ax,List.length_map,go_sem,reduceIte,zA,zB,zC,zD,zE,zF,reduceCtorEq]
 refine cW (rv roots (by omega) _) ?_
 rintro _ _ ⟨rfl, rfl⟩
 try simp only [vC,List.length_cons,List.length_nil,zA]
 simp only [ab,ae,ax,List.length_map,go_sem,reduceIte,zA,zB,zC,zD,zE,zF,reduceCtorEq]
 refine cO tt_ok [] (fun a : List Rl × List Rq × Nat × Nat × List V => [(2, .ptr 0 0), (5, .ptr 5 0), (7, .mp 6), (8, .ms 7 a.2.2.1 a.2.2.2.1 a.2.1.length)]) (fun a : List Rl × List Rq × Nat × Nat × List V => [.box [.slice (l.map ag), .slice I], .box [.slice (l.map ag), .slice I], .box [.mp 3, .mp 4], .map (bE aN 0 (gK (al l))) (gK (al l)).length, .map (bE strVal 0 (gP (al l))) (aA (al l)).length, .box [.mp 3, .mp 4], .map (bE aN 0 (gS a.1)) (gS a.1).length, .rows a.2.2.1 2 a.2.2.2.2]) (fun a => a.2.1.length + cz (al l) a.1) (fun a => RI (al l) roots a.1 a.2.1 (fun _ => False) ∧ a.2.2.2.2.drop a.2.2.2.1 = a.2.1.map ao ∧ a.2.2.2.1 + a.2.1.length = a.2.2.2.2.length ∧ a.2.1.length + cz (al l) a.1 ≤ roots.length + 4096) (([], roots, 1, 0, roots.map ao)) 8 (bm (by omega) (by simp only [ab,ae,ax,List.length_map,gS,List.map_nil,bE,List.length_nil,Int.cast_ofNat_Int,go_sem,reduceIte,zA,zB,zC,zD,zE,zF,reduceCtorEq] <;> rfl)) (⟨RI.start _ _, rfl, by simp, by have := CC l []; dsimp only; omega⟩) ?_
 rintro ⟨S, P, v, o, rs⟩ ⟨II, AL, Ob, hW⟩
 try dsimp only at II AL Ob hW ⊢
 intro Z1 bW
 simp only [ab,ae,ax,List.length_map,go_sem,reduceIte,zA,zB,zC,zD,zE,zF,reduceCtorEq]
 refine aM (fun gU => ?_) (fun gU => ?_)
 ·obtain ⟨q, P, rfl⟩ : ∃ q P2, P = q :: P2 := by
   cases P with
   | nil => simp at gU
   | cons q r => exact ⟨q, r, rfl⟩
  simp only [List.length_cons] at gU ⊢
  rw [gU]
  obtain ⟨IJ, hq⟩ := II.pop
  have b8 : rs[o]? = some (ao q) := by
   have h := congrArg (fun x => x[0]?) AL
   simpa using h
  have kU : rs.drop (o + 1) = P.map ao := by
   rw [← List.drop_drop, AL]; rfl
  have kd : o + 1 + P.length = rs.length := by rw [List.length_cons] at Ob; omega
  rw [List.length_cons] at hW
  have h0 : (0 : Int) < ((P.length + 1 : Nat) : Int) := by omega
  have h1 : (1 : Int) ≤ ((P.length + 1 : Nat) : Int) := by omega
  have dT : (((P.length + 1 : Nat) : Int) - 1).toNat = P.length := by omega
  have c7 : ∀ mem : List aw, mem[7]? = some (.rows v 2 rs) → cutAt mem 2 1 none (.ms 7 v o (P.length + 1)) = some (.ms 7 v (o + 1) P.length) := fun mem hm => by
   unfold cutAt
   simp [eM, hm] <;> omega
  have J1 : xm q := by
   rcases hq with hq | ⟨a, ha, hq⟩
   ·exact Rw q hq
   ·exact (hb.2 a (Aj (II.sub a ha).mem)).2.2 q hq
  by_cases gJ : q.path ∈ aA (al l)
  ·have cI := fun (mem : List aw) (b : Nat) hm => mR (al l) q.path (mem := mem) (b := b) hm
   simp only [if_pos gJ,bQ] at cI
   simp only [ab,ae,ax,b8,h0,h1,dT,c7,List.length_cons,ao,ak,Nat.add_zero,Int.le_refl,Int.toNat_one,Int.toNat_zero,cI,List.length_map,go_sem,reduceIte,zA,zB,zC,zD,zE,zF,reduceCtorEq]
   refine cO tt_ok [] (fun b : List Rl × List Rq × Nat × Nat × List V × Nat => [(2, .ptr 0 0), (5, .ptr 5 0), (7, .mp 6), (8, .ms 7 b.2.2.1 b.2.2.2.1 b.2.1.length), (9, .ptr 8 0), (35, .slice ((bM (al l) q.path).map ag)), (36, num (bM (al l) q.path).length), (37, num b.2.2.2.2.2)]) (fun b : List Rl × List Rq × Nat × Nat × List V × Nat => [.box [.slice (l.map ag), .slice I], .box [.slice (l.map ag), .slice I], .box [.mp 3, .mp 4], .map (bE aN 0 (gK (al l))) (gK (al l)).length, .map (bE strVal 0 (gP (al l))) (aA (al l)).length, .box [.mp 3, .mp 4], .map (bE aN 0 (gS b.1)) (gS b.1).length, .rows b.2.2.1 2 b.2.2.2.2.1, .box [str q.path, .slice (q.set.map aj)]]) (fun b => (bM (al l) q.path).length - b.2.2.2.2.2) (fun b => RI (al l) roots b.1 b.2.1 (fun x => x = q) ∧ (q ∈ roots ∨ ∃ a ∈ b.1, q ∈ a.reqs) ∧ b.2.2.2.2.1.drop b.2.2.2.1 = b.2.1.map ao ∧ b.2.2.2.1 + b.2.1.length = b.2.2.2.2.1.length ∧ b.2.1.length + cz (al l) b.1 + 1 ≤ P.length + 1 + cz (al l) S ∧ b.2.2.2.2.2 ≤ (bM (al l) q.path).length ∧ ∀ r ∈ (bM (al l) q.path).take b.2.2.2.2.2, has q.set r.aC.place = true → r ∈ b.1) ((S, P, v, o + 1, rs, 0)) 9 (bm (by omega) (by simp only [ab,ae,ax,b8,h0,h1,dT,c7,List.length_cons,ao,ak,Nat.add_zero,Int.le_refl,Int.toNat_one,Int.toNat_zero,cI,List.length_map,Int.cast_ofNat_Int,go_sem,reduceIte,zA,zB,zC,zD,zE,zF,reduceCtorEq] <;> rfl)) (⟨IJ, hq, kU, kd, by dsimp only; omega, Nat.zero_le _, fun r hr => by simp at hr⟩) ?_
   rintro ⟨S1, P1, v1, o1, oo, j⟩ ⟨qw, xT, kU, kd, Qs, hj, ke⟩
   try dsimp only at qw xT kU kd Qs hj ke ⊢
   intro Z2 qk
   simp only [ab,ae,ax,b8,h0,h1,dT,c7,List.length_cons,ao,ak,Nat.add_zero,Int.le_refl,Int.toNat_one,Int.toNat_zero,cI,List.length_map,go_sem,reduceIte,zA,zB,zC,zD,zE,zF,reduceCtorEq]
   refine aM (fun mc => ?_) (fun mc => ?_)
   ·have aD : j < (bM (al l) q.path).length := by simpa using mc
    have Ak : (bM (al l) q.path).length ≤ 256 := Nat.le_trans (List.length_filter_le _ _) (eJ l)
    have hw := aB j (by omega)
    obtain ⟨x, hx⟩ : ∃ x, (bM (al l) q.path)[j]? = some x := ⟨_, List.getElem?_eq_getElem aD⟩
    have uw := sg.1 (List.mem_of_getElem? hx)
    have DP : x.aC.pl = x.aC.place := by unfold da.pl; rw [if_pos (uc uw.1)]
    have mT := fun (mem : List aw) (b : Nat) hm => ua S1 x.key (mem := mem) (b := b) hm
    simp only [ln] at mT
    have sf : (bM (al l) q.path).take (j + 1) = (bM (al l) q.path).take j ++ [x] := ix hx
    have T4 : ∀ r ∈ S1, r ∈ al l := fun r hr => (qw.sub r hr).mem
    simp only [ab,ae,ax,b8,h0,h1,dT,c7,List.length_cons,ao,ak,Nat.add_zero,Int.le_refl,Int.toNat_one,Int.toNat_zero,cI,hw,List.getElem?_map,hx,ag,af,ah,mT,List.length_map,go_sem,reduceIte,zA,zB,zC,zD,zE,zF,reduceCtorEq]
    refine bI tt_ok aK [⟨.n, 0, [], [], []⟩, ⟨.r, 0, [], [], []⟩, ⟨.n, 0, [], [], []⟩, ⟨.r, 0, [], [], []⟩, ⟨.n, 0, [], [], []⟩, ⟨.n, 0, [], [], []⟩, ⟨.n, 0, [], [], []⟩, ⟨.r, 0, [], [], []⟩, ⟨.r, 0, [], [], []⟩, ⟨.n, 0, [], [], []⟩, ⟨.n, 0, [], [], []⟩, ⟨.n, 0, [], [], []⟩] 0 (by kernel_rfl) ?_
    simp only [ab,ae,ax,b8,h0,h1,dT,c7,List.length_cons,ao,ak,Nat.add_zero,Int.le_refl,Int.toNat_one,Int.toNat_zero,cI,hw,List.getElem?_map,hx,ag,af,ah,mT,List.length_map,go_sem,reduceIte,zA,zB,zC,zD,zE,zF,reduceCtorEq]
    refine cG (by have h := kO x; simp only [ag,af,ah,br] at h; exact h) ?_
    rintro _ rfl
    simp only [ab,ae,ax,b8,h0,h1,dT,c7,List.length_cons,ao,ak,Nat.add_zero,Int.le_refl,Int.toNat_one,Int.toNat_zero,cI,hw,List.getElem?_map,hx,ag,af,ah,mT,List.length_map,go_sem,reduceIte,zA,zB,zC,zD,zE,zF,reduceCtorEq]
    refine aM (fun oc => ?_) (fun oc => ?_)
    ·simp only [ab,ae,ax,b8,h0,h1,dT,c7,List.length_cons,ao,ak,Nat.add_zero,Int.le_refl,Int.toNat_one,Int.toNat_zero,cI,hw,List.getElem?_map,hx,ag,af,ah,mT,List.length_map,go_sem,reduceIte,zA,zB,zC,zD,zE,zF,reduceCtorEq]
     refine cG (by have h := iS x; simp only [ag,af,ah] at h; exact h) ?_
     rintro _ rfl
     simp only [ab,ae,ax,b8,h0,h1,dT,c7,List.length_cons,ao,ak,Nat.add_zero,Int.le_refl,Int.toNat_one,Int.toNat_zero,cI,hw,List.getElem?_map,hx,ag,af,ah,mT,List.length_map,go_sem,reduceIte,zA,zB,zC,zD,zE,zF,reduceCtorEq]
     refine cG (by have h := B8 q.set x.aC.pl J1.2; simp only [ak] at h; exact h) ?_
     rintro _ rfl
     simp only [ab,ae,ax,b8,h0,h1,dT,c7,List.length_cons,ao,ak,Nat.add_zero,Int.le_refl,Int.toNat_one,Int.toNat_zero,cI,hw,List.getElem?_map,hx,ag,af,ah,mT,List.length_map,go_sem,reduceIte,zA,zB,zC,zD,zE,zF,reduceCtorEq]
     refine aM (fun qx => ?_) (fun qx => ?_)
     ·have T5 : seen S1 x.key = false := by simpa using oc
      have Qt : has q.set x.aC.place = true := by rw [← DP]; simpa using qx
      have IK : jW q x = true := by unfold jW; rw [Qt, uw.2]; simp
      have xH := qw.Xu xT uw.1 IK
      have YK := qv (dK l) uw.1 T5
      have YL := mS uw.1
      have xU := fun (mem : List aw) (b : Nat) hm => Ai T5 (mem := mem) (b := b) hm
      simp only [ln] at xU
      simp only [ab,ae,ax,b8,h0,h1,dT,c7,List.length_cons,ao,ak,Nat.add_zero,Int.le_refl,Int.toNat_one,Int.toNat_zero,cI,hw,List.getElem?_map,hx,ag,af,ah,mT,xU,List.length_map,go_sem,reduceIte,zA,zB,zC,zD,zE,zF,reduceCtorEq]
      refine cF (by have h := kO x; simp only [ag,af,ah,br] at h; exact h) ?_
      rintro _ rfl
      rcases Nat.eq_zero_or_pos o1 with rfl | kl
      ·have kf : oo.length = P1.length := by omega
       have fT := ct x.reqs
       have er : P1.length + x.reqs.length ≤ 34359738368 := by omega
       have ED : (oo ++ x.reqs.map ao).drop 0 = oo.drop 0 ++ x.reqs.map ao := rfl
       have xl : 0 + (P1.length + x.reqs.length) = (oo ++ x.reqs.map ao).length := by rw [List.length_append, List.length_map, kf, Nat.zero_add]
       let nv : List Rl × List Rq × Nat × Nat × List V × Nat := (S1 ++ [x], P1 ++ x.reqs, v1 + 1, 0, (oo ++ x.reqs.map ao), j + 1)
       have xI : RI (al l) roots (S1 ++ [x]) (P1 ++ x.reqs) (fun y => y = q) ∧ (q ∈ roots ∨ ∃ a ∈ S1 ++ [x], q ∈ a.reqs) ∧ (oo ++ x.reqs.map ao).drop 0 = (P1 ++ x.reqs).map ao ∧ 0 + (P1 ++ x.reqs).length = (oo ++ x.reqs.map ao).length ∧ (P1 ++ x.reqs).length + cz (al l) (S1 ++ [x]) + 1 ≤ P.length + 1 + cz (al l) S ∧ j + 1 ≤ (bM (al l) q.path).length ∧ ∀ r ∈ (bM (al l) q.path).take (j + 1), has q.set r.aC.place = true → r ∈ S1 ++ [x] := by
        refine ⟨xH, ?_, by rw [ED, kU, List.map_append], by rw [List.length_append]; omega, by rw [List.length_append]; omega, aD, fun r hr hh => ?_⟩
        ·rcases xT with h | ⟨a, ha, h⟩
         ·exact .inl h
         ·exact .inr ⟨a, List.mem_append_left _ ha, h⟩
        ·rw [sf] at hr
         rcases List.mem_append.1 hr with hr | hr
         ·exact List.mem_append_left _ (ke r hr hh)
         ·exact List.mem_append_right _ hr
       simp only [ab,ae,ax,b8,h0,h1,dT,c7,List.length_cons,ao,ak,Nat.add_zero,Int.le_refl,Int.toNat_one,Int.toNat_zero,cI,hw,List.getElem?_map,hx,ag,af,ah,mT,xU,kf,fT,er,List.length_map,go_sem,reduceIte,zA,zB,zC,zD,zE,zF,reduceCtorEq]
       refine qk _ ⟨nv, ?_, ?_, bm (by omega) (by (first | (simp only [nv,hw,List.length_append,List.length_map,ab,ae,ax,go_sem,reduceIte,zA,zB,zC,zD,zE,zF,reduceCtorEq]; done) | (simp only [nv,hw,List.length_append,List.length_map,kf,ab,ae,ax,go_sem,reduceIte,zA,zB,zC,zD,zE,zF,reduceCtorEq]; done)))⟩
       ·exact xI
       ·dsimp only [nv]; omega
      ·obtain ⟨o0, rfl⟩ : ∃ k, o1 = k + 1 := ⟨o1 - 1, by omega⟩
       have fT := ct x.reqs
       have er : P1.length + x.reqs.length ≤ 34359738368 := by omega
       simp only [ab,ae,ax,b8,h0,h1,dT,c7,List.length_cons,ao,ak,Nat.add_zero,Int.le_refl,Int.toNat_one,Int.toNat_zero,cI,hw,List.getElem?_map,hx,ag,af,ah,mT,xU,kd,fT,er,List.length_map,go_sem,reduceIte,zA,zB,zC,zD,zE,zF,reduceCtorEq]
       refine Ww ?_
       intro o2 D6 ED xl
       try rw [List.length_map] at xl
       let nv : List Rl × List Rq × Nat × Nat × List V × Nat := (S1 ++ [x], P1 ++ x.reqs, v1 + 1, o2, D6, j + 1)
       have xI : RI (al l) roots (S1 ++ [x]) (P1 ++ x.reqs) (fun y => y = q) ∧ (q ∈ roots ∨ ∃ a ∈ S1 ++ [x], q ∈ a.reqs) ∧ D6.drop o2 = (P1 ++ x.reqs).map ao ∧ o2 + (P1 ++ x.reqs).length = D6.length ∧ (P1 ++ x.reqs).length + cz (al l) (S1 ++ [x]) + 1 ≤ P.length + 1 + cz (al l) S ∧ j + 1 ≤ (bM (al l) q.path).length ∧ ∀ r ∈ (bM (al l) q.path).take (j + 1), has q.set r.aC.place = true → r ∈ S1 ++ [x] := by
        refine ⟨xH, ?_, by rw [ED, kU, List.map_append], by rw [List.length_append]; omega, by rw [List.length_append]; omega, aD, fun r hr hh => ?_⟩
        ·rcases xT with h | ⟨a, ha, h⟩
         ·exact .inl h
         ·exact .inr ⟨a, List.mem_append_left _ ha, h⟩
        ·rw [sf] at hr
         rcases List.mem_append.1 hr with hr | hr
         ·exact List.mem_append_left _ (ke r hr hh)
         ·exact List.mem_append_right _ hr
       simp only [ab,ae,ax,b8,h0,h1,dT,c7,List.length_cons,ao,ak,Nat.add_zero,Int.le_refl,Int.toNat_one,Int.toNat_zero,cI,hw,List.getElem?_map,hx,ag,af,ah,mT,xU,kd,fT,er,List.length_map,go_sem,reduceIte,zA,zB,zC,zD,zE,zF,reduceCtorEq]
       refine qk _ ⟨nv, ?_, ?_, bm (by omega) (by (first | (simp only [nv,hw,List.length_append,List.length_map,ab,ae,ax,go_sem,reduceIte,zA,zB,zC,zD,zE,zF,reduceCtorEq]; done) | (simp only [nv,hw,List.length_append,List.length_map,kf,ab,ae,ax,go_sem,reduceIte,zA,zB,zC,zD,zE,zF,reduceCtorEq]; done)))⟩
       ·exact xI
       ·dsimp only [nv]; omega
     ·let nv : List Rl × List Rq × Nat × Nat × List V × Nat := (S1, P1, v1, o1, oo, j + 1)
      have xI : RI (al l) roots S1 P1 (fun y => y = q) ∧ (q ∈ roots ∨ ∃ a ∈ S1, q ∈ a.reqs) ∧ oo.drop o1 = P1.map ao ∧ o1 + P1.length = oo.length ∧ P1.length + cz (al l) S1 + 1 ≤ P.length + 1 + cz (al l) S ∧ j + 1 ≤ (bM (al l) q.path).length ∧ ∀ r ∈ (bM (al l) q.path).take (j + 1), has q.set r.aC.place = true → r ∈ S1 := by
       refine ⟨qw, xT, kU, kd, Qs, aD, fun r hr hh => ?_⟩
       rw [sf] at hr
       rcases List.mem_append.1 hr with hr | hr
       ·exact ke r hr hh
       ·rw [List.mem_singleton] at hr; subst hr
        refine (mb (dK l) T4 uw.1).1 ?_
        first | exact lE | (rw [DP, hh] at qx; cases qx)
      simp only [ab,ae,ax,b8,h0,h1,dT,c7,List.length_cons,ao,ak,Nat.add_zero,Int.le_refl,Int.toNat_one,Int.toNat_zero,cI,hw,List.getElem?_map,hx,ag,af,ah,mT,List.length_map,go_sem,reduceIte,zA,zB,zC,zD,zE,zF,reduceCtorEq]
      refine qk _ ⟨nv, ?_, ?_, bm (by omega) (by (first | (simp only [nv,hw,List.length_append,List.length_map,ab,ae,ax,go_sem,reduceIte,zA,zB,zC,zD,zE,zF,reduceCtorEq]; done) | (simp only [nv,hw,List.length_append,List.length_map,kf,ab,ae,ax,go_sem,reduceIte,zA,zB,zC,zD,zE,zF,reduceCtorEq]; done)))⟩
      ·exact xI
      ·dsimp only [nv]; omega
    ·have lE : seen S1 x.key = true := by simpa using oc
     let nv : List Rl × List Rq × Nat × Nat × List V × Nat := (S1, P1, v1, o1, oo, j + 1)
     have xI : RI (al l) roots S1 P1 (fun y => y = q) ∧ (q ∈ roots ∨ ∃ a ∈ S1, q ∈ a.reqs) ∧ oo.drop o1 = P1.map ao ∧ o1 + P1.length = oo.length ∧ P1.length + cz (al l) S1 + 1 ≤ P.length + 1 + cz (al l) S ∧ j + 1 ≤ (bM (al l) q.path).length ∧ ∀ r ∈ (bM (al l) q.path).take (j + 1), has q.set r.aC.place = true → r ∈ S1 := by
      refine ⟨qw, xT, kU, kd, Qs, aD, fun r hr hh => ?_⟩
      rw [sf] at hr
      rcases List.mem_append.1 hr with hr | hr
      ·exact ke r hr hh
      ·rw [List.mem_singleton] at hr; subst hr
       refine (mb (dK l) T4 uw.1).1 ?_
       first | exact lE | (rw [DP, hh] at qx; cases qx)
     simp only [ab,ae,ax,b8,h0,h1,dT,c7,List.length_cons,ao,ak,Nat.add_zero,Int.le_refl,Int.toNat_one,Int.toNat_zero,cI,hw,List.getElem?_map,hx,ag,af,ah,mT,List.length_map,go_sem,reduceIte,zA,zB,zC,zD,zE,zF,reduceCtorEq]
     refine qk _ ⟨nv, ?_, ?_, bm (by omega) (by (first | (simp only [nv,hw,List.length_append,List.length_map,ab,ae,ax,go_sem,reduceIte,zA,zB,zC,zD,zE,zF,reduceCtorEq]; done) | (simp only [nv,hw,List.length_append,List.length_map,kf,ab,ae,ax,go_sem,reduceIte,zA,zB,zC,zD,zE,zF,reduceCtorEq]; done)))⟩
     ·exact xI
     ·dsimp only [nv]; omega
   ·have c5 : ¬ j < (bM (al l) q.path).length := by simpa using mc
    have xH := qw.close fun r hr hh => ke r (by rw [List.take_of_length_le (by omega)]; exact sg.2 ⟨hr, (mG hh).symm⟩) (by unfold jW at hh; simp at hh; exact hh.2)
    simp only [ab,ae,ax,b8,h0,h1,dT,c7,List.length_cons,ao,ak,Nat.add_zero,Int.le_refl,Int.toNat_one,Int.toNat_zero,cI,List.length_map,go_sem,reduceIte,zA,zB,zC,zD,zE,zF,reduceCtorEq]
    refine bW _ ⟨(S1, P1, v1, o1, oo), ?_, ?_, bm (by omega) (by (simp only [ab,ae,ax,go_sem,reduceIte,zA,zB,zC,zD,zE,zF,reduceCtorEq]))⟩
    ·exact ⟨xH, kU, kd, by dsimp only; omega⟩
    ·dsimp only; omega
  ·have cI := fun (mem : List aw) (b : Nat) hm => mR (al l) q.path (mem := mem) (b := b) hm
   simp only [if_neg gJ] at cI
   have Al : bM (al l) q.path = [] := by have h := kS gJ; unfold bQ at h; simpa using h
   simp only [ab,ae,ax,b8,h0,h1,dT,c7,List.length_cons,ao,ak,Nat.add_zero,Int.le_refl,Int.toNat_one,Int.toNat_zero,cI,List.length_map,go_sem,reduceIte,zA,zB,zC,zD,zE,zF,reduceCtorEq]
   refine rM (v' := .slice ((bM (al l) q.path).map ag)) 35 (by decide) rfl (by rw [Al]; rfl) ?_
   refine HI (v' := num ((bM (al l) q.path).length : Int)) 36 (by rw [Al]; rfl) ?_
   refine cO tt_ok [] (fun b : List Rl × List Rq × Nat × Nat × List V × Nat => [(2, .ptr 0 0), (5, .ptr 5 0), (7, .mp 6), (8, .ms 7 b.2.2.1 b.2.2.2.1 b.2.1.length), (9, .ptr 8 0), (35, .slice ((bM (al l) q.path).map ag)), (36, num (bM (al l) q.path).length), (37, num b.2.2.2.2.2)]) (fun b : List Rl × List Rq × Nat × Nat × List V × Nat => [.box [.slice (l.map ag), .slice I], .box [.slice (l.map ag), .slice I], .box [.mp 3, .mp 4], .map (bE aN 0 (gK (al l))) (gK (al l)).length, .map (bE strVal 0 (gP (al l))) (aA (al l)).length, .box [.mp 3, .mp 4], .map (bE aN 0 (gS b.1)) (gS b.1).length, .rows b.2.2.1 2 b.2.2.2.2.1, .box [str q.path, .slice (q.set.map aj)]]) (fun b => (bM (al l) q.path).length - b.2.2.2.2.2) (fun b => RI (al l) roots b.1 b.2.1 (fun x => x = q) ∧ (q ∈ roots ∨ ∃ a ∈ b.1, q ∈ a.reqs) ∧ b.2.2.2.2.1.drop b.2.2.2.1 = b.2.1.map ao ∧ b.2.2.2.1 + b.2.1.length = b.2.2.2.2.1.length ∧ b.2.1.length + cz (al l) b.1 + 1 ≤ P.length + 1 + cz (al l) S ∧ b.2.2.2.2.2 ≤ (bM (al l) q.path).length ∧ ∀ r ∈ (bM (al l) q.path).take b.2.2.2.2.2, has q.set r.aC.place = true → r ∈ b.1) ((S, P, v, o + 1, rs, 0)) 9 (bm (by omega) (by simp only [ab,ae,ax,b8,h0,h1,dT,c7,List.length_cons,ao,ak,Nat.add_zero,Int.le_refl,Int.toNat_one,Int.toNat_zero,cI,List.length_map,Int.cast_ofNat_Int,go_sem,reduceIte,zA,zB,zC,zD,zE,zF,reduceCtorEq] <;> rfl)) (⟨IJ, hq, kU, kd, by dsimp only; omega, Nat.zero_le _, fun r hr => by simp at hr⟩) ?_
   rintro ⟨S1, P1, v1, o1, oo, j⟩ ⟨qw, xT, kU, kd, Qs, hj, ke⟩
   try dsimp only at qw xT kU kd Qs hj ke ⊢
   intro Z3 FF
   simp only [ab,ae,ax,b8,h0,h1,dT,c7,List.length_cons,ao,ak,Nat.add_zero,Int.le_refl,Int.toNat_one,Int.toNat_zero,cI,List.length_map,go_sem,reduceIte,zA,zB,zC,zD,zE,zF,reduceCtorEq]
   refine aM (fun mc => ?_) (fun mc => ?_)
   ·have aD : j < (bM (al l) q.path).length := by simpa using mc
    have Ak : (bM (al l) q.path).length ≤ 256 := Nat.le_trans (List.length_filter_le _ _) (eJ l)
    have hw := aB j (by omega)
    obtain ⟨x, hx⟩ : ∃ x, (bM (al l) q.path)[j]? = some x := ⟨_, List.getElem?_eq_getElem aD⟩
    have uw := sg.1 (List.mem_of_getElem? hx)
    have DP : x.aC.pl = x.aC.place := by unfold da.pl; rw [if_pos (uc uw.1)]
    have mT := fun (mem : List aw) (b : Nat) hm => ua S1 x.key (mem := mem) (b := b) hm
    simp only [ln] at mT
    have sf : (bM (al l) q.path).take (j + 1) = (bM (al l) q.path).take j ++ [x] := ix hx
    have T4 : ∀ r ∈ S1, r ∈ al l := fun r hr => (qw.sub r hr).mem
    simp only [ab,ae,ax,b8,h0,h1,dT,c7,List.length_cons,ao,ak,Nat.add_zero,Int.le_refl,Int.toNat_one,Int.toNat_zero,cI,hw,List.getElem?_map,hx,ag,af,ah,mT,List.length_map,go_sem,reduceIte,zA,zB,zC,zD,zE,zF,reduceCtorEq]
    refine bI tt_ok aK [⟨.n, 0, [], [], []⟩, ⟨.r, 0, [], [], []⟩, ⟨.n, 0, [], [], []⟩, ⟨.r, 0, [], [], []⟩, ⟨.n, 0, [], [], []⟩, ⟨.n, 0, [], [], []⟩, ⟨.n, 0, [], [], []⟩, ⟨.r, 0, [], [], []⟩, ⟨.r, 0, [], [], []⟩, ⟨.n, 0, [], [], []⟩, ⟨.n, 0, [], [], []⟩, ⟨.n, 0, [], [], []⟩] 0 (by kernel_rfl) ?_
    simp only [ab,ae,ax,b8,h0,h1,dT,c7,List.length_cons,ao,ak,Nat.add_zero,Int.le_refl,Int.toNat_one,Int.toNat_zero,cI,hw,List.getElem?_map,hx,ag,af,ah,mT,List.length_map,go_sem,reduceIte,zA,zB,zC,zD,zE,zF,reduceCtorEq]
    refine cG (by have h := kO x; simp only [ag,af,ah,br] at h; exact h) ?_
    rintro _ rfl
    simp only [ab,ae,ax,b8,h0,h1,dT,c7,List.length_cons,ao,ak,Nat.add_zero,Int.le_refl,Int.toNat_one,Int.toNat_zero,cI,hw,List.getElem?_map,hx,ag,af,ah,mT,List.length_map,go_sem,reduceIte,zA,zB,zC,zD,zE,zF,reduceCtorEq]
    refine aM (fun oc => ?_) (fun oc => ?_)
    ·simp only [ab,ae,ax,b8,h0,h1,dT,c7,List.length_cons,ao,ak,Nat.add_zero,Int.le_refl,Int.toNat_one,Int.toNat_zero,cI,hw,List.getElem?_map,hx,ag,af,ah,mT,List.length_map,go_sem,reduceIte,zA,zB,zC,zD,zE,zF,reduceCtorEq]
     refine cG (by have h := iS x; simp only [ag,af,ah] at h; exact h) ?_
     rintro _ rfl
     simp only [ab,ae,ax,b8,h0,h1,dT,c7,List.length_cons,ao,ak,Nat.add_zero,Int.le_refl,Int.toNat_one,Int.toNat_zero,cI,hw,List.getElem?_map,hx,ag,af,ah,mT,List.length_map,go_sem,reduceIte,zA,zB,zC,zD,zE,zF,reduceCtorEq]
     refine cG (by have h := B8 q.set x.aC.pl J1.2; simp only [ak] at h; exact h) ?_
     rintro _ rfl
     simp only [ab,ae,ax,b8,h0,h1,dT,c7,List.length_cons,ao,ak,Nat.add_zero,Int.le_refl,Int.toNat_one,Int.toNat_zero,cI,hw,List.getElem?_map,hx,ag,af,ah,mT,List.length_map,go_sem,reduceIte,zA,zB,zC,zD,zE,zF,reduceCtorEq]
     refine aM (fun qx => ?_) (fun qx => ?_)
     ·have T5 : seen S1 x.key = false := by simpa using oc
      have Qt : has q.set x.aC.place = true := by rw [← DP]; simpa using qx
      have IK : jW q x = true := by unfold jW; rw [Qt, uw.2]; simp
      have xH := qw.Xu xT uw.1 IK
      have YK := qv (dK l) uw.1 T5
      have YL := mS uw.1
      have xU := fun (mem : List aw) (b : Nat) hm => Ai T5 (mem := mem) (b := b) hm
      simp only [ln] at xU
      simp only [ab,ae,ax,b8,h0,h1,dT,c7,List.length_cons,ao,ak,Nat.add_zero,Int.le_refl,Int.toNat_one,Int.toNat_zero,cI,hw,List.getElem?_map,hx,ag,af,ah,mT,xU,List.length_map,go_sem,reduceIte,zA,zB,zC,zD,zE,zF,reduceCtorEq]
      refine cF (by have h := kO x; simp only [ag,af,ah,br] at h; exact h) ?_
      rintro _ rfl
      rcases Nat.eq_zero_or_pos o1 with rfl | kl
      ·have kf : oo.length = P1.length := by omega
       have fT := ct x.reqs
       have er : P1.length + x.reqs.length ≤ 34359738368 := by omega
       have ED : (oo ++ x.reqs.map ao).drop 0 = oo.drop 0 ++ x.reqs.map ao := rfl
       have xl : 0 + (P1.length + x.reqs.length) = (oo ++ x.reqs.map ao).length := by rw [List.length_append, List.length_map, kf, Nat.zero_add]
       let nv : List Rl × List Rq × Nat × Nat × List V × Nat := (S1 ++ [x], P1 ++ x.reqs, v1 + 1, 0, (oo ++ x.reqs.map ao), j + 1)
       have xI : RI (al l) roots (S1 ++ [x]) (P1 ++ x.reqs) (fun y => y = q) ∧ (q ∈ roots ∨ ∃ a ∈ S1 ++ [x], q ∈ a.reqs) ∧ (oo ++ x.reqs.map ao).drop 0 = (P1 ++ x.reqs).map ao ∧ 0 + (P1 ++ x.reqs).length = (oo ++ x.reqs.map ao).length ∧ (P1 ++ x.reqs).length + cz (al l) (S1 ++ [x]) + 1 ≤ P.length + 1 + cz (al l) S ∧ j + 1 ≤ (bM (al l) q.path).length ∧ ∀ r ∈ (bM (al l) q.path).take (j + 1), has q.set r.aC.place = true → r ∈ S1 ++ [x] := by
        refine ⟨xH, ?_, by rw [ED, kU, List.map_append], by rw [List.length_append]; omega, by rw [List.length_append]; omega, aD, fun r hr hh => ?_⟩
        ·rcases xT with h | ⟨a, ha, h⟩
         ·exact .inl h
         ·exact .inr ⟨a, List.mem_append_left _ ha, h⟩
        ·rw [sf] at hr
         rcases List.mem_append.1 hr with hr | hr
         ·exact List.mem_append_left _ (ke r hr hh)
         ·exact List.mem_append_right _ hr
       simp only [ab,ae,ax,b8,h0,h1,dT,c7,List.length_cons,ao,ak,Nat.add_zero,Int.le_refl,Int.toNat_one,Int.toNat_zero,cI,hw,List.getElem?_map,hx,ag,af,ah,mT,xU,kf,fT,er,List.length_map,go_sem,reduceIte,zA,zB,zC,zD,zE,zF,reduceCtorEq]
       refine FF _ ⟨nv, ?_, ?_, bm (by omega) (by (first | (simp only [nv,hw,List.length_append,List.length_map,ab,ae,ax,go_sem,reduceIte,zA,zB,zC,zD,zE,zF,reduceCtorEq]; done) | (simp only [nv,hw,List.length_append,List.length_map,kf,ab,ae,ax,go_sem,reduceIte,zA,zB,zC,zD,zE,zF,reduceCtorEq]; done)))⟩
       ·exact xI
       ·dsimp only [nv]; omega
      ·obtain ⟨o0, rfl⟩ : ∃ k, o1 = k + 1 := ⟨o1 - 1, by omega⟩
       have fT := ct x.reqs
       have er : P1.length + x.reqs.length ≤ 34359738368 := by omega
       simp only [ab,ae,ax,b8,h0,h1,dT,c7,List.length_cons,ao,ak,Nat.add_zero,Int.le_refl,Int.toNat_one,Int.toNat_zero,cI,hw,List.getElem?_map,hx,ag,af,ah,mT,xU,kd,fT,er,List.length_map,go_sem,reduceIte,zA,zB,zC,zD,zE,zF,reduceCtorEq]
       refine Ww ?_
       intro o2 D6 ED xl
       try rw [List.length_map] at xl
       let nv : List Rl × List Rq × Nat × Nat × List V × Nat := (S1 ++ [x], P1 ++ x.reqs, v1 + 1, o2, D6, j + 1)
       have xI : RI (al l) roots (S1 ++ [x]) (P1 ++ x.reqs) (fun y => y = q) ∧ (q ∈ roots ∨ ∃ a ∈ S1 ++ [x], q ∈ a.reqs) ∧ D6.drop o2 = (P1 ++ x.reqs).map ao ∧ o2 + (P1 ++ x.reqs).length = D6.length ∧ (P1 ++ x.reqs).length + cz (al l) (S1 ++ [x]) + 1 ≤ P.length + 1 + cz (al l) S ∧ j + 1 ≤ (bM (al l) q.path).length ∧ ∀ r ∈ (bM (al l) q.path).take (j + 1), has q.set r.aC.place = true → r ∈ S1 ++ [x] := by
        refine ⟨xH, ?_, by rw [ED, kU, List.map_append], by rw [List.length_append]; omega, by rw [List.length_append]; omega, aD, fun r hr hh => ?_⟩
        ·rcases xT with h | ⟨a, ha, h⟩
         ·exact .inl h
         ·exact .inr ⟨a, List.mem_append_left _ ha, h⟩
        ·rw [sf] at hr
         rcases List.mem_append.1 hr with hr | hr
         ·exact List.mem_append_left _ (ke r hr hh)
         ·exact List.mem_append_right _ hr
       simp only [ab,ae,ax,b8,h0,h1,dT,c7,List.length_cons,ao,ak,Nat.add_zero,Int.le_refl,Int.toNat_one,Int.toNat_zero,cI,hw,List.getElem?_map,hx,ag,af,ah,mT,xU,kd,fT,er,List.length_map,go_sem,reduceIte,zA,zB,zC,zD,zE,zF,reduceCtorEq]
       refine FF _ ⟨nv, ?_, ?_, bm (by omega) (by (first | (simp only [nv,hw,List.length_append,List.length_map,ab,ae,ax,go_sem,reduceIte,zA,zB,zC,zD,zE,zF,reduceCtorEq]; done) | (simp only [nv,hw,List.length_append,List.length_map,kf,ab,ae,ax,go_sem,reduceIte,zA,zB,zC,zD,zE,zF,reduceCtorEq]; done)))⟩
       ·exact xI
       ·dsimp only [nv]; omega
     ·let nv : List Rl × List Rq × Nat × Nat × List V × Nat := (S1, P1, v1, o1, oo, j + 1)
      have xI : RI (al l) roots S1 P1 (fun y => y = q) ∧ (q ∈ roots ∨ ∃ a ∈ S1, q ∈ a.reqs) ∧ oo.drop o1 = P1.map ao ∧ o1 + P1.length = oo.length ∧ P1.length + cz (al l) S1 + 1 ≤ P.length + 1 + cz (al l) S ∧ j + 1 ≤ (bM (al l) q.path).length ∧ ∀ r ∈ (bM (al l) q.path).take (j + 1), has q.set r.aC.place = true → r ∈ S1 := by
       refine ⟨qw, xT, kU, kd, Qs, aD, fun r hr hh => ?_⟩
       rw [sf] at hr
       rcases List.mem_append.1 hr with hr | hr
       ·exact ke r hr hh
       ·rw [List.mem_singleton] at hr; subst hr
        refine (mb (dK l) T4 uw.1).1 ?_
        first | exact lE | (rw [DP, hh] at qx; cases qx)
      simp only [ab,ae,ax,b8,h0,h1,dT,c7,List.length_cons,ao,ak,Nat.add_zero,Int.le_refl,Int.toNat_one,Int.toNat_zero,cI,hw,List.getElem?_map,hx,ag,af,ah,mT,List.length_map,go_sem,reduceIte,zA,zB,zC,zD,zE,zF,reduceCtorEq]
      refine FF _ ⟨nv, ?_, ?_, bm (by omega) (by (first | (simp only [nv,hw,List.length_append,List.length_map,ab,ae,ax,go_sem,reduceIte,zA,zB,zC,zD,zE,zF,reduceCtorEq]; done) | (simp only [nv,hw,List.length_append,List.length_map,kf,ab,ae,ax,go_sem,reduceIte,zA,zB,zC,zD,zE,zF,reduceCtorEq]; done)))⟩
      ·exact xI
      ·dsimp only [nv]; omega
    ·have lE : seen S1 x.key = true := by simpa using oc
     let nv : List Rl × List Rq × Nat × Nat × List V × Nat := (S1, P1, v1, o1, oo, j + 1)
     have xI : RI (al l) roots S1 P1 (fun y => y = q) ∧ (q ∈ roots ∨ ∃ a ∈ S1, q ∈ a.reqs) ∧ oo.drop o1 = P1.map ao ∧ o1 + P1.length = oo.length ∧ P1.length + cz (al l) S1 + 1 ≤ P.length + 1 + cz (al l) S ∧ j + 1 ≤ (bM (al l) q.path).length ∧ ∀ r ∈ (bM (al l) q.path).take (j + 1), has q.set r.aC.place = true → r ∈ S1 := by
      refine ⟨qw, xT, kU, kd, Qs, aD, fun r hr hh => ?_⟩
      rw [sf] at hr
      rcases List.mem_append.1 hr with hr | hr
      ·exact ke r hr hh
      ·rw [List.mem_singleton] at hr; subst hr
       refine (mb (dK l) T4 uw.1).1 ?_
       first | exact lE | (rw [DP, hh] at qx; cases qx)
     simp only [ab,ae,ax,b8,h0,h1,dT,c7,List.length_cons,ao,ak,Nat.add_zero,Int.le_refl,Int.toNat_one,Int.toNat_zero,cI,hw,List.getElem?_map,hx,ag,af,ah,mT,List.length_map,go_sem,reduceIte,zA,zB,zC,zD,zE,zF,reduceCtorEq]
     refine FF _ ⟨nv, ?_, ?_, bm (by omega) (by (first | (simp only [nv,hw,List.length_append,List.length_map,ab,ae,ax,go_sem,reduceIte,zA,zB,zC,zD,zE,zF,reduceCtorEq]; done) | (simp only [nv,hw,List.length_append,List.length_map,kf,ab,ae,ax,go_sem,reduceIte,zA,zB,zC,zD,zE,zF,reduceCtorEq]; done)))⟩
     ·exact xI
     ·dsimp only [nv]; omega
   ·have c5 : ¬ j < (bM (al l) q.path).length := by simpa using mc
    have xH := qw.close fun r hr hh => ke r (by rw [List.take_of_length_le (by omega)]; exact sg.2 ⟨hr, (mG hh).symm⟩) (by unfold jW at hh; simp at hh; exact hh.2)
    simp only [ab,ae,ax,b8,h0,h1,dT,c7,List.length_cons,ao,ak,Nat.add_zero,Int.le_refl,Int.toNat_one,Int.toNat_zero,cI,List.length_map,go_sem,reduceIte,zA,zB,zC,zD,zE,zF,reduceCtorEq]
    refine bW _ ⟨(S1, P1, v1, o1, oo), ?_, ?_, bm (by omega) (by (simp only [ab,ae,ax,go_sem,reduceIte,zA,zB,zC,zD,zE,zF,reduceCtorEq]))⟩
    ·exact ⟨xH, kU, kd, by dsimp only; omega⟩
    ·dsimp only; omega
 ·obtain rfl : P = [] := by
   cases P with
   | nil => rfl
   | cons q r => simp at gU
  obtain ⟨ks, M6⟩ : ∃ ks : Nat → List fP, ks = fun i => ((l.take i).filter fun r => seen S r.key).map Rl.key := ⟨_, rfl⟩
  have Xv : ks 0 = [] := by rw [M6]; rfl
  simp only [ab,ae,ax,List.length_map,go_sem,reduceIte,zA,zB,zC,zD,zE,zF,reduceCtorEq]
  refine zh 12 0 4 (by decide) rfl ?_
  refine cO tt_ok [] (fun i : Nat => [(7, .mp 6), (12, .ms 8 (ks i).length 0 (ks i).length), (62, .slice (l.map ag)), (63, num l.length), (64, num i)]) (fun i : Nat => [.box [.slice (l.map ag), .slice I], .box [.slice (l.map ag), .slice I], .box [.mp 3, .mp 4], .map (bE aN 0 (gK (al l))) (gK (al l)).length, .map (bE strVal 0 (gP (al l))) (aA (al l)).length, .box [.mp 3, .mp 4], .map (bE aN 0 (gS S)) (gS S).length, .rows v 2 rs, .rows (ks i).length 4 ((ks i).map br)]) (fun i => l.length - i) (fun i => i ≤ l.length) (0) 9 (bm (by omega) (by simp only [ab,ae,ax,List.length_map,Xv,List.map_nil,List.length_nil,Int.cast_ofNat_Int,go_sem,reduceIte,zA,zB,zC,zD,zE,zF,reduceCtorEq] <;> rfl)) (Nat.zero_le _) ?_
  intro i hi
  try dsimp only at hi ⊢
  intro Z4 YM
  simp only [ab,ae,ax,List.length_map,go_sem,reduceIte,zA,zB,zC,zD,zE,zF,reduceCtorEq]
  refine aM (fun Qu => ?_) (fun Qu => ?_)
  ·have aD : i < l.length := by simpa using Qu
   have hw := aB i (by omega)
   obtain ⟨x, hx⟩ : ∃ x, l[i]? = some x := ⟨_, List.getElem?_eq_getElem aD⟩
   have L2 : ks (i + 1) = ks i ++ (if seen S x.key = true then [x.key] else []) := by
    rw [M6]
    dsimp only
    rw [ix hx, List.filter_append, List.map_append]
    by_cases Da : seen S x.key = true <;> simp [Da]
   have mT := fun (mem : List aw) (b : Nat) hm => ua S x.key (mem := mem) (b := b) hm
   simp only [ln] at mT
   have UO : (ks i).length ≤ 1048576 := by
    rw [M6]
    dsimp only
    rw [List.length_map]
    exact Nat.le_trans (List.length_filter_le _ _) (by rw [List.length_take]; have := hb.1; omega)
   have dC : (ks i).length + 1 ≤ 34359738368 := by omega
   simp only [ab,ae,ax,hw,List.getElem?_map,hx,ag,af,ah,mT,dC,List.length_cons,List.length_nil,Nat.zero_add,List.length_map,go_sem,reduceIte,zA,zB,zC,zD,zE,zF,reduceCtorEq]
   refine cF (by have h := kO x; simp only [ag,af,ah,br] at h; exact h) ?_
   rintro _ rfl
   simp only [ab,ae,ax,hw,List.getElem?_map,hx,ag,af,ah,mT,dC,List.length_cons,List.length_nil,Nat.zero_add,List.length_map,go_sem,reduceIte,zA,zB,zC,zD,zE,zF,reduceCtorEq]
   refine aM (fun Qv => ?_) (fun Qv => ?_)
   ·rw [if_pos (by simpa using Qv)] at L2
    have fT : bY [V.agg [str x.key.path, num x.key.aC.mj, num x.key.aC.mn, num x.key.aC.pt]] 0 4 = true := rfl
    simp only [ab,ae,ax,hw,List.getElem?_map,hx,ag,af,ah,mT,dC,List.length_cons,List.length_nil,Nat.zero_add,fT,List.length_map,go_sem,reduceIte,zA,zB,zC,zD,zE,zF,reduceCtorEq]
    refine cF (by have h := kO x; simp only [ag,af,ah,br] at h; exact h) ?_
    rintro _ rfl
    simp only [ab,ae,ax,hw,List.getElem?_map,hx,ag,af,ah,mT,dC,List.length_cons,List.length_nil,Nat.zero_add,fT,List.length_map,go_sem,reduceIte,zA,zB,zC,zD,zE,zF,reduceCtorEq]
    refine YM _ ⟨i + 1, ?_, ?_, bm (by omega) (by (simp only [L2,hw,List.map_append,List.map_cons,List.map_nil,List.length_append,List.length_map,List.length_cons,List.length_nil,Nat.zero_add,br,ab,ae,ax,go_sem,reduceIte,zA,zB,zC,zD,zE,zF,reduceCtorEq]))⟩
    ·exact aD
    ·omega
   ·rw [if_neg (by simpa using Qv), List.append_nil] at L2
    simp only [ab,ae,ax,hw,List.getElem?_map,hx,ag,af,ah,mT,dC,List.length_cons,List.length_nil,Nat.zero_add,List.length_map,go_sem,reduceIte,zA,zB,zC,zD,zE,zF,reduceCtorEq]
    refine YM _ ⟨i + 1, ?_, ?_, bm (by omega) (by (simp only [L2,hw,List.map_append,List.map_cons,List.map_nil,List.length_append,List.length_map,List.length_cons,List.length_nil,Nat.zero_add,br,ab,ae,ax,go_sem,reduceIte,zA,zB,zC,zD,zE,zF,reduceCtorEq]))⟩
    ·exact aD
    ·omega
  ·have c5 : ¬ i < l.length := by simpa using Qu
   have rD : i = l.length := by omega
   subst rD
   have ay : ks l.length = (dn (al l) roots).map Rl.key := by
    rw [M6]
    dsimp only
    rw [List.take_length, ub II (dK l)]
    unfold al
    split
    ·rfl
    ·rename_i Xw
     have hS0 : S = [] := by
      cases S with
      | nil => rfl
      | cons a t => have h := (II.sub a (by simp)).mem; unfold al at h; rw [if_neg Xw] at h; simp at h
     subst hS0
     simp [seen]
   simp only [ab,ae,ax,List.length_map,go_sem,reduceIte,zA,zB,zC,zD,zE,zF,reduceCtorEq]
   refine hK _ ?_
   try simp only [jO,Tryz.f13,gh,jN,lL,yv,List.length_map,List.take_length,← ay,bZ,go_sem,reduceIte,zA,zB,zC,zD,zE,zF,reduceCtorEq]
   simp [dO, bu]
   exact List.take_of_length_le (by simp)
end Go.Proofs.YtnfeacnbgbggfaaGreatDoor
end

section
namespace Go.Proofs.YtnfeacnbgbggfaaGreatDoor
open Go.Eng
open Nat renaming reduceAdd → zA, reduceLT → zB, reduceLeDiff → zC, reduceMul → zD, reduceEqDiff → zE, reduceSub → zF
variable [aH]
set_option maxHeartbeats 4000000
set_option maxRecDepth 100000
def ry (q : Rq) : Bool := !(decide (100 < q.path.size) || decide (8 < q.set.length))
def ud (l : List Rq) : Bool := l.all ry && decide (l.length ≤ 20)
def jv (r : Rl) : Bool := !(decide (100 < r.path.size) || decide (100 < r.ar.size) || decide (100 < r.gq.size) || decide (100 < r.ce.size) || !ud r.reqs)
def ng (l : List Rl) (n : Nat) : Bool := l.all jv && decide (l.length ≤ n)
theorem od {α : Type} {l : List α} {p : α → Bool} {i : Nat} {x : α} (h : l[i]? = some x) (hx : p x = false) : l.all p = false := by
 rw [List.all_eq_false]
 exact ⟨x, List.mem_of_getElem? h, by simp [hx]⟩
theorem D7 {α : Type} {l : List α} {p : α → Bool} {i : Nat} (hi : ¬ i < l.length) (h : ∀ j < i, ∀ x, l[j]? = some x → p x = true) : l.all p = true := by
 rw [List.all_eq_true]
 intro x hx
 obtain ⟨j, hj, rfl⟩ := List.getElem_of_mem hx
 exact h j (by omega) _ (List.getElem?_eq_getElem hj)
theorem L3 (l : List Rq) (hl : l.length ≤ 1048576) : ∃ r_, (fun w => w = bl (ud l)) r_ ∧ aO Tryz.prog 11 [ah l] r_ := by
 refine ef tt_ok [] 29 [.tmp 2] (fn := Tryz.f11) Tryz.func11 rfl Tryz.call11 ⟨rfl, rfl, by simp⟩ fun K hK => ?_
 have fu : Tryz.prog.underlying 9 = some .string := by kernel_rfl
 have sl : ∀ (a : ByteArray) (ty : TypeId), cH Tryz.prog (Builtin.len_ #[9] ty) [.sc (.string a)] = some (num a.size) := fun a ty => ck (P := Tryz.prog) (tt := tt) (T := 9) a fu ty
 simp only [ah]
 simp only [sl,List.length_map,go_sem,reduceIte,zA,zB,zC,zD,zE,zF,reduceCtorEq]
 refine bL tt_ok [] [3] 0 [0] (fun vs => ((l.length : Int) - Go.Eng.intOf (vs.headD .undef)).toNat) (fun vs => ∃ i : Nat, vs = [num i] ∧ i ≤ l.length ∧ ∀ j < i, ∀ x, l[j]? = some x → ry x = true) (by omega) (by simp only [sl,List.length_map,go_sem,reduceIte,zA,zB,zC,zD,zE,zF,reduceCtorEq]) (⟨0, rfl, Nat.zero_le _, fun j hj => absurd hj (Nat.not_lt_zero j)⟩) fun vs hI Z1 bW => ?_
 obtain ⟨i, rfl, hi, bh⟩ := hI
 simp only [sl,List.length_map,go_sem,reduceIte,zA,zB,zC,zD,zE,zF,reduceCtorEq]
 refine aM (fun HN => ?_) (fun HN => ?_)
 ·have aD : i < l.length := by simpa using HN
  have hw := aB i (by omega)
  obtain ⟨x, hx⟩ : ∃ x, l[i]? = some x := ⟨_, List.getElem?_eq_getElem aD⟩
  simp only [hw,List.getElem?_map,hx,ao,ak,sl,List.length_map,go_sem,reduceIte,zA,zB,zC,zD,zE,zF,reduceCtorEq]
  refine aM (fun IL => ?_) (fun IL => ?_)
  ·have jA : ry x = false := by unfold ry; simp_all <;> omega
   have ay : false = ud l := by unfold ud; rw [od hx jA]; rfl
   simp only [hw,List.getElem?_map,hx,ao,ak,sl,List.length_map,go_sem,reduceIte,zA,zB,zC,zD,zE,zF,reduceCtorEq]
   exact hK _ (congrArg bl ay)
  ·simp only [hw,List.getElem?_map,hx,ao,ak,sl,List.length_map,go_sem,reduceIte,zA,zB,zC,zD,zE,zF,reduceCtorEq]
   refine aM (fun gU => ?_) (fun gU => ?_)
   ·have jA : ry x = false := by unfold ry; simp_all <;> omega
    have ay : false = ud l := by unfold ud; rw [od hx jA]; rfl
    simp only [hw,List.getElem?_map,hx,ao,ak,sl,List.length_map,go_sem,reduceIte,zA,zB,zC,zD,zE,zF,reduceCtorEq]
    exact hK _ (congrArg bl ay)
   ·simp only [hw,List.getElem?_map,hx,ao,ak,sl,List.length_map,go_sem,reduceIte,zA,zB,zC,zD,zE,zF,reduceCtorEq]
    refine bW _ (dD (by omega) (by simp only [hw,List.getElem?_map,hx,ao,ak,sl,List.length_map,go_sem,reduceIte,zA,zB,zC,zD,zE,zF,reduceCtorEq]) ?_ ?_) <;> simp only [gQ,lk,reduceIte,zE]
    ·refine ⟨i + 1, rfl, aD, fun j hj => ?_⟩
     rcases Nat.lt_or_ge j i with h | h
     ·exact bh j h
     ·obtain rfl : j = i := by omega
      intro y hy
      rw [hx] at hy; cases hy; unfold ry; simp_all <;> omega
    ·simp only [Go.Eng.intOf,List.headD_cons]; omega
 ·have c5 : ¬ i < l.length := by simpa using HN
  have hlen : decide ((l.length : Int) ≤ 20) = decide (l.length ≤ 20) := by rw [Bool.eq_iff_iff, decide_eq_true_eq, decide_eq_true_eq]; omega
  have ay : decide ((l.length : Int) ≤ 20) = ud l := by rw [hlen]; unfold ud; rw [D7 c5 bh]; rfl
  simp only [sl,List.length_map,go_sem,reduceIte,zA,zB,zC,zD,zE,zF,reduceCtorEq]
  exact hK _ (congrArg bl ay)
theorem L4 (l : List Rl) (n : Nat) (hb : ux l) : ∃ r_, (fun w => w = bl (ng l n)) r_ ∧ aO Tryz.prog 10 [aV l, num (n : Nat)] r_ := by
 refine ef tt_ok [] 59 [.tmp 4] (fn := Tryz.f10) Tryz.func10 rfl Tryz.call10 ⟨rfl, rfl, by simp⟩ fun K hK => ?_
 have AP := hb.1
 have fu : Tryz.prog.underlying 9 = some .string := by kernel_rfl
 have sl : ∀ (a : ByteArray) (ty : TypeId), cH Tryz.prog (Builtin.len_ #[9] ty) [.sc (.string a)] = some (num a.size) := fun a ty => ck (P := Tryz.prog) (tt := tt) (T := 9) a fu ty
 simp only [aV]
 simp only [sl,List.length_map,go_sem,reduceIte,zA,zB,zC,zD,zE,zF,reduceCtorEq]
 refine bL tt_ok [] [5] 0 [0,1] (fun vs => ((l.length : Int) - Go.Eng.intOf (vs.headD .undef)).toNat) (fun vs => ∃ i : Nat, vs = [num i] ∧ i ≤ l.length ∧ ∀ j < i, ∀ x, l[j]? = some x → jv x = true) (by omega) (by simp only [sl,List.length_map,go_sem,reduceIte,zA,zB,zC,zD,zE,zF,reduceCtorEq]) (⟨0, rfl, Nat.zero_le _, fun j hj => absurd hj (Nat.not_lt_zero j)⟩) fun vs hI Z1 bW => ?_
 obtain ⟨i, rfl, hi, bh⟩ := hI
 simp only [sl,List.length_map,go_sem,reduceIte,zA,zB,zC,zD,zE,zF,reduceCtorEq]
 refine aM (fun jG => ?_) (fun jG => ?_)
 ·have aD : i < l.length := by simpa using jG
  have hw := aB i (by omega)
  obtain ⟨x, hx⟩ : ∃ x, l[i]? = some x := ⟨_, List.getElem?_eq_getElem aD⟩
  simp only [hw,List.getElem?_map,hx,ag,af,ah,sl,List.length_map,go_sem,reduceIte,zA,zB,zC,zD,zE,zF,reduceCtorEq]
  refine aM (fun IL => ?_) (fun IL => ?_)
  ·have jA : jv x = false := by unfold jv; simp_all <;> omega
   have ay : false = ng l n := by unfold ng; rw [od hx jA]; rfl
   simp only [hw,List.getElem?_map,hx,ag,af,ah,sl,List.length_map,go_sem,reduceIte,zA,zB,zC,zD,zE,zF,reduceCtorEq]
   exact hK _ (congrArg bl ay)
  ·simp only [hw,List.getElem?_map,hx,ag,af,ah,sl,List.length_map,go_sem,reduceIte,zA,zB,zC,zD,zE,zF,reduceCtorEq]
   refine aM (fun Qw => ?_) (fun Qw => ?_)
   ·have jA : jv x = false := by unfold jv; simp_all <;> omega
    have ay : false = ng l n := by unfold ng; rw [od hx jA]; rfl
    simp only [hw,List.getElem?_map,hx,ag,af,ah,sl,List.length_map,go_sem,reduceIte,zA,zB,zC,zD,zE,zF,reduceCtorEq]
    exact hK _ (congrArg bl ay)
   ·simp only [hw,List.getElem?_map,hx,ag,af,ah,sl,List.length_map,go_sem,reduceIte,zA,zB,zC,zD,zE,zF,reduceCtorEq]
    refine aM (fun Qx => ?_) (fun Qx => ?_)
    ·have jA : jv x = false := by unfold jv; simp_all <;> omega
     have ay : false = ng l n := by unfold ng; rw [od hx jA]; rfl
     simp only [hw,List.getElem?_map,hx,ag,af,ah,sl,List.length_map,go_sem,reduceIte,zA,zB,zC,zD,zE,zF,reduceCtorEq]
     exact hK _ (congrArg bl ay)
    ·simp only [hw,List.getElem?_map,hx,ag,af,ah,sl,List.length_map,go_sem,reduceIte,zA,zB,zC,zD,zE,zF,reduceCtorEq]
     refine aM (fun Qy => ?_) (fun Qy => ?_)
     ·have jA : jv x = false := by unfold jv; simp_all <;> omega
      have ay : false = ng l n := by unfold ng; rw [od hx jA]; rfl
      simp only [hw,List.getElem?_map,hx,ag,af,ah,sl,List.length_map,go_sem,reduceIte,zA,zB,zC,zD,zE,zF,reduceCtorEq]
      exact hK _ (congrArg bl ay)
     ·simp only [hw,List.getElem?_map,hx,ag,af,ah,sl,List.length_map,go_sem,reduceIte,zA,zB,zC,zD,zE,zF,reduceCtorEq]
      refine cF (by have h := L3 x.reqs (hb.2 x (List.mem_of_getElem? hx)).2.1; simp only [ah] at h; exact h) ?_
      rintro _ rfl
      simp only [hw,List.getElem?_map,hx,ag,af,ah,sl,List.length_map,go_sem,reduceIte,zA,zB,zC,zD,zE,zF,reduceCtorEq]
      refine aM (fun qn => ?_) (fun qn => ?_)
      ·have jA : jv x = false := by unfold jv; simp_all <;> omega
       have ay : false = ng l n := by unfold ng; rw [od hx jA]; rfl
       simp only [hw,List.getElem?_map,hx,ag,af,ah,sl,List.length_map,go_sem,reduceIte,zA,zB,zC,zD,zE,zF,reduceCtorEq]
       exact hK _ (congrArg bl ay)
      ·simp only [hw,List.getElem?_map,hx,ag,af,ah,sl,List.length_map,go_sem,reduceIte,zA,zB,zC,zD,zE,zF,reduceCtorEq]
       refine bW _ (dD (by omega) (by simp only [hw,List.getElem?_map,hx,ag,af,ah,sl,List.length_map,go_sem,reduceIte,zA,zB,zC,zD,zE,zF,reduceCtorEq]) ?_ ?_) <;> simp only [gQ,lk,reduceIte,zE]
       ·refine ⟨i + 1, rfl, aD, fun j hj => ?_⟩
        rcases Nat.lt_or_ge j i with h | h
        ·exact bh j h
        ·obtain rfl : j = i := by omega
         intro y hy
         rw [hx] at hy; cases hy; unfold jv; simp_all <;> omega
       ·simp only [Go.Eng.intOf,List.headD_cons]; omega
 ·have c5 : ¬ i < l.length := by simpa using jG
  have hlen : decide ((l.length : Int) ≤ (n : Int)) = decide (l.length ≤ n) := by rw [Bool.eq_iff_iff, decide_eq_true_eq, decide_eq_true_eq]; omega
  have ay : decide ((l.length : Int) ≤ (n : Int)) = ng l n := by rw [hlen]; unfold ng; rw [D7 c5 bh]; rfl
  simp only [sl,List.length_map,go_sem,reduceIte,zA,zB,zC,zD,zE,zF,reduceCtorEq]
  exact hK _ (congrArg bl ay)
end Go.Proofs.YtnfeacnbgbggfaaGreatDoor
end

section
namespace Go.Proofs.YtnfeacnbgbggfaaGreatDoor
open Go.Eng
variable [aH]
set_option maxHeartbeats 4000000
set_option maxRecDepth 100000
theorem L5 {l : List Rq} (h : ud l = true) : l.length ≤ 20 ∧ ∀ q ∈ l, q.path.size ≤ 100 ∧ q.set.length ≤ 8 := by
 unfold ud at h
 rw [Bool.and_eq_true, decide_eq_true_eq, List.all_eq_true] at h
 refine ⟨h.2, fun q hq => ?_⟩
 have := h.1 q hq
 unfold ry at this
 simp only [Bool.not_eq_true',Bool.or_eq_false_iff,decide_eq_false_iff_not] at this
 omega
theorem L6 {l : List Rl} {n : Nat} (h : ng l n = true) : l.length ≤ n ∧ ∀ r ∈ l, r.path.size ≤ 100 ∧ r.ar.size ≤ 100 ∧ r.gq.size ≤ 100 ∧ r.ce.size ≤ 100 ∧ ud r.reqs = true := by
 unfold ng at h
 rw [Bool.and_eq_true, decide_eq_true_eq, List.all_eq_true] at h
 refine ⟨h.2, fun r hr => ?_⟩
 have := h.1 r hr
 unfold jv at this
 simp only [Bool.not_eq_true',Bool.or_eq_false_iff,decide_eq_false_iff_not,Bool.not_eq_false'] at this
 refine ⟨by omega, by omega, by omega, by omega, by simpa using this.2⟩
theorem pC (t : ByteArray) (k : Nat) (h : t.size ≤ k) (hk : k ≤ 1048576) : (eT t).length ≤ k + 10 := by
 unfold eT; rw [List.length_append, eZ]
 have := l4 (n := t.size) (by omega)
 omega
theorem L7 {r : Rl} (hw : U5 r) (h : ng [r] 1 = true) : (qq r).length ≤ 10000 := by
 obtain ⟨h1, h2, h3, h4, h5⟩ := (L6 h).2 r (by simp)
 obtain ⟨h6, h7⟩ := L5 h5
 have hv := sd hw.aC
 have a1 := pC r.path 100 h1 (by decide)
 have a2 := pC r.ar 100 h2 (by decide)
 have a3 := pC r.gq 100 h3 (by decide)
 have a4 := pC r.ce 100 h4 (by decide)
 have a5 := dw (n := r.aC.mn) (by omega) (by omega)
 have a6 := dw (n := r.aC.pt) (by omega) (by omega)
 have a7 := dw (n := xS r) (by have := n4 r; omega) (by have := n4 r; omega)
 have a8 := dw (n := (r.reqs.length : Int)) (by omega) (by omega)
 have a9 := fL (g := vO) (l := r.reqs) (k := 280) fun q hq => by
  obtain ⟨b1, b2⟩ := h7 q hq
  have c1 := pC q.path 100 b1 (by decide)
  have c2 := dw (n := (q.set.length : Int)) (by omega) (by omega)
  have c3 := xx (kQ (hw.reqs q hq))
  unfold vO
  simp only [List.length_append]
  omega
 unfold qq Gh
 simp only [List.length_append]
 omega
theorem L8 {r : Rl} (h : eH [r] = 0) : FE r = .bN [str (bs (qq r)), num 0] := if_pos h
end Go.Proofs.YtnfeacnbgbggfaaGreatDoor
end

section
namespace Go.Proofs.YtnfeacnbgbggfaaGreatDoor
open Go.Eng
open Nat renaming reduceAdd → zA, reduceLT → zB, reduceLeDiff → zC, reduceMul → zD, reduceEqDiff → zE, reduceSub → zF
variable [aH]
set_option maxHeartbeats 4000000
set_option maxRecDepth 100000
def uz (r : Rl) : bB := ⟨r.aC.pl, r.aC.pl + 1⟩
def me (t : List Rl) : List bB := (t.filter fun r => !r.yk).map uz
theorem Am {G : List Rl} {i : Nat} {x : Rl} (h : G[i]? = some x) : me (G.take (i + 1)) = me (G.take i) ++ (if x.yk = true then [] else [uz x]) := by
 unfold me
 rw [List.take_add_one, h, List.filter_append, List.map_append]
 cases hx : x.yk <;> simp [hx]
theorem NF (v : da) : 0 ≤ v.pl ∧ v.pl < 1000000 := by
 unfold da.pl
 split
 ·rename_i h; exact ⟨(iQ h).2.2.1, (iQ h).2.2.2⟩
 ·omega
theorem An (hG : aH.g = some 0) (l : List Rl) (I : List V) (hb : ux l) (p : ByteArray) : aO Tryz.prog 43 [bk l I, str p] (ak (canon (me (bM (al l) p)))) := by
 refine Rf tt_ok [] 39 [.tmp 4] (fn := Tryz.f43) Tryz.func43 rfl Tryz.call43 ⟨rfl, rfl, by simp⟩ fun K hK => ?_
 simp only [bk,aV]
 have AP := hb.1
 simp only [ab,ae,List.length_map,go_sem,reduceIte,zA,zB,zC,zD,zE,zF,reduceCtorEq]
 refine cW (by have h := fm hG l I hb; simp only [bk,aV] at h; exact h _) ?_
 rintro _ _ ⟨rfl, rfl⟩
 try simp only [vC,ND,List.length_cons,List.length_nil,zA]
 by_cases gJ : p ∈ aA (al l)
 ·have cI := fun (mem : List aw) (b : Nat) hm => mR (al l) p (mem := mem) (b := b) hm
  simp only [if_pos gJ,bQ] at cI
  simp only [ab,ae,cI,List.length_map,go_sem,reduceIte,zA,zB,zC,zD,zE,zF,reduceCtorEq]
  refine zh 7 0 2 (by decide) rfl ?_
  refine cO tt_ok [] (fun a : Nat × List bB => [(7, .ms 6 a.2.length 0 a.2.length), (18, .slice ((bM (al l) p).map ag)), (19, num (bM (al l) p).length), (20, num a.1)]) (fun a : Nat × List bB => [.box [.slice (l.map ag), .slice I], .box [.slice (l.map ag), .slice I], .box [.mp 3, .mp 4], .map (bE aN 0 (gK (al l))) (gK (al l)).length, .map (bE strVal 0 (gP (al l))) (aA (al l)).length, .box [.mp 3, .mp 4], .rows a.2.length 2 (a.2.map aj)]) (fun a => (bM (al l) p).length - a.1) (fun a => a.1 ≤ (bM (al l) p).length ∧ a.2 = me ((bM (al l) p).take a.1)) ((0, [])) 7 (bm (by omega) (by simp only [ab,ae,cI,List.length_map,List.map_nil,List.length_nil,Int.cast_ofNat_Int,go_sem,reduceIte,zA,zB,zC,zD,zE,zF,reduceCtorEq] <;> rfl)) (⟨Nat.zero_le _, rfl⟩) ?_
  rintro ⟨i, L⟩ ⟨hi, hL⟩
  try dsimp only at hi hL ⊢
  intro Z1 bW
  simp only [ab,ae,cI,List.length_map,go_sem,reduceIte,zA,zB,zC,zD,zE,zF,reduceCtorEq]
  refine aM (fun gx => ?_) (fun gx => ?_)
  ·have aD : i < (bM (al l) p).length := by simpa using gx
   have Ak : (bM (al l) p).length ≤ 256 := Nat.le_trans (List.length_filter_le _ _) (eJ l)
   have hw := aB i (by omega)
   obtain ⟨x, hx⟩ : ∃ x, (bM (al l) p)[i]? = some x := ⟨_, List.getElem?_eq_getElem aD⟩
   have lE := Am hx
   have hpb := NF x.aC
   have D8 : IntKind.i64.wrap (x.aC.pl + 1) = x.aC.pl + 1 := IntWalk.i64_in _ (by omega)
   have fT : ∀ a b : Int, bY [V.agg [num a, num b]] 0 2 = true := fun _ _ => rfl
   have Ck : L.length ≤ 256 := by
    rw [hL]; unfold me
    rw [List.length_map]
    exact Nat.le_trans (List.length_filter_le _ _) (by rw [List.length_take]; omega)
   have er : L.length + 1 ≤ 34359738368 := by omega
   simp only [ab,ae,cI,hw,List.getElem?_map,hx,ag,af,ah,Option.map_some,List.length_map,go_sem,reduceIte,zA,zB,zC,zD,zE,zF,reduceCtorEq]
   refine aM (fun iV => ?_) (fun iV => ?_)
   ·have L1 : x.yk = false := by simpa using iV
    rw [if_neg (by simp [L1])] at lE
    let nv : Nat × List bB := (i + 1, L ++ [uz x])
    have IN : L ++ [uz x] = me ((bM (al l) p).take (i + 1)) := by rw [lE, hL]
    simp only [ab,ae,cI,hw,List.getElem?_map,hx,ag,af,ah,Option.map_some,D8,fT,er,List.length_cons,List.length_nil,Nat.zero_add,List.length_map,go_sem,reduceIte,zA,zB,zC,zD,zE,zF,reduceCtorEq]
    refine bI tt_ok aK [⟨.n, 0, [], [], []⟩, ⟨.r, 0, [], [], []⟩, ⟨.n, 0, [], [1], []⟩, ⟨.r, 0, [], [], []⟩, ⟨.n, 0, [], [1,2,3], []⟩, ⟨.n, 0, [], [1,2,3,4], []⟩, ⟨.n, 0, [], [1,2,3,4,5], []⟩, ⟨.n, 0, [], [1,2,3,4,5,6], []⟩, ⟨.w, 0, [], [0,1,2,3,4,5,6,7], []⟩, ⟨.n, 0, [], [0,1,2,3,4,5,6,7,8], []⟩] 1 (by kernel_rfl) ?_
    simp only [ab,ae,cI,hw,List.getElem?_map,hx,ag,af,ah,Option.map_some,D8,fT,er,List.length_cons,List.length_nil,Nat.zero_add,List.length_map,go_sem,reduceIte,zA,zB,zC,zD,zE,zF,reduceCtorEq]
    refine cG (by have h := iS x; simp only [ag,af,ah] at h; exact h) ?_
    rintro _ rfl
    simp only [ab,ae,cI,hw,List.getElem?_map,hx,ag,af,ah,Option.map_some,D8,fT,er,List.length_cons,List.length_nil,Nat.zero_add,List.length_map,go_sem,reduceIte,zA,zB,zC,zD,zE,zF,reduceCtorEq]
    refine cG (by have h := iS x; simp only [ag,af,ah] at h; exact h) ?_
    rintro _ rfl
    simp only [ab,ae,cI,hw,List.getElem?_map,hx,ag,af,ah,Option.map_some,D8,fT,er,List.length_cons,List.length_nil,Nat.zero_add,List.length_map,go_sem,reduceIte,zA,zB,zC,zD,zE,zF,reduceCtorEq]
    refine bW _ ⟨nv, ?_, ?_, bm (by omega) (by (simp only [nv,hw,List.map_append,List.map_cons,List.map_nil,List.length_append,List.length_map,List.length_cons,List.length_nil,Nat.zero_add,aj,uz,ab,ae,go_sem,reduceIte,zA,zB,zC,zD,zE,zF,reduceCtorEq]))⟩
    ·exact ⟨aD, IN⟩
    ·dsimp only [nv]; omega
   ·have L1 : x.yk = true := by simpa using iV
    rw [if_pos L1] at lE
    let nv : Nat × List bB := (i + 1, L)
    have IN : L = me ((bM (al l) p).take (i + 1)) := by rw [lE, hL, List.append_nil]
    simp only [ab,ae,cI,hw,List.getElem?_map,hx,ag,af,ah,Option.map_some,List.length_map,go_sem,reduceIte,zA,zB,zC,zD,zE,zF,reduceCtorEq]
    refine bW _ ⟨nv, ?_, ?_, bm (by omega) (by (simp only [nv,hw,List.map_append,List.map_cons,List.map_nil,List.length_append,List.length_map,List.length_cons,List.length_nil,Nat.zero_add,aj,uz,ab,ae,go_sem,reduceIte,zA,zB,zC,zD,zE,zF,reduceCtorEq]))⟩
    ·exact ⟨aD, IN⟩
    ·dsimp only [nv]; omega
  ·have c5 : ¬ i < (bM (al l) p).length := by simpa using gx
   have rD : i = (bM (al l) p).length := by omega
   have L9 : L = me (bM (al l) p) := by rw [hL, rD, List.take_length]
   have Ck : L.length ≤ 1048576 := by
    rw [L9]; unfold me
    rw [List.length_map]
    exact Nat.le_trans (List.length_filter_le _ _) (Nat.le_trans (List.length_filter_le _ _) (by have := eJ l; omega))
   have ue : List.take L.length (L.map aj) = L.map aj := List.take_of_length_le (by simp)
   have IP : L.length ≤ (L.map aj).length := by simp
   have gw : some (.slice ((canon L).map aj)) = some (ak (canon (me (bM (al l) p)))) := by rw [L9]; rfl
   simp only [ab,ae,cI,ue,IP,List.length_map,go_sem,reduceIte,zA,zB,zC,zD,zE,zF,reduceCtorEq]
   refine cF (⟨_, rfl, by have h := pj L (by omega); simp only [ak] at h; exact h⟩) ?_
   rintro _ rfl
   simp only [ab,ae,cI,ue,IP,List.length_map,go_sem,reduceIte,zA,zB,zC,zD,zE,zF,reduceCtorEq]
   exact hK _ (Option.some.inj (gw))
 ·have cI := fun (mem : List aw) (b : Nat) hm => mR (al l) p (mem := mem) (b := b) hm
  simp only [if_neg gJ] at cI
  have Al : bM (al l) p = [] := by have h := kS gJ; unfold bQ at h; simpa using h
  simp only [ab,ae,cI,List.length_map,go_sem,reduceIte,zA,zB,zC,zD,zE,zF,reduceCtorEq]
  refine rM (v' := .slice ((bM (al l) p).map ag)) 18 (by decide) rfl (by rw [Al]; rfl) ?_
  refine HI (v' := num ((bM (al l) p).length : Int)) 19 (by rw [Al]; rfl) ?_
  refine zh 7 0 2 (by decide) rfl ?_
  refine cO tt_ok [] (fun a : Nat × List bB => [(7, .ms 6 a.2.length 0 a.2.length), (18, .slice ((bM (al l) p).map ag)), (19, num (bM (al l) p).length), (20, num a.1)]) (fun a : Nat × List bB => [.box [.slice (l.map ag), .slice I], .box [.slice (l.map ag), .slice I], .box [.mp 3, .mp 4], .map (bE aN 0 (gK (al l))) (gK (al l)).length, .map (bE strVal 0 (gP (al l))) (aA (al l)).length, .box [.mp 3, .mp 4], .rows a.2.length 2 (a.2.map aj)]) (fun a => (bM (al l) p).length - a.1) (fun a => a.1 ≤ (bM (al l) p).length ∧ a.2 = me ((bM (al l) p).take a.1)) ((0, [])) 7 (bm (by omega) (by simp only [ab,ae,cI,List.length_map,List.map_nil,List.length_nil,Int.cast_ofNat_Int,go_sem,reduceIte,zA,zB,zC,zD,zE,zF,reduceCtorEq] <;> rfl)) (⟨Nat.zero_le _, rfl⟩) ?_
  rintro ⟨i, L⟩ ⟨hi, hL⟩
  try dsimp only at hi hL ⊢
  intro Z2 qk
  simp only [ab,ae,cI,List.length_map,go_sem,reduceIte,zA,zB,zC,zD,zE,zF,reduceCtorEq]
  refine aM (fun gx => ?_) (fun gx => ?_)
  ·have aD : i < (bM (al l) p).length := by simpa using gx
   have Ak : (bM (al l) p).length ≤ 256 := Nat.le_trans (List.length_filter_le _ _) (eJ l)
   have hw := aB i (by omega)
   obtain ⟨x, hx⟩ : ∃ x, (bM (al l) p)[i]? = some x := ⟨_, List.getElem?_eq_getElem aD⟩
   have lE := Am hx
   have hpb := NF x.aC
   have D8 : IntKind.i64.wrap (x.aC.pl + 1) = x.aC.pl + 1 := IntWalk.i64_in _ (by omega)
   have fT : ∀ a b : Int, bY [V.agg [num a, num b]] 0 2 = true := fun _ _ => rfl
   have Ck : L.length ≤ 256 := by
    rw [hL]; unfold me
    rw [List.length_map]
    exact Nat.le_trans (List.length_filter_le _ _) (by rw [List.length_take]; omega)
   have er : L.length + 1 ≤ 34359738368 := by omega
   simp only [ab,ae,cI,hw,List.getElem?_map,hx,ag,af,ah,Option.map_some,List.length_map,go_sem,reduceIte,zA,zB,zC,zD,zE,zF,reduceCtorEq]
   refine aM (fun iV => ?_) (fun iV => ?_)
   ·have L1 : x.yk = false := by simpa using iV
    rw [if_neg (by simp [L1])] at lE
    let nv : Nat × List bB := (i + 1, L ++ [uz x])
    have IN : L ++ [uz x] = me ((bM (al l) p).take (i + 1)) := by rw [lE, hL]
    simp only [ab,ae,cI,hw,List.getElem?_map,hx,ag,af,ah,Option.map_some,D8,fT,er,List.length_cons,List.length_nil,Nat.zero_add,List.length_map,go_sem,reduceIte,zA,zB,zC,zD,zE,zF,reduceCtorEq]
    refine bI tt_ok aK [⟨.n, 0, [], [], []⟩, ⟨.r, 0, [], [], []⟩, ⟨.n, 0, [], [1], []⟩, ⟨.r, 0, [], [], []⟩, ⟨.n, 0, [], [1,2,3], []⟩, ⟨.n, 0, [], [1,2,3,4], []⟩, ⟨.n, 0, [], [1,2,3,4,5], []⟩, ⟨.n, 0, [], [1,2,3,4,5,6], []⟩, ⟨.w, 0, [], [0,1,2,3,4,5,6,7], []⟩, ⟨.n, 0, [], [0,1,2,3,4,5,6,7,8], []⟩] 1 (by kernel_rfl) ?_
    simp only [ab,ae,cI,hw,List.getElem?_map,hx,ag,af,ah,Option.map_some,D8,fT,er,List.length_cons,List.length_nil,Nat.zero_add,List.length_map,go_sem,reduceIte,zA,zB,zC,zD,zE,zF,reduceCtorEq]
    refine cG (by have h := iS x; simp only [ag,af,ah] at h; exact h) ?_
    rintro _ rfl
    simp only [ab,ae,cI,hw,List.getElem?_map,hx,ag,af,ah,Option.map_some,D8,fT,er,List.length_cons,List.length_nil,Nat.zero_add,List.length_map,go_sem,reduceIte,zA,zB,zC,zD,zE,zF,reduceCtorEq]
    refine cG (by have h := iS x; simp only [ag,af,ah] at h; exact h) ?_
    rintro _ rfl
    simp only [ab,ae,cI,hw,List.getElem?_map,hx,ag,af,ah,Option.map_some,D8,fT,er,List.length_cons,List.length_nil,Nat.zero_add,List.length_map,go_sem,reduceIte,zA,zB,zC,zD,zE,zF,reduceCtorEq]
    refine qk _ ⟨nv, ?_, ?_, bm (by omega) (by (simp only [nv,hw,List.map_append,List.map_cons,List.map_nil,List.length_append,List.length_map,List.length_cons,List.length_nil,Nat.zero_add,aj,uz,ab,ae,go_sem,reduceIte,zA,zB,zC,zD,zE,zF,reduceCtorEq]))⟩
    ·exact ⟨aD, IN⟩
    ·dsimp only [nv]; omega
   ·have L1 : x.yk = true := by simpa using iV
    rw [if_pos L1] at lE
    let nv : Nat × List bB := (i + 1, L)
    have IN : L = me ((bM (al l) p).take (i + 1)) := by rw [lE, hL, List.append_nil]
    simp only [ab,ae,cI,hw,List.getElem?_map,hx,ag,af,ah,Option.map_some,List.length_map,go_sem,reduceIte,zA,zB,zC,zD,zE,zF,reduceCtorEq]
    refine qk _ ⟨nv, ?_, ?_, bm (by omega) (by (simp only [nv,hw,List.map_append,List.map_cons,List.map_nil,List.length_append,List.length_map,List.length_cons,List.length_nil,Nat.zero_add,aj,uz,ab,ae,go_sem,reduceIte,zA,zB,zC,zD,zE,zF,reduceCtorEq]))⟩
    ·exact ⟨aD, IN⟩
    ·dsimp only [nv]; omega
  ·have c5 : ¬ i < (bM (al l) p).length := by simpa using gx
   have rD : i = (bM (al l) p).length := by omega
   have L9 : L = me (bM (al l) p) := by rw [hL, rD, List.take_length]
   have Ck : L.length ≤ 1048576 := by
    rw [L9]; unfold me
    rw [List.length_map]
    exact Nat.le_trans (List.length_filter_le _ _) (Nat.le_trans (List.length_filter_le _ _) (by have := eJ l; omega))
   have ue : List.take L.length (L.map aj) = L.map aj := List.take_of_length_le (by simp)
   have IP : L.length ≤ (L.map aj).length := by simp
   have gw : some (.slice ((canon L).map aj)) = some (ak (canon (me (bM (al l) p)))) := by rw [L9]; rfl
   simp only [ab,ae,cI,ue,IP,List.length_map,go_sem,reduceIte,zA,zB,zC,zD,zE,zF,reduceCtorEq]
   refine cF (⟨_, rfl, by have h := pj L (by omega); simp only [ak] at h; exact h⟩) ?_
   rintro _ rfl
   simp only [ab,ae,cI,ue,IP,List.length_map,go_sem,reduceIte,zA,zB,zC,zD,zE,zF,reduceCtorEq]
   exact hK _ (Option.some.inj (gw))
end Go.Proofs.YtnfeacnbgbggfaaGreatDoor
end

section
namespace Go.Proofs.YtnfeacnbgbggfaaGreatDoor
open Go.Eng
open Nat renaming reduceAdd → zA, reduceLT → zB, reduceLeDiff → zC, reduceMul → zD, reduceEqDiff → zE, reduceSub → zF
variable [aH]
set_option maxHeartbeats 4000000
set_option maxRecDepth 100000
def rQ (s : List fP) : Bool := (List.range s.length).all fun i => match s[i]?, s[i + 1]? with | some a, some b => km a.path b.path | _, _ => true
theorem uf (s : List fP) : rQ s = true ↔ ∀ (i : Nat) (a b : fP), s[i]? = some a → s[i + 1]? = some b → km a.path b.path = true := by
 unfold rQ
 rw [List.all_eq_true]
 constructor
 ·intro h i a b ha hb
  have h1 := h i (by rw [List.mem_range]; exact (List.getElem?_eq_some_iff.1 ha).1)
  rw [ha, hb] at h1
  exact h1
 ·intro h i hi
  split
  ·rename_i a b ha hb; exact h i a b ha hb
  ·rfl
def lq (l : List Rl) (s : List fP) : Option (List Rl) := s.mapM (nf l)
def nh (l : List Rl) (s : List fP) : V := if rQ s = true then (match lq l s with | some m => .bN [.slice (m.map ag), num 0] | none => .bN [.sc (.slice none 0 0), num 6]) else .bN [.sc (.slice none 0 0), num 1]
theorem FL {l : List Rl} {s : List fP} {i : Nat} {y : fP} {R : List Rl} {r : Rl} (h : lq l (s.take i) = some R) (hy : s[i]? = some y) (hf : nf l y = some r) : lq l (s.take (i + 1)) = some (R ++ [r]) := by
 unfold lq at h ⊢
 rw [List.take_add_one, hy, List.mapM_append, h]
 simp [hf]
theorem FM {l : List Rl} {s : List fP} {i : Nat} {y : fP} (hy : s[i]? = some y) (hf : nf l y = none) : lq l s = none := by
 unfold lq
 have hs : s = s.take i ++ y :: s.drop (i + 1) := by
  obtain ⟨h1, h2⟩ := List.getElem?_eq_some_iff.1 hy
  rw [← h2, List.getElem_cons_drop, List.take_append_drop]
 rw [hs, List.mapM_append]
 cases (s.take i).mapM (nf l) with
 | none => rfl
 | some R => simp [hf]
theorem Ao {l : List Rl} {s : List fP} {R : List Rl} (h : lq l s = some R) : R.length = s.length := by
 unfold lq at h
 induction s generalizing R with
 | nil => simp at h; subst h; rfl
 | cons a t ih =>
  rw [List.mapM_cons] at h
  cases h1 : nf l a with
  | none => rw [h1] at h; simp at h
  | some b =>
   rw [h1] at h
   cases h2 : t.mapM (nf l) with
   | none => rw [h2] at h; simp at h
   | some r' =>
    rw [h2] at h
    simp at h
    subst h
    rw [List.length_cons, List.length_cons, ih h2]
theorem Ap (l : List Rl) (s : List fP) (hs : s.length ≤ 1048576) : ∃ r_ m_, (fun r m => r = nh l s ∧ m = [.map (bE aN 0 (gK (al l))) (gK (al l)).length, .map (bE strVal 0 (gP (al l))) (aA (al l)).length]) r_ m_ ∧ aR Tryz.prog 51 [.agg [.mp 0, .mp 1], bZ s] ([.map (bE aN 0 (gK (al l))) (gK (al l)).length, .map (bE strVal 0 (gP (al l))) (aA (al l)).length]) r_ m_ := by
 refine Ge tt_ok [15] 51 [.tmp 4, .tmp 5] (2) (by simp) (fn := Tryz.f51) Tryz.func51 rfl Tryz.call51 ⟨rfl, rfl, by simp⟩ fun K hK => ?_
 simp only [bZ]
 simp only [ab,ae,List.length_map,dR,go_sem,reduceIte,zA,zB,zC,zD,zE,zF,reduceCtorEq]
 refine bL tt_ok [15] [6] 3 [1,2] (fun vs => ((s.length : Int) - Go.Eng.intOf (vs.headD .undef)).toNat) (fun vs => ∃ i : Nat, vs = [num ((i + 1 : Nat) : Int)] ∧ (i = 0 ∨ i + 1 ≤ s.length) ∧ ∀ j < i, ∀ a b : fP, s[j]? = some a → s[j + 1]? = some b → km a.path b.path = true) (by omega) (by simp only [ab,ae,List.length_map,dR,go_sem,reduceIte,zA,zB,zC,zD,zE,zF,reduceCtorEq]) (⟨0, rfl, .inl rfl, fun j hj => absurd hj (Nat.not_lt_zero j)⟩) fun vs hI Z1 bW => ?_
 obtain ⟨i, rfl, hi, bh⟩ := hI
 simp only [ab,ae,List.length_map,dR,go_sem,reduceIte,zA,zB,zC,zD,zE,zF,reduceCtorEq]
 refine aM (fun gR => ?_) (fun gR => ?_)
 ·have aD : i + 1 < s.length := by have := of_decide_eq_true gR; omega
  obtain ⟨x, hx⟩ : ∃ x, s[i]? = some x := ⟨_, List.getElem?_eq_getElem (by omega)⟩
  obtain ⟨y, hy⟩ : ∃ y, s[i + 1]? = some y := ⟨_, List.getElem?_eq_getElem aD⟩
  have hw := aB (i + 1) (by omega)
  have Qa : IntKind.i64.wrap (((i + 1 : Nat) : Int) - 1) = (i : Int) := by rw [IntWalk.i64_in _ (by omega)]; omega
  simp only [ab,ae,hw,Qa,List.getElem?_map,hx,hy,Option.map_some,br,List.length_map,dR,go_sem,reduceIte,zA,zB,zC,zD,zE,zF,reduceCtorEq]
  refine bI tt_ok aK [⟨.n, 0, [], [], []⟩, ⟨.n, 0, [], [], []⟩, ⟨.n, 0, [], [], []⟩, ⟨.r, 0, [], [], []⟩, ⟨.n, 0, [], [], []⟩, ⟨.r, 0, [], [], []⟩, ⟨.n, 0, [], [], []⟩, ⟨.n, 0, [], [], []⟩, ⟨.r, 0, [], [], []⟩, ⟨.n, 0, [], [], []⟩, ⟨.r, 0, [], [], []⟩, ⟨.n, 0, [], [], []⟩] 0 (by kernel_rfl) ?_
  simp only [ab,ae,hw,Qa,List.getElem?_map,hx,hy,Option.map_some,br,List.length_map,dR,go_sem,reduceIte,zA,zB,zC,zD,zE,zF,reduceCtorEq]
  refine aM (fun zV => ?_) (fun zV => ?_)
  ·have T6 : ¬ rQ s = true := fun h => by
    have h1 := (uf s).1 h i x y hx hy
    unfold km at h1
    rw [h1] at zV; cases zV
   have hV : nh l s = .bN [.sc (.slice none 0 0), num 1] := by unfold nh; rw [if_neg T6]
   simp only [ab,ae,hw,Qa,List.getElem?_map,hx,hy,Option.map_some,br,List.length_map,dR,go_sem,reduceIte,zA,zB,zC,zD,zE,zF,reduceCtorEq]
   exact hK _ _ ⟨hV.symm, rfl⟩
  ·simp only [ab,ae,hw,Qa,List.getElem?_map,hx,hy,Option.map_some,br,List.length_map,dR,go_sem,reduceIte,zA,zB,zC,zD,zE,zF,reduceCtorEq]
   refine bW _ (dD (by omega) (by simp only [ab,ae,hw,Qa,List.getElem?_map,hx,hy,Option.map_some,br,List.length_map,dR,go_sem,reduceIte,zA,zB,zC,zD,zE,zF,reduceCtorEq]) ?_ ?_) <;> simp only [gQ,lk,reduceIte,zE]
   ·refine ⟨i + 1, rfl, .inr (by omega), fun j hj a b ha hb => ?_⟩
    rcases Nat.lt_or_ge j i with h | h
    ·exact bh j h a b ha hb
    ·obtain rfl : j = i := by omega
     rw [hx] at ha; rw [hy] at hb; cases ha; cases hb
     unfold km; simpa using zV
   ·simp only [Go.Eng.intOf,List.headD_cons]; omega
 ·have c5 : ¬ i + 1 < s.length := by have := of_decide_eq_false gR; omega
  have IQ : rQ s = true := (uf s).2 fun j a b ha hb => bh j (by have := (List.getElem?_eq_some_iff.1 hb).1; omega) a b ha hb
  simp only [ab,ae,List.length_map,dR,go_sem,reduceIte,zA,zB,zC,zD,zE,zF,reduceCtorEq]
  refine zh 7 0 9 (by decide) rfl ?_
  refine cO tt_ok [15] (fun b : Nat × List Rl => [(2, .ptr 2 0), (7, .ms 3 b.1 0 b.1), (30, .slice (s.map br)), (31, num s.length), (32, num b.1)]) (fun b : Nat × List Rl => [.map (bE aN 0 (gK (al l))) (gK (al l)).length, .map (bE strVal 0 (gP (al l))) (aA (al l)).length, .box [.mp 0, .mp 1], .rows b.1 9 (b.2.map ag)]) (fun b => s.length - b.1) (fun b => b.1 ≤ s.length ∧ lq l (s.take b.1) = some b.2 ∧ b.2.length = b.1) ((0, [])) 4 (bm (by omega) (by simp only [ab,ae,List.length_map,dR,List.map_nil,Int.cast_ofNat_Int,go_sem,reduceIte,zA,zB,zC,zD,zE,zF,reduceCtorEq] <;> rfl)) (⟨Nat.zero_le _, rfl, rfl⟩) ?_
  rintro ⟨i, R⟩ ⟨hi, hR, IS⟩
  try dsimp only at hi hR IS ⊢
  intro Z2 qk
  simp only [ab,ae,List.length_map,dR,go_sem,reduceIte,zA,zB,zC,zD,zE,zF,reduceCtorEq]
  refine aM (fun zT => ?_) (fun zT => ?_)
  ·have aD : i < s.length := by simpa using zT
   have hw := aB i (by omega)
   obtain ⟨x, hx⟩ : ∃ x, s[i]? = some x := ⟨_, List.getElem?_eq_getElem aD⟩
   have fT : ∀ q : Rl, bY [V.agg [str q.path, num q.aC.mj, num q.aC.mn, num q.aC.pt, V.slice (q.reqs.map ao), str q.ar, str q.gq, str q.ce, bl q.yk]] 0 9 = true := fun q => rfl
   have er : i + 1 ≤ 34359738368 := by omega
   have YN : (R.map ag).length = i := by rw [List.length_map, IS]
   rcases hf : nf l x with _ | r
   ·have cI := fun (mem : List aw) (b : Nat) hm => Ae hf (mem := mem) (b := b) hm
    simp only [ln] at cI
    have hV : nh l s = .bN [.sc (.slice none 0 0), num 6] := by unfold nh; rw [if_pos IQ, FM hx hf]
    simp only [ab,ae,hw,List.getElem?_map,hx,Option.map_some,br,fT,er,YN,List.length_append,List.length_cons,List.length_nil,Nat.zero_add,cI,List.length_map,dR,go_sem,reduceIte,zA,zB,zC,zD,zE,zF,reduceCtorEq]
    exact hK _ _ ⟨hV.symm, rfl⟩
   ·have cI := fun (mem : List aw) (b : Nat) hm => D1 hf (mem := mem) (b := b) hm
    simp only [ln,ag,af,ah] at cI
    simp only [ab,ae,hw,List.getElem?_map,hx,Option.map_some,br,fT,er,YN,List.length_append,List.length_cons,List.length_nil,Nat.zero_add,cI,ag,af,ah,List.length_map,dR,go_sem,reduceIte,zA,zB,zC,zD,zE,zF,reduceCtorEq]
    refine qk _ ⟨(i + 1, R ++ [r]), ?_, ?_, bm (by omega) (by (simp only [hw,List.map_append,List.map_cons,List.map_nil,ag,af,ah,ab,ae,go_sem,reduceIte,zA,zB,zC,zD,zE,zF,reduceCtorEq]))⟩
    ·exact ⟨aD, FL hR hx hf, by dsimp only; rw [List.length_append, IS]; rfl⟩
    ·dsimp only; omega
  ·have TQ : ¬ i < s.length := by simpa using zT
   have rD : i = s.length := by omega
   subst rD
   rw [List.take_length] at hR
   have hV : nh l s = .bN [.slice (R.map ag), num 0] := by unfold nh; rw [if_pos IQ, hR]
   simp only [ab,ae,List.length_map,dR,go_sem,reduceIte,zA,zB,zC,zD,zE,zF,reduceCtorEq]
   refine rM (v' := .slice (R.map ag)) 7 (by decide) rfl (by simp [lk, dO, bu, IS, List.take_of_length_le]) ?_
   refine UX tt_ok [15] ?_
   simp only [ab,ae,List.length_map,dR,go_sem,reduceIte,zA,zB,zC,zD,zE,zF,reduceCtorEq]
   exact hK _ _ ⟨hV.symm, rfl⟩
end Go.Proofs.YtnfeacnbgbggfaaGreatDoor
end

section
namespace Go.Proofs.YtnfeacnbgbggfaaGreatDoor
open Go.Eng
open Nat renaming reduceAdd → zA, reduceLT → zB, reduceLeDiff → zC, reduceMul → zD, reduceEqDiff → zE, reduceSub → zF
variable [aH]
set_option maxHeartbeats 4000000
set_option maxRecDepth 100000
def IT (m : List Rl) (p : ByteArray) : Option Rl := m.find? fun r => decide (r.path = p)
def gB (m : List Rl) : List (ByteArray × V) := m.map fun r => (r.path, ag r)
theorem sh (p : ByteArray) : ∀ m : List Rl, getM p (gB m) = (IT m p).map ag
 | [] => rfl
 | r :: t => by
  show (if r.path = p then some (ag r) else getM p (gB t)) = _
  unfold IT
  rw [List.find?_cons]
  by_cases h : r.path = p
  ·simp [h]
  ·have := sh p t
   unfold IT at this
   simp [h, this]
theorem aF (n : Nat) (m : List Rl) : ((bE strVal 0 (gB m)).all fun e => ai n e.2.2) = true := by
 rw [kR strVal (ai n)]
 unfold gB
 simp [l9]
theorem D9 (σ : Nat → Nat) (m : List Rl) (c : Nat) : cq σ (.map (bE strVal 0 (gB m)) c) = .map (bE strVal 0 (gB m)) c := by
 rw [pq]
 congr 2
 unfold gB
 rw [List.map_map]
 exact List.map_congr_left fun r _ => by simp [DZ]
theorem IU {m : List Rl} {p : ByteArray} (h : IT m p = none) {mem : List aw} {b : Nat} (hm : mem[b]? = some (.map (bE strVal 0 (gB m)) (gB m).length)) :
  dg Tryz.prog mem 92 (.mp b) (str p) true = some (.bN [.agg [str ⟨#[]⟩, num 0, num 0, num 0, .sc (.slice none 0 0), str ⟨#[]⟩, str ⟨#[]⟩, str ⟨#[]⟩, bl false], bl false]) := by
 rw [LN.get p (gB m) hm tR, sh, h]; rfl
theorem IV {m : List Rl} {p : ByteArray} {r : Rl} (h : IT m p = some r) {mem : List aw} {b : Nat} (hm : mem[b]? = some (.map (bE strVal 0 (gB m)) (gB m).length)) :
  dg Tryz.prog mem 92 (.mp b) (str p) true = some (.bN [ag r, bl true]) := by
 rw [LN.get p (gB m) hm tR, sh, h]; rfl
theorem Ma {m : List Rl} {p : ByteArray} {r : Rl} (h : IT m p = some r) {mem : List aw} {b : Nat} (hm : mem[b]? = some (.map (bE strVal 0 (gB m)) (gB m).length)) :
  dg Tryz.prog mem 92 (.mp b) (str p) false = some (ag r) := by
 rw [LN.get p (gB m) hm tR, sh, h]; rfl
def brk (m : List Rl) (q : Rq) : Bool := match IT m q.path with | none => true | some r => !has q.set r.aC.pl
def σ2 (k k2 n j : Nat) : Nat := if j = 0 then k else if j = 1 then k2 else n + (j - 2)
theorem ug {P : Program} {f : FuncId} {vs : List V} {r : V} {B0 B1 rK : aw} (h : aR P f vs [B0, B1] r [rK, B1]) (M : List aw) (k k2 : Nat) (hv : vs.all (ai 2) = true) (hm : [B0, B1].all (az 2) = true) (hr : ai 2 r = true) (G4 : [rK, B1].all (az 2) = true)
  (hk : M[k]? = some (cq (σ2 k k2 M.length) B0)) (kD : M[k2]? = some (cq (σ2 k k2 M.length) B1)) (bH : k ≠ k2) :
  aR P f (ca (σ2 k k2 M.length) vs) M (bt (σ2 k k2 M.length) r) (M.set k (cq (σ2 k k2 M.length) rK)) := by
 have h3 := h.zf M (σ2 k k2 M.length) 2 rfl hv hm hr G4 (by simp) (fun i B hi => by
  match i with
  | 0 => simp at hi; subst hi; exact hk
  | 1 => simp at hi; subst hi; exact kD
  | i + 2 => simp at hi) (fun i j hi hj he => by
  match i, j with
  | 0, 0 => rfl
  | 1, 1 => rfl
  | 0, 1 => exact absurd (by simpa [σ2] using he) bH
  | 1, 0 => exact absurd (by simpa [σ2] using he.symm) bH
  | i + 2, _ => omega
  | _, j + 2 => omega) (fun j hj => by unfold σ2; rw [if_neg (by omega), if_neg (by omega)])
 have hM : mZ (σ2 k k2 M.length) 2 [rK, B1] M = M.set k (cq (σ2 k k2 M.length) rK) := by
  unfold mZ
  simp only [vC,List.map_nil,List.append_nil,gj]
  show (M.set k (cq _ rK)).set k2 (cq _ B1) = _
  exact eY (by rw [List.getElem?_set_ne bH]; exact kD)
 rwa [hM] at h3
theorem IW (m : List Rl) (q : Rq) (hq : xm q) : ∃ r_, (fun w => w = bl (brk m q)) r_ ∧ aR Tryz.prog 52 [ao q, .ptr 1 0] ([.map (bE strVal 0 (gB m)) (gB m).length, .box [.mp 0]]) r_ ([.map (bE strVal 0 (gB m)) (gB m).length, .box [.mp 0]]) := by
 refine Gf tt_ok [] 23 [.tmp 3] (fn := Tryz.f52) Tryz.func52 rfl Tryz.call52 ⟨rfl, rfl, by simp⟩ fun K hK => ?_
 simp only [ao,ak]
 obtain ⟨xT, N4⟩ := hq
 rcases hf : IT m q.path with _ | r
 ·have cI := fun (mem : List aw) (b : Nat) hm => IU hf (mem := mem) (b := b) hm
  have hR : true = brk m q := by unfold brk; rw [hf]
  simp only [aF,cI,go_sem,reduceIte,zA,zB,zC,zD,zE,zF,reduceCtorEq]
  refine bI tt_ok aK [⟨.n, 0, [], [], []⟩, ⟨.n, 0, [], [], []⟩, ⟨.n, 0, [], [], []⟩, ⟨.n, 0, [], [], []⟩, ⟨.r, 0, [], [], []⟩, ⟨.r, 0, [], [], []⟩, ⟨.n, 0, [], [], []⟩, ⟨.n, 0, [], [], []⟩, ⟨.n, 0, [], [], []⟩, ⟨.n, 0, [], [], []⟩, ⟨.n, 0, [], [], []⟩] 0 (by kernel_rfl) ?_
  simp only [aF,cI,go_sem,reduceIte,zA,zB,zC,zD,zE,zF,reduceCtorEq]
  exact hK _ _ ⟨congrArg bl hR, rfl⟩
 ·have cI := fun (mem : List aw) (b : Nat) hm => IV hf (mem := mem) (b := b) hm
  simp only [ag,af,ah] at cI
  have hR : (!has q.set r.aC.pl) = brk m q := by unfold brk; rw [hf]
  simp only [aF,cI,go_sem,reduceIte,zA,zB,zC,zD,zE,zF,reduceCtorEq]
  refine bI tt_ok aK [⟨.n, 0, [], [], []⟩, ⟨.n, 0, [], [], []⟩, ⟨.n, 0, [], [], []⟩, ⟨.n, 0, [], [], []⟩, ⟨.r, 0, [], [], []⟩, ⟨.r, 0, [], [], []⟩, ⟨.n, 0, [], [], []⟩, ⟨.n, 0, [], [], []⟩, ⟨.n, 0, [], [], []⟩, ⟨.n, 0, [], [], []⟩, ⟨.n, 0, [], [], []⟩] 0 (by kernel_rfl) ?_
  simp only [aF,cI,go_sem,reduceIte,zA,zB,zC,zD,zE,zF,reduceCtorEq]
  refine cG (by have h := iS r; simp only [ag,af,ah] at h; exact h) ?_
  rintro _ rfl
  simp only [aF,cI,go_sem,reduceIte,zA,zB,zC,zD,zE,zF,reduceCtorEq]
  refine cG (by have h := B8 q.set r.aC.pl N4; simp only [ak] at h; exact h) ?_
  rintro _ rfl
  simp only [aF,cI,go_sem,reduceIte,zA,zB,zC,zD,zE,zF,reduceCtorEq]
  exact hK _ _ ⟨congrArg bl hR, rfl⟩
theorem Mb (m : List Rl) (l : List Rq) (hl : l.length ≤ 2097152) (AP : ∀ q ∈ l, xm q) : ∃ r_, (fun w => ∃ k : Int, w = num k ∧ decide (0 ≤ k) = l.any (brk m)) r_ ∧ aR Tryz.prog 79 [ah l, .fQ (.func 52) [] [.ptr 1 0]] ([.map (bE strVal 0 (gB m)) (gB m).length, .box [.mp 0]]) r_ ([.map (bE strVal 0 (gB m)) (gB m).length, .box [.mp 0]]) := by
 refine Gf tt_ok [] 19 [.tmp 4] (fn := Tryz.f79) Tryz.func79 rfl Tryz.call79 ⟨rfl, rfl, by simp⟩ fun K hK => ?_
 simp only [ah]
 simp only [aF,List.length_map,go_sem,reduceIte,zA,zB,zC,zD,zE,zF,reduceCtorEq]
 refine bL tt_ok [] [8] 2 [0,1,7] (fun vs => ((l.length : Int) - Go.Eng.intOf (vs.headD .undef)).toNat) (fun vs => ∃ i : Nat, vs = [num i] ∧ i ≤ l.length ∧ ∀ j < i, ∀ x, l[j]? = some x → (brk m) x = false) (by omega) (by simp only [aF,List.length_map,go_sem,reduceIte,zA,zB,zC,zD,zE,zF,reduceCtorEq]) (⟨0, rfl, Nat.zero_le _, fun j hj => absurd hj (Nat.not_lt_zero j)⟩) fun vs hI Z1 bW => ?_
 obtain ⟨i, rfl, hi, bh⟩ := hI
 simp only [aF,List.length_map,go_sem,reduceIte,zA,zB,zC,zD,zE,zF,reduceCtorEq]
 refine aM (fun jG => ?_) (fun jG => ?_)
 ·have aD : i < l.length := by simpa using jG
  have hw := aB i (by omega)
  obtain ⟨x, hx⟩ : ∃ x, l[i]? = some x := ⟨_, List.getElem?_eq_getElem aD⟩
  have JT := AP x (List.mem_of_getElem? hx)
  simp only [aF,hw,List.getElem?_map,hx,ao,ak,List.length_map,go_sem,reduceIte,zA,zB,zC,zD,zE,zF,reduceCtorEq]
  refine cS (by have h := IW m x JT; simp only [ao,ak] at h; exact h) ?_
  rintro _ rfl
  simp only [aF,hw,List.getElem?_map,hx,ao,ak,List.length_map,go_sem,reduceIte,zA,zB,zC,zD,zE,zF,reduceCtorEq]
  refine aM (fun kM => ?_) (fun kM => ?_)
  ·have ay : decide (0 ≤ (i : Int)) = l.any (brk m) := by rw [B7 hx kM]; exact decide_eq_true (Int.natCast_nonneg i)
   simp only [aF,hw,List.getElem?_map,hx,ao,ak,List.length_map,go_sem,reduceIte,zA,zB,zC,zD,zE,zF,reduceCtorEq]
   exact hK _ _ ⟨⟨_, rfl, ay⟩, rfl⟩
  ·simp only [aF,hw,List.getElem?_map,hx,ao,ak,List.length_map,go_sem,reduceIte,zA,zB,zC,zD,zE,zF,reduceCtorEq]
   refine bW _ (dD (by omega) (by simp only [aF,hw,List.getElem?_map,hx,ao,ak,List.length_map,go_sem,reduceIte,zA,zB,zC,zD,zE,zF,reduceCtorEq]) ?_ ?_) <;> simp only [gQ,lk,reduceIte,zE]
   ·refine ⟨i + 1, rfl, aD, fun j hj => ?_⟩
    rcases Nat.lt_or_ge j i with h | h
    ·exact bh j h
    ·obtain rfl : j = i := by omega
     intro y hy
     rw [hx] at hy; cases hy; exact kM
   ·simp only [Go.Eng.intOf,List.headD_cons]; omega
 ·have c5 : ¬ i < l.length := by simpa using jG
  have ay : decide (0 ≤ (-1 : Int)) = l.any (brk m) := (any_none fun j hj => bh j (by omega)).symm ▸ rfl
  simp only [aF,List.length_map,go_sem,reduceIte,zA,zB,zC,zD,zE,zF,reduceCtorEq]
  exact hK _ _ ⟨⟨_, rfl, ay⟩, rfl⟩
theorem Mc (m : List Rl) (l : List Rq) (hl : l.length ≤ 2097152) (AP : ∀ q ∈ l, xm q) : ∃ r_, (fun w => w = bl (l.any (brk m))) r_ ∧ aR Tryz.prog 26 [ah l, .fQ (.func 52) [] [.ptr 1 0]] ([.map (bE strVal 0 (gB m)) (gB m).length, .box [.mp 0]]) r_ ([.map (bE strVal 0 (gB m)) (gB m).length, .box [.mp 0]]) := by
 refine Gf tt_ok [] 9 [.tmp 4] (fn := Tryz.f26) Tryz.func26 rfl Tryz.call26 ⟨rfl, rfl, by simp⟩ fun K hK => ?_
 simp only [ah]
 simp only [aF,go_sem,reduceIte,zA,zB,zC,zD,zE,zF,reduceCtorEq]
 refine cS (by have h := Mb m l hl AP; simp only [ah] at h; exact h) ?_
 rintro _ ⟨k, rfl, hk⟩
 simp only [aF,go_sem,reduceIte,zA,zB,zC,zD,zE,zF,reduceCtorEq]
 exact hK _ _ ⟨congrArg bl hk, rfl⟩
theorem Aq (m : List Rl) (l : List Rq) (hl : l.length ≤ 2097152) (AP : ∀ q ∈ l, xm q) (M : List aw) (k k2 : Nat) (hk : M[k]? = some (.map (bE strVal 0 (gB m)) (gB m).length)) (kD : M[k2]? = some (.box [.mp k])) (bH : k ≠ k2) :
  ∃ r_, (fun w => w = bl (l.any (brk m))) r_ ∧ aR Tryz.prog 26 [.slice (l.map ao), .fQ (.func 52) [] [.ptr k2 0]] M r_ M := by
 obtain ⟨r, rfl, h⟩ := Mc m l hl AP
 have h3 := ug h M k k2 (by simp [ah, ai, dp]) (by simp [nS, tb, aF, ai]) (by simp [ai]) (by simp [nS, tb, aF, ai]) (by rw [D9]; exact hk) (by simpa [cq, ca, bt, σ2] using kD) bH
 rw [D9, eY hk] at h3
 exact ⟨_, rfl, by simpa [ca, bt, σ2, ah] using h3⟩
end Go.Proofs.YtnfeacnbgbggfaaGreatDoor
end

section
namespace Go.Proofs.YtnfeacnbgbggfaaGreatDoor
open Go.Eng
open Nat renaming reduceAdd → zA, reduceLT → zB, reduceLeDiff → zC, reduceMul → zD, reduceEqDiff → zE, reduceSub → zF
variable [aH]
set_option maxHeartbeats 4000000
set_option maxRecDepth 100000
noncomputable def eK (l : List Rl) (roots : List Rq) (s : List fP) : Int :=
 if eH l ≠ 0 then 1 else if rQ s = true then (match lq l s with
  | none => 6
  | some m => if (m.any fun r => r.reqs.any (brk m)) = true ∨ roots.any (brk m) = true then 17 else if (dn m roots).length < m.length then 8 else 0) else 1
theorem Md {s : List fP} (h : rQ s = true) : s.Pairwise fun a b => a.path.data.toList < b.path.data.toList := by
 have h1 := (uf s).1 h
 clear h
 induction s with
 | nil => exact List.Pairwise.nil
 | cons a t ih =>
  have ht := ih fun i x y hx hy => h1 (i + 1) x y (by simpa using hx) (by simpa using hy)
  refine List.pairwise_cons.2 ⟨?_, ht⟩
  cases t with
  | nil => intro b hb; simp at hb
  | cons b t =>
   have h2 : a.path.data.toList < b.path.data.toList := by
    have h3 := h1 0 a b rfl rfl
    rw [lV] at h3
    exact of_decide_eq_true h3
   intro c hc
   rcases List.mem_cons.1 hc with rfl | hc
   ·exact h2
   ·exact List.lt_trans h2 ((List.pairwise_cons.1 ht).1 c hc)
theorem IX {l : List Rl} {y : fP} {r : Rl} (h : nf l y = some r) : r ∈ al l ∧ r.key = y := by
 unfold nf at h
 exact ⟨List.mem_of_find?_eq_some h, by simpa using List.find?_some h⟩
theorem qy {l : List Rl} : ∀ {s : List fP} {m : List Rl}, lq l s = some m → m.map Rl.key = s ∧ ∀ r ∈ m, r ∈ al l
 | [], m, h => by unfold lq at h; simp at h; subst h; simp
 | y :: t, m, h => by
  unfold lq at h
  rw [List.mapM_cons] at h
  cases h1 : nf l y with
  | none => rw [h1] at h; simp at h
  | some r =>
   rw [h1] at h
   cases h2 : t.mapM (nf l) with
   | none => rw [h2] at h; simp at h
   | some m' =>
    rw [h2] at h
    simp at h
    subst h
    obtain ⟨e1, e2⟩ := qy (s := t) h2
    obtain ⟨e3, e4⟩ := IX h1
    refine ⟨by rw [List.map_cons, e1, e4], fun x hx => ?_⟩
    rcases List.mem_cons.1 hx with rfl | hx
    ·exact e3
    ·exact e2 x hx
theorem CD {l : List Rl} {s : List fP} {m : List Rl} (h : lq l s = some m) (hi : rQ s = true) : m.Pairwise fun a b => a.path.data.toList < b.path.data.toList := by
 have h1 := Md hi
 rw [← (qy h).1, List.pairwise_map] at h1
 exact h1
theorem IY {a b : ByteArray} (h : a.data.toList < b.data.toList) : a ≠ b := fun e => by subst e; exact List.lt_irrefl _ h
theorem CE {m : List Rl} (h : m.Pairwise fun a b => a.path.data.toList < b.path.data.toList) : ∀ a ∈ m, ∀ b ∈ m, a.path = b.path → a = b := by
 intro a ha b hb he
 obtain ⟨i, hi⟩ := List.mem_iff_getElem?.1 ha
 obtain ⟨j, hj⟩ := List.mem_iff_getElem?.1 hb
 rcases Nat.lt_trichotomy i j with pO | pO | pO
 ·exact absurd he (IY (List.pairwise_iff_getElem.1 h i j (List.getElem?_eq_some_iff.1 hi).1 (List.getElem?_eq_some_iff.1 hj).1 pO |> fun h => by rwa [(List.getElem?_eq_some_iff.1 hi).2, (List.getElem?_eq_some_iff.1 hj).2] at h))
 ·subst pO; rw [hi] at hj; cases hj; rfl
 ·exact absurd he.symm (IY (List.pairwise_iff_getElem.1 h j i (List.getElem?_eq_some_iff.1 hj).1 (List.getElem?_eq_some_iff.1 hi).1 pO |> fun h => by rwa [(List.getElem?_eq_some_iff.1 hj).2, (List.getElem?_eq_some_iff.1 hi).2] at h))
theorem Ar {m : List Rl} {p : ByteArray} {r : Rl} (h : IT m p = some r) : r ∈ m ∧ r.path = p := ⟨List.mem_of_find?_eq_some h, by simpa using List.find?_some h⟩
theorem Qz {m : List Rl} {r : Rl} (h : ∀ x ∈ m, x.path ≠ r.path) : ll r.path (ag r) (gB m) = gB (m ++ [r]) := by
 have : dB r.path (gB m) 0 = none := by
  have key : ∀ (m : List Rl) (n : Nat), (∀ x ∈ m, x.path ≠ r.path) → dB r.path (gB m) n = none := by
   intro m
   induction m with
   | nil => intro n _; rfl
   | cons a t ih =>
    intro n h
    show (if a.path = r.path then _ else dB r.path (gB t) (n + 1)) = none
    rw [if_neg (h a (by simp))]
    exact ih _ fun x hx => h x (by simp [hx])
  exact key m 0 h
 unfold ll
 rw [this]
 simp [gB]
theorem Me {m : List Rl} {r : Rl} (h : ∀ x ∈ m, x.path ≠ r.path) {mem : List aw} {b : Nat} (hm : mem[b]? = some (.map (bE strVal 0 (gB m)) (gB m).length)) :
  ch Tryz.prog mem 92 (.mp b) (str r.path) (ag r) = some (mem.set b (.map (bE strVal 0 (gB (m ++ [r]))) (gB (m ++ [r])).length)) := by
 rw [LN.put r.path (ag r) (gB m) hm, Qz h]
def gN (S : List Rl) : List (ByteArray × V) := S.map fun r => (r.path, bl true)
def pD (S : List Rl) (p : ByteArray) : Bool := S.any fun r => decide (r.path = p)
theorem aT (n : Nat) (S : List Rl) : ((bE strVal 0 (gN S)).all fun e => ai n e.2.2) = true := by
 rw [kR strVal (ai n)]
 unfold gN
 simp [ai]
theorem Ea (p : ByteArray) : ∀ S : List Rl, (getM p (gN S)).getD (bl false) = bl (pD S p)
 | [] => rfl
 | r :: t => by
  show (if r.path = p then some (bl true) else getM p (gN t)).getD _ = _
  unfold pD
  rw [List.any_cons]
  by_cases h : r.path = p
  ·simp [h]
  ·have := Ea p t
   unfold pD at this
   simp [h, this]
theorem IZ (S : List Rl) (p : ByteArray) {mem : List aw} {b : Nat} (hm : mem[b]? = some (.map (bE strVal 0 (gN S)) (gN S).length)) : dg Tryz.prog mem 93 (.mp b) (str p) false = some (bl (pD S p)) := by
 rw [T1.get p (gN S) hm NB, Ea]; rfl
theorem QA {S : List Rl} {r : Rl} (h : ∀ x ∈ S, x.path ≠ r.path) : ll r.path (bl true) (gN S) = gN (S ++ [r]) := by
 have : dB r.path (gN S) 0 = none := by
  have key : ∀ (m : List Rl) (n : Nat), (∀ x ∈ m, x.path ≠ r.path) → dB r.path (gN m) n = none := by
   intro m
   induction m with
   | nil => intro n _; rfl
   | cons a t ih =>
    intro n h
    show (if a.path = r.path then _ else dB r.path (gN t) (n + 1)) = none
    rw [if_neg (h a (by simp))]
    exact ih _ fun x hx => h x (by simp [hx])
  exact key S 0 h
 unfold ll
 rw [this]
 simp [gN]
theorem I1 {S : List Rl} {r : Rl} (h : ∀ x ∈ S, x.path ≠ r.path) {mem : List aw} {b : Nat} (hm : mem[b]? = some (.map (bE strVal 0 (gN S)) (gN S).length)) :
  ch Tryz.prog mem 93 (.mp b) (str r.path) (bl true) = some (mem.set b (.map (bE strVal 0 (gN (S ++ [r]))) (gN (S ++ [r])).length)) := by
 rw [T1.put r.path (bl true) (gN S) hm, QA h]
theorem QB {m : List Rl} {q : Rq} (hg : ∀ r ∈ m, r.aC.ok = true) (h : brk m q = false) : ∃ r, IT m q.path = some r ∧ r ∈ m ∧ jW q r = true := by
 unfold brk at h
 cases hb : IT m q.path with
 | none => rw [hb] at h; cases h
 | some r =>
  rw [hb] at h
  obtain ⟨h1, h2⟩ := Ar hb
  refine ⟨r, rfl, h1, ?_⟩
  have DP : r.aC.pl = r.aC.place := by unfold da.pl; rw [if_pos (hg r h1)]
  unfold jW
  have h3 : (!has q.set r.aC.pl) = false := h
  rw [DP] at h3
  simp only [Bool.not_eq_false'] at h3
  simp [h2, h3]
theorem NG (a b c d e f g h i : V) : ox Tryz.prog tt 40 2 (.agg [a, b, c, d, e, f, g, h, i]) = some e := by
 simp [ox, Tryz.underlying40, dy, Sz]
theorem Mf {S : List Rl} : ((bE strVal 0 (gN S)).length : Int) = S.length := by rw [tO]; simp [gN]
theorem Mh {α : Type} [DecidableEq α] {S T : List α} (hS : S.Nodup) (hT : T.Nodup) (h : ∀ x, x ∈ S ↔ x ∈ T) : S.length = T.length :=
 ((List.perm_ext_iff_of_nodup hS hT).2 h).length_eq
theorem Mi (l : List Rl) (s : List fP) : (∃ e : Int, nh l s = .bN [.sc (.slice none 0 0), num e] ∧ e ≠ 0 ∧ (eH l = 0 → ∀ roots, eK l roots s = e)) ∨ (∃ m, lq l s = some m ∧ rQ s = true ∧ nh l s = .bN [.slice (m.map ag), num 0]) := by
 unfold nh eK
 by_cases hi : rQ s = true
 ·rw [if_pos hi]
  cases hm : lq l s with
  | none => exact .inl ⟨6, rfl, by decide, fun hx roots => by rw [if_neg (by simp [hx]), if_pos hi]⟩
  | some m => exact .inr ⟨m, rfl, hi, rfl⟩
 ·rw [if_neg hi]
  exact .inl ⟨1, rfl, by decide, fun hx roots => by rw [if_neg (by simp [hx]), if_neg hi]⟩
theorem I2 (l : List Rl) (s : List fP) (hs : s.length ≤ 1048576) (M : List aw) (k k2 : Nat) (hk : M[k]? = some (.map (bE aN 0 (gK (al l))) (gK (al l)).length)) (kD : M[k2]? = some (.map (bE strVal 0 (gP (al l))) (aA (al l)).length)) (bH : k ≠ k2) :
  ∃ r_ m_, (fun r m => r = nh l s ∧ m = M) r_ m_ ∧ aR Tryz.prog 51 [.agg [.mp k, .mp k2], bZ s] M r_ m_ := by
 obtain ⟨r, m, ⟨rfl, rfl⟩, h⟩ := Ap l s hs
 have OB : ai 2 (nh l s) = true := by
  unfold nh
  split
  ·split <;> simp [ai, dp]
  ·simp [ai, dp]
 have hrv : ∀ σ, bt σ (nh l s) = nh l s := fun σ => by
  unfold nh
  split
  ·split <;> simp [bt, ca]
  ·simp [bt, ca]
 have h3 := ug h M k k2 (by simp [bZ, ai, dp]) (by simp [nS, ab, ae]) OB (by simp [nS, ab, ae]) (by rw [se]; exact hk) (by rw [D0]; exact kD) bH
 rw [se, eY hk, hrv] at h3
 exact ⟨_, _, ⟨rfl, rfl⟩, by simpa [ca, bt, σ2, bZ] using h3⟩
theorem vW (hG : aH.g = some 0) (l : List Rl) (I : List V) (hb : ux l) (roots : List Rq) (hr : roots.length ≤ 1048576) (Rw : ∀ q ∈ roots, xm q) (s : List fP) (hs : s.length ≤ 1048576) : aO Tryz.prog 15 [bk l I, ah roots, bZ s] (num (eK l roots s)) := by
 refine Rf tt_ok [] 93 [.tmp 6] (fn := Tryz.f15) Tryz.func15 rfl Tryz.call15 ⟨rfl, rfl, by simp⟩ fun K hK => ?_
 simp only [bk,aV,ah,bZ]
 have AP := hb.1
 simp only [ab,ae,aF,aT,List.length_map,go_sem,reduceIte,zA,zB,zC,zD,zE,zF,reduceCtorEq]
 refine cW (by have h := fm hG l I hb; simp only [bk,aV] at h; exact h _) ?_
 rintro _ _ ⟨rfl, rfl⟩
 simp only [vC,ND,List.length_cons,List.length_nil,zA]
 simp only [ab,ae,aF,aT,List.length_map,go_sem,reduceIte,zA,zB,zC,zD,zE,zF,reduceCtorEq]
 refine aM (fun gU => ?_) (fun gU => ?_)
 ·have c6 : eH l ≠ 0 := by simpa using gU
  have hR : (1 : Int) = eK l roots s := by unfold eK; rw [if_pos c6]
  simp only [ab,ae,aF,aT,List.length_map,go_sem,reduceIte,zA,zB,zC,zD,zE,zF,reduceCtorEq]
  exact hK _ (Option.some.inj (congrArg (fun x => some (num x)) hR))
 ·have c6 : eH l = 0 := by simpa using gU
  have hgl : al l = l := by unfold al; rw [if_pos c6]
  rcases Mi l s with ⟨e, ki, JO, hsv⟩ | ⟨m, P8, IQ, ki⟩
  ·simp only [ab,ae,aF,aT,List.length_map,go_sem,reduceIte,zA,zB,zC,zD,zE,zF,reduceCtorEq]
   refine cW (by have h := I2 l s hs; simp only [bZ] at h; exact h _ 3 4 rfl rfl (by decide)) ?_
   rintro _ _ ⟨rfl, rfl⟩
   rw [ki]
   simp only [ab,ae,aF,aT,List.length_map,go_sem,reduceIte,zA,zB,zC,zD,zE,zF,reduceCtorEq]
   refine aM (fun zT => ?_) (fun zT => ?_)
   ·have hR : e = eK l roots s := (hsv c6 roots).symm
    simp only [ab,ae,aF,aT,List.length_map,go_sem,reduceIte,zA,zB,zC,zD,zE,zF,reduceCtorEq]
    exact hK _ (Option.some.inj (congrArg (fun x => some (num x)) hR))
   ·exact absurd zT (by simp [JO])
  ·simp only [ab,ae,aF,aT,List.length_map,go_sem,reduceIte,zA,zB,zC,zD,zE,zF,reduceCtorEq]
   refine cW (by have h := I2 l s hs; simp only [bZ] at h; exact h _ 3 4 rfl rfl (by decide)) ?_
   rintro _ _ ⟨rfl, rfl⟩
   rw [ki]
   have hml : m.length ≤ 1048576 := by have := Ao P8; omega
   obtain ⟨uK, Xx⟩ := qy P8
   have Xy := CD P8 IQ
   have Xz := CE Xy
   have AJ : m.Pairwise iZ := Xy.imp fun h => .inl h
   have hmv : ∀ r ∈ m, r.aC.ok = true := fun r hr => uc (Xx r hr)
   have XA : ∀ r ∈ m, r.reqs.length ≤ 16 := fun r hr => mS (Xx r hr)
   have hmb : ∀ r ∈ m, ∀ q ∈ r.reqs, xm q := fun r hr => (hb.2 r (Aj (Xx r hr))).2.2
   have hmt : cz m [] ≤ 16777216 := by
    refine Nat.le_trans (Ah _ _) ?_
    have h1 := fL (g := fun r : Rl => r.reqs) (l := m) (k := 16) XA
    rw [List.length_flatMap] at h1
    omega
   have hS : eK l roots s = if (m.any fun r => r.reqs.any (brk m)) = true ∨ roots.any (brk m) = true then 17 else if (dn m roots).length < m.length then 8 else 0 := by unfold eK; rw [if_neg (by simp [c6]), if_pos IQ, P8]
   simp only [ab,ae,aF,aT,List.length_map,go_sem,reduceIte,zA,zB,zC,zD,zE,zF,reduceCtorEq]
   refine cO tt_ok [] (fun i : Nat => [(1, .slice (roots.map ao)), (9, .slice (m.map ag)), (10, .ptr 7 0), (36, .slice (m.map ag)), (37, num m.length), (38, num i)]) (fun i : Nat => [.box [.slice (l.map ag), .slice I], .box [.slice (l.map ag), .slice I], .box [.mp 3, .mp 4], .map (bE aN 0 (gK (al l))) (gK (al l)).length, .map (bE strVal 0 (gP (al l))) (aA (al l)).length, .box [.mp 3, .mp 4], .map (bE strVal 0 (gB (m.take i))) (gB (m.take i)).length, .box [.mp 6]]) (fun i => m.length - i) (fun i => i ≤ m.length) (0) 8 (bm (by omega) (by simp only [ab,ae,aF,aT,List.length_map,List.take_zero,gB,List.map_nil,bE,List.length_nil,Int.cast_ofNat_Int,go_sem,reduceIte,zA,zB,zC,zD,zE,zF,reduceCtorEq] <;> rfl)) (Nat.zero_le _) ?_
   intro i hi
   intro Z1 bW
   simp only [ab,ae,aF,aT,List.length_map,go_sem,reduceIte,zA,zB,zC,zD,zE,zF,reduceCtorEq]
   refine aM (fun CF => ?_) (fun CF => ?_)
   ·have aD : i < m.length := by simpa using CF
    have hw := aB i (by omega)
    obtain ⟨x, hx⟩ : ∃ x, m[i]? = some x := ⟨_, List.getElem?_eq_getElem aD⟩
    have uw := List.mem_of_getElem? hx
    have sf : m.take (i + 1) = m.take i ++ [x] := ix hx
    have fS : ∀ y ∈ m.take i, y.path ≠ x.path := fun y hy => by
     obtain ⟨j, hj⟩ := List.mem_iff_getElem?.1 hy
     have qD := (List.getElem?_eq_some_iff.1 hj).1
     rw [List.length_take] at qD
     rw [List.getElem?_take_of_lt (by omega)] at hj
     have h1 := List.pairwise_iff_getElem.1 Xy j i (by omega) (by omega) (by omega)
     rw [(List.getElem?_eq_some_iff.1 hj).2, (List.getElem?_eq_some_iff.1 hx).2] at h1
     exact IY h1
    have xU := fun (mem : List aw) (b : Nat) hm => Me fS (mem := mem) (b := b) hm
    simp only [ag,af,ah] at xU
    simp only [ab,ae,aF,aT,hw,List.getElem?_map,hx,Option.map_some,ag,af,ah,xU,List.length_map,go_sem,reduceIte,zA,zB,zC,zD,zE,zF,reduceCtorEq]
    refine bW _ ⟨i + 1, ?_, ?_, bm (by omega) (by (simp only [sf,hw,ab,ae,aF,aT,go_sem,reduceIte,zA,zB,zC,zD,zE,zF,reduceCtorEq]))⟩
    ·exact aD
    ·omega
   ·have c5 : ¬ i < m.length := by simpa using CF
    have rD : i = m.length := by omega
    subst rD
    rw [List.take_length]
    simp only [ab,ae,aF,aT,List.length_map,go_sem,reduceIte,zA,zB,zC,zD,zE,zF,reduceCtorEq]
    refine cO tt_ok [] (fun i : Nat => [(1, .slice (roots.map ao)), (9, .slice (m.map ag)), (10, .ptr 7 0), (13, .fQ (.func 52) [] [.ptr 7 0]), (48, .slice (m.map ag)), (49, num m.length), (50, num i)]) (fun i : Nat => [.box [.slice (l.map ag), .slice I], .box [.slice (l.map ag), .slice I], .box [.mp 3, .mp 4], .map (bE aN 0 (gK (al l))) (gK (al l)).length, .map (bE strVal 0 (gP (al l))) (aA (al l)).length, .box [.mp 3, .mp 4], .map (bE strVal 0 (gB (m))) (gB (m)).length, .box [.mp 6]]) (fun i => m.length - i) (fun i => i ≤ m.length ∧ ∀ j < i, ∀ x, m[j]? = some x → x.reqs.any (brk m) = false) (0) 8 (bm (by omega) (by simp only [ab,ae,aF,aT,List.length_map,Int.cast_ofNat_Int,go_sem,reduceIte,zA,zB,zC,zD,zE,zF,reduceCtorEq] <;> rfl)) (⟨Nat.zero_le _, fun j hj => absurd hj (Nat.not_lt_zero j)⟩) ?_
    rintro i ⟨hi, bh⟩
    intro Z2 qk
    simp only [ab,ae,aF,aT,List.length_map,go_sem,reduceIte,zA,zB,zC,zD,zE,zF,reduceCtorEq]
    refine aM (fun QC => ?_) (fun QC => ?_)
    ·have aD : i < m.length := by simpa using QC
     have hw := aB i (by omega)
     obtain ⟨x, hx⟩ : ∃ x, m[i]? = some x := ⟨_, List.getElem?_eq_getElem aD⟩
     have uw := List.mem_of_getElem? hx
     simp only [ab,ae,aF,aT,hw,List.getElem?_map,hx,Option.map_some,ag,af,ah,List.length_map,go_sem,reduceIte,zA,zB,zC,zD,zE,zF,reduceCtorEq]
     refine cS (Aq m x.reqs (by have := XA x uw; omega) (hmb x uw) _ 6 7 rfl rfl (by decide)) ?_
     rintro _ rfl
     simp only [ab,ae,aF,aT,hw,List.getElem?_map,hx,Option.map_some,ag,af,ah,List.length_map,go_sem,reduceIte,zA,zB,zC,zD,zE,zF,reduceCtorEq]
     refine aM (fun rP => ?_) (fun rP => ?_)
     ·have hR : (17 : Int) = eK l roots s := by rw [hS, if_pos (.inl (List.any_eq_true.2 ⟨x, uw, rP⟩))]
      simp only [ab,ae,aF,aT,hw,List.getElem?_map,hx,Option.map_some,ag,af,ah,List.length_map,go_sem,reduceIte,zA,zB,zC,zD,zE,zF,reduceCtorEq]
      exact hK _ (Option.some.inj (congrArg (fun x => some (num x)) hR))
     ·simp only [ab,ae,aF,aT,hw,List.getElem?_map,hx,Option.map_some,ag,af,ah,List.length_map,go_sem,reduceIte,zA,zB,zC,zD,zE,zF,reduceCtorEq]
      refine qk _ ⟨i + 1, ?_, ?_, bm (by omega) (by (simp only [hw,ab,ae,aF,aT,go_sem,reduceIte,zA,zB,zC,zD,zE,zF,reduceCtorEq]))⟩
      ·refine ⟨aD, fun j hj y hy => ?_⟩
       rcases Nat.lt_or_ge j i with h | h
       ·exact bh j h y hy
       ·obtain rfl : j = i := by omega
        rw [hx] at hy; cases hy; exact rP
      ·omega
    ·have c5 : ¬ i < m.length := by simpa using QC
     have UR : ∀ x ∈ m, x.reqs.any (brk m) = false := fun x hx => by
      obtain ⟨j, hj⟩ := List.mem_iff_getElem?.1 hx
      exact bh j (by have := (List.getElem?_eq_some_iff.1 hj).1; omega) x hj
     simp only [ab,ae,aF,aT,List.length_map,go_sem,reduceIte,zA,zB,zC,zD,zE,zF,reduceCtorEq]
     refine cS (Aq m roots (by omega) Rw _ 6 7 rfl rfl (by decide)) ?_
     rintro _ rfl
     simp only [ab,ae,aF,aT,List.length_map,go_sem,reduceIte,zA,zB,zC,zD,zE,zF,reduceCtorEq]
     refine aM (fun Mj => ?_) (fun Mj => ?_)
     ·have hR : (17 : Int) = eK l roots s := by rw [hS, if_pos (.inr Mj)]
      simp only [ab,ae,aF,aT,List.length_map,go_sem,reduceIte,zA,zB,zC,zD,zE,zF,reduceCtorEq]
      exact hK _ (Option.some.inj (congrArg (fun x => some (num x)) hR))
     ·have bK : ∀ q, (q ∈ roots ∨ ∃ a ∈ m, q ∈ a.reqs) → brk m q = false := fun q hq => by
       rcases hq with hq | ⟨a, ha, hq⟩
       ·have := List.any_eq_false.1 Mj q hq; simpa using this
       ·have := List.any_eq_false.1 (UR a ha) q hq; simpa using this
      have YO : eK l roots s = if (dn m roots).length < m.length then 8 else 0 := by
       rw [hS, if_neg]
       rintro (h | h)
       ·obtain ⟨a, ha, h⟩ := List.any_eq_true.1 h; rw [UR a ha] at h; cases h
       ·rw [Mj] at h; cases h
      simp only [ab,ae,aF,aT,List.length_map,go_sem,reduceIte,zA,zB,zC,zD,zE,zF,reduceCtorEq]
      refine cW (rv roots (by omega) _) ?_
      rintro _ _ ⟨rfl, rfl⟩
      try simp only [vC,List.length_cons,List.length_nil,zA]
      simp only [ab,ae,aF,aT,List.length_map,go_sem,reduceIte,zA,zB,zC,zD,zE,zF,reduceCtorEq]
      refine cO tt_ok [] (fun a : List Rl × List Rq × Nat × Nat × List V => [(9, .slice (m.map ag)), (10, .ptr 7 0), (16, .mp 8), (17, .ms 9 a.2.2.1 a.2.2.2.1 a.2.1.length)]) (fun a : List Rl × List Rq × Nat × Nat × List V => [.box [.slice (l.map ag), .slice I], .box [.slice (l.map ag), .slice I], .box [.mp 3, .mp 4], .map (bE aN 0 (gK (al l))) (gK (al l)).length, .map (bE strVal 0 (gP (al l))) (aA (al l)).length, .box [.mp 3, .mp 4], .map (bE strVal 0 (gB (m))) (gB (m)).length, .box [.mp 6], .map (bE strVal 0 (gN a.1)) (gN a.1).length, .rows a.2.2.1 2 a.2.2.2.2]) (fun a => a.2.1.length + cz m a.1) (fun a => RI m roots a.1 a.2.1 (fun _ => False) ∧ a.1.Pairwise (fun x y => x.path ≠ y.path) ∧ a.2.2.2.2.drop a.2.2.2.1 = a.2.1.map ao ∧ a.2.2.2.1 + a.2.1.length = a.2.2.2.2.length ∧ a.2.1.length + cz m a.1 ≤ roots.length + 16777216) (([], roots, 1, 0, roots.map ao)) 10 (bm (by omega) (by simp only [ab,ae,aF,aT,List.length_map,gN,List.map_nil,bE,List.length_nil,Int.cast_ofNat_Int,go_sem,reduceIte,zA,zB,zC,zD,zE,zF,reduceCtorEq] <;> rfl)) (⟨RI.start _ _, List.Pairwise.nil, rfl, by simp, by dsimp only; have := hmt; omega⟩) ?_
      rintro ⟨S, P, v, o, rs⟩ ⟨II, Vc, AL, Ob, hW⟩
      try dsimp only at II Vc AL Ob hW ⊢
      intro Z3 FF
      simp only [ab,ae,aF,aT,List.length_map,go_sem,reduceIte,zA,zB,zC,zD,zE,zF,reduceCtorEq]
      refine aM (fun xJ => ?_) (fun xJ => ?_)
      ·obtain ⟨q, P, rfl⟩ : ∃ q P2, P = q :: P2 := by
        cases P with
        | nil => simp at xJ
        | cons q r => exact ⟨q, r, rfl⟩
       simp only [List.length_cons] at xJ ⊢
       rw [xJ]
       obtain ⟨IJ, hq⟩ := II.pop
       have b8 : rs[o]? = some (ao q) := by
        have h := congrArg (fun x => x[0]?) AL
        simpa using h
       have kU : rs.drop (o + 1) = P.map ao := by
        rw [← List.drop_drop, AL]; rfl
       have kd : o + 1 + P.length = rs.length := by rw [List.length_cons] at Ob; omega
       rw [List.length_cons] at hW
       have h0 : (0 : Int) < ((P.length + 1 : Nat) : Int) := by omega
       have h1 : (1 : Int) ≤ ((P.length + 1 : Nat) : Int) := by omega
       have dT : (((P.length + 1 : Nat) : Int) - 1).toNat = P.length := by omega
       have c7 : ∀ mem : List aw, mem[9]? = some (.rows v 2 rs) → cutAt mem 2 1 none (.ms 9 v o (P.length + 1)) = some (.ms 9 v (o + 1) P.length) := fun mem hm => by
        unfold cutAt
        simp [eM, hm] <;> omega
       have LG : q ∈ roots ∨ ∃ a ∈ m, q ∈ a.reqs := by
        rcases hq with hq | ⟨a, ha, hq⟩
        ·exact .inl hq
        ·exact .inr ⟨a, (II.sub a ha).mem, hq⟩
       obtain ⟨r, YP, Ry, IK⟩ := QB hmv (bK q LG)
       have T7 := (Ar YP).2
       have Vd := fun (mem : List aw) (b : Nat) hm => IZ S q.path (mem := mem) (b := b) hm
       simp only [ab,ae,aF,aT,b8,h0,h1,dT,c7,List.length_cons,ao,ak,Nat.add_zero,Int.le_refl,Int.toNat_one,Int.toNat_zero,Vd,List.length_map,go_sem,reduceIte,zA,zB,zC,zD,zE,zF,reduceCtorEq]
       refine aM (fun QD => ?_) (fun QD => ?_)
       ·have lE : pD S q.path = false := by simpa using QD
        have I3 : ∀ x ∈ S, x.path ≠ r.path := fun x hx he => by
         have : pD S q.path = true := by unfold pD; exact List.any_eq_true.2 ⟨x, hx, by rw [he, T7]; simp⟩
         rw [lE] at this; cases this
        have eV : seen S r.key = false := by
         cases hk : seen S r.key with
         | false => rfl
         | true => obtain ⟨x, hx, he⟩ := tZ.1 hk; exact absurd (congrArg fP.path he) (I3 x hx)
        have xU := fun (mem : List aw) (b : Nat) hm => I1 I3 (mem := mem) (b := b) hm
        rw [T7] at xU
        have XB := fun (mem : List aw) (b : Nat) hm => Ma YP (mem := mem) (b := b) hm
        simp only [ag,af,ah] at XB
        have YK := qv AJ Ry eV
        have YL := XA r Ry
        have fT := ct r.reqs
        have er : P.length + r.reqs.length ≤ 34359738368 := by omega
        simp only [ab,ae,aF,aT,b8,h0,h1,dT,c7,List.length_cons,ao,ak,Nat.add_zero,Int.le_refl,Int.toNat_one,Int.toNat_zero,Vd,xU,XB,kd,fT,er,NG,List.length_map,go_sem,reduceIte,zA,zB,zC,zD,zE,zF,reduceCtorEq]
        refine Ww ?_
        intro o2 D6 ED xl
        try rw [List.length_map] at xl
        let nv : List Rl × List Rq × Nat × Nat × List V := (S ++ [r], P ++ r.reqs, v + 1, o2, D6)
        have xI : RI m roots (S ++ [r]) (P ++ r.reqs) (fun _ => False) ∧ (S ++ [r]).Pairwise (fun x y => x.path ≠ y.path) ∧ D6.drop o2 = (P ++ r.reqs).map ao ∧ o2 + (P ++ r.reqs).length = D6.length ∧ (P ++ r.reqs).length + cz m (S ++ [r]) ≤ roots.length + 16777216 := by
         refine ⟨(IJ.Xu hq Ry IK).close fun y hy hh => ?_, ?_, by rw [ED, kU, List.map_append], by rw [List.length_append]; omega, by rw [List.length_append]; omega⟩
         ·rw [Xz y hy r Ry (by rw [T7]; exact (mG hh).symm)]; simp
         ·exact List.pairwise_append.2 ⟨Vc, List.pairwise_singleton _ _, fun x hx y hy => by rw [List.mem_singleton] at hy; exact hy ▸ I3 x hx⟩
        simp only [ab,ae,aF,aT,b8,h0,h1,dT,c7,List.length_cons,ao,ak,Nat.add_zero,Int.le_refl,Int.toNat_one,Int.toNat_zero,Vd,xU,XB,kd,fT,er,NG,List.length_map,go_sem,reduceIte,zA,zB,zC,zD,zE,zF,reduceCtorEq]
        refine FF _ ⟨nv, ?_, ?_, bm (by omega) (by (simp only [nv,List.length_append,ab,ae,aF,aT,go_sem,reduceIte,zA,zB,zC,zD,zE,zF,reduceCtorEq]))⟩
        ·exact xI
        ·dsimp only [nv]; omega
       ·have lE : pD S q.path = true := by simpa using QD
        have hrS : r ∈ S := by
         unfold pD at lE
         obtain ⟨x, hx, he⟩ := List.any_eq_true.1 lE
         have he := of_decide_eq_true he
         rw [← Xz x (II.sub x hx).mem r Ry (by rw [he, T7])]; exact hx
        let nv : List Rl × List Rq × Nat × Nat × List V := (S, P, v, o + 1, rs)
        have xI : RI m roots S P (fun _ => False) ∧ S.Pairwise (fun x y => x.path ≠ y.path) ∧ rs.drop (o + 1) = P.map ao ∧ o + 1 + P.length = rs.length ∧ P.length + cz m S ≤ roots.length + 16777216 := by
         refine ⟨IJ.close fun y hy hh => ?_, Vc, kU, kd, by omega⟩
         rw [Xz y hy r Ry (by rw [T7]; exact (mG hh).symm)]; exact hrS
        simp only [ab,ae,aF,aT,b8,h0,h1,dT,c7,List.length_cons,ao,ak,Nat.add_zero,Int.le_refl,Int.toNat_one,Int.toNat_zero,Vd,List.length_map,go_sem,reduceIte,zA,zB,zC,zD,zE,zF,reduceCtorEq]
        refine FF _ ⟨nv, ?_, ?_, bm (by omega) (by (simp only [nv,List.length_append,ab,ae,aF,aT,go_sem,reduceIte,zA,zB,zC,zD,zE,zF,reduceCtorEq]))⟩
        ·exact xI
        ·dsimp only [nv]; omega
      ·obtain rfl : P = [] := by
        cases P with
        | nil => rfl
        | cons q r => simp at xJ
       have hSl : S.length = (dn m roots).length := by
        classical
        refine Mh (S := S) (T := dn m roots) (Vc.imp fun h => fun e => h (congrArg Rl.path e)) ?_ fun x => by rw [II.fin, zp]
        unfold dn
        exact List.Pairwise.filter _ (AJ.imp fun h => fun e => kc h (congrArg Rl.key e))
       have QE : ((bE strVal 0 (gN S)).length : Int) = S.length := Mf
       simp only [ab,ae,aF,aT,QE,ow,rC,List.length_map,go_sem,reduceIte,zA,zB,zC,zD,zE,zF,reduceCtorEq]
       refine aM (fun QF => ?_) (fun QF => ?_)
       ·have hR : (8 : Int) = eK l roots s := by rw [YO, if_pos (by have := of_decide_eq_true QF; omega)]
        simp only [ab,ae,aF,aT,QE,ow,rC,List.length_map,go_sem,reduceIte,zA,zB,zC,zD,zE,zF,reduceCtorEq]
        exact hK _ (Option.some.inj (congrArg (fun x => some (num x)) hR))
       ·have hR : (0 : Int) = eK l roots s := by rw [YO, if_neg (by have := of_decide_eq_false QF; omega)]
        simp only [ab,ae,aF,aT,QE,ow,rC,List.length_map,go_sem,reduceIte,zA,zB,zC,zD,zE,zF,reduceCtorEq]
        exact hK _ (Option.some.inj (congrArg (fun x => some (num x)) hR))
end Go.Proofs.YtnfeacnbgbggfaaGreatDoor
end

section
namespace Go.Proofs.YtnfeacnbgbggfaaGreatDoor
open Go.Eng
variable [aH]
def pA : ByteArray := ⟨#[97,47,118,49]⟩
def pB : ByteArray := ⟨#[98,47,118,49]⟩
def e0 : ByteArray := ⟨#[]⟩
def uA (p : ByteArray) (b : Int) (q : List Rq) (y : Bool) : Rl := ⟨p, ⟨1, b, 0⟩, q, e0, e0, e0, y⟩
def FN : List Rq := [⟨pB, [⟨1000, 1000000⟩]⟩]
def xA : Rl := uA pA 0 FN false
def vX : Rl := uA pB 0 [] false
def si : Rl := uA pB 1 [] false
def CG : Rl := uA pB 2 [] true
def kg : List Rl := [xA, vX, si, CG]
def bw : List Rq := [⟨pA, [⟨0, 1000000⟩]⟩]
def Eb : List fP := [⟨pA, ⟨1, 0, 0⟩⟩, ⟨pB, ⟨1, 0, 0⟩⟩]
def Ec : List fP := [⟨pA, ⟨1, 0, 0⟩⟩, ⟨pB, ⟨1, 1, 0⟩⟩]
theorem Ed : eH kg = 0 := by kernel_rfl
theorem CH : eH [xA] = 0 := by kernel_rfl
theorem Ee : al kg = kg := by unfold al; rw [if_pos Ed]
theorem FO : ux kg := by
 refine ⟨by decide, fun r hr => ?_⟩
 unfold kg at hr
 simp only [List.mem_cons,List.not_mem_nil,or_false] at hr
 rcases hr with rfl | rfl | rfl | rfl
 ·refine ⟨by decide, by decide, fun q hq => ?_⟩
  unfold xA uA FN at hq
  simp only [List.mem_cons,List.not_mem_nil,or_false] at hq
  subst hq
  exact ⟨by decide, by decide⟩
 ·exact ⟨by decide, by decide, fun q hq => by simp [vX, uA] at hq⟩
 ·exact ⟨by decide, by decide, fun q hq => by simp [si, uA] at hq⟩
 ·exact ⟨by decide, by decide, fun q hq => by simp [CG, uA] at hq⟩
theorem I4 : ∀ q ∈ bw, xm q := fun q hq => by
 unfold bw at hq
 simp only [List.mem_cons,List.not_mem_nil,or_false] at hq
 subst hq
 exact ⟨by decide, by decide⟩
theorem QG {l : List Rl} (h : xA ∈ l) : rk l bw xA := .root _ _ (List.mem_singleton.2 rfl) h (by kernel_rfl)
theorem QH {l : List Rl} (h : xA ∈ l) {r : Rl} (hr : r ∈ l) (hh : jW ⟨pB, [⟨1000, 1000000⟩]⟩ r = true) : rk l bw r := .step xA _ r (QG h) (List.mem_singleton.2 rfl) hr hh
theorem T8 : ¬ rk kg bw vX := fun h => by
 have key := KZ (l := kg) (roots := bw) (fun r => r ∈ kg ∧ r ≠ vX ∧ rk kg bw r) (fun r h => h.2.2) (fun q hq r hr hh => ?_) (fun a ha q hq r hr hh => ?_) vX
 ·exact ((key.2 h).2.1) rfl
 ·refine ⟨hr, fun e => ?_, .root q r hq hr hh⟩
  subst e
  unfold bw at hq
  rw [List.mem_singleton] at hq
  subst hq
  exact absurd hh (by rw [show jW ⟨pA, [⟨0, 1000000⟩]⟩ vX = false from by kernel_rfl]; decide)
 ·refine ⟨hr, fun e => ?_, .step a q r ha.2.2 hq hr hh⟩
  subst e
  have h1 := ha.1
  unfold kg at h1
  simp only [List.mem_cons,List.not_mem_nil,or_false] at h1
  rcases h1 with rfl | rfl | rfl | rfl
  ·unfold xA uA FN at hq
   rw [List.mem_singleton] at hq
   subst hq
   exact absurd hh (by rw [show jW ⟨pB, [⟨1000, 1000000⟩]⟩ vX = false from by kernel_rfl]; decide)
  ·simp [vX, uA] at hq
  ·simp [si, uA] at hq
  ·simp [CG, uA] at hq
theorem I5 : (dn (al kg) bw).length = 3 := by
 rw [Ee]
 have hA : rk kg bw xA := QG (by simp [kg])
 have h1 : rk kg bw si := QH (by simp [kg]) (by simp [kg]) (by kernel_rfl)
 have h2 : rk kg bw CG := QH (by simp [kg]) (by simp [kg]) (by kernel_rfl)
 unfold dn
 show (List.filter _ [xA, vX, si, CG]).length = 3
 rw [List.filter_cons_of_pos (by simpa using hA), List.filter_cons_of_neg (by simpa using T8), List.filter_cons_of_pos (by simpa using h1), List.filter_cons_of_pos (by simpa using h2)]
 rfl
theorem FP : eK kg bw Eb = 17 := by
 unfold eK
 rw [if_neg (by rw [Ed]; simp), if_pos (show rQ Eb = true by kernel_rfl), show lq kg Eb = some [xA, vX] by kernel_rfl]
 exact if_pos (.inl (by kernel_rfl))
theorem FQ : eK kg bw Ec = 0 := by
 unfold eK
 rw [if_neg (by rw [Ed]; simp), if_pos (show rQ Ec = true by kernel_rfl), show lq kg Ec = some [xA, si] by kernel_rfl]
 dsimp only
 rw [if_neg (by rw [show ([xA, si].any fun r => r.reqs.any (brk [xA, si])) = false by kernel_rfl, show bw.any (brk [xA, si]) = false by kernel_rfl]; simp)]
 have hA : rk [xA, si] bw xA := QG (by simp)
 have h1 : rk [xA, si] bw si := QH (by simp) (by simp) (by kernel_rfl)
 have : dn [xA, si] bw = [xA, si] := by
  unfold dn
  rw [List.filter_cons_of_pos (by simpa using hA), List.filter_cons_of_pos (by simpa using h1)]
  rfl
 rw [this]
 rfl
theorem I6 : canon (me (bM (al kg) pB)) = [⟨0, 1⟩, ⟨1000, 1001⟩] := by rw [Ee]; kernel_rfl
theorem CI (hG : aH.g = some 0) : aO Tryz.prog 45 [] (.agg [.slice [.agg [str pA, num 1, num 0, num 0, .slice [.agg [str pB, .slice [.agg [num 1000, num 1000000]]]], str e0, str e0, str e0, bl false], .agg [str pB, num 1, num 0, num 0, .slice [], str e0, str e0, str e0, bl false],
  .agg [str pB, num 1, num 1, num 0, .slice [], str e0, str e0, str e0, bl false], .agg [str pB, num 1, num 2, num 0, .slice [], str e0, str e0, str e0, bl true]], .slice []]) := w4 tC (KE hG) 200 (by kernel_rfl)
end Go.Proofs.YtnfeacnbgbggfaaGreatDoor
end

section
namespace Go.Proofs.YtnfeacnbgbggfaaGreatDoor
open Go.Eng
open Nat renaming reduceAdd → zA, reduceLT → zB, reduceLeDiff → zC, reduceMul → zD, reduceEqDiff → zE, reduceSub → zF
variable [aH]
set_option maxHeartbeats 4000000
set_option maxRecDepth 100000
theorem I7 (hG : aH.g = some 0) : ∃ r_, (fun w => w = bl (true)) r_ ∧ aO Tryz.prog 9 [] r_ := by
 refine ef tt_ok [8] 89 [.tmp 0] (fn := Tryz.f9) Tryz.func9 rfl Tryz.call9 ⟨rfl, rfl, by simp⟩ fun K hK => ?_
 obtain ⟨RE, YQ⟩ : ∃ x, x = (dn (al kg) bw).map Rl.key := ⟨_, rfl⟩
 have Cx : ((RE.length : Nat) : Int) = 3 := by rw [YQ, List.length_map, I5]; rfl
 have bd : ∀ (mem : List aw) (ks : List (Nat × Nat)) (n : Int), cp mem ks (num n) = mem := fun _ _ _ => rfl
 have eU : ∀ (mem : List aw) (ks : List (Nat × Nat)) (b : Bool), cp mem ks (bl b) = mem := fun _ _ _ => rfl
 have XC : Cm xA := FO.2 xA (by simp [kg])
 have YR : (qq xA).length ≤ 1048576 := by have h := L7 (Ip (Cw xA ▸ CH)) (by kernel_rfl); omega
 obtain ⟨MS, Ve⟩ : ∃ x, x = bs (qq xA) := ⟨_, rfl⟩
 have XD : MS.size ≤ 1048576 := by rw [Ve, pn]; exact YR
 simp only [List.length_map,Cx,bd,eU,go_sem,reduceIte,zA,zB,zC,zD,zE,zF,reduceCtorEq]
 refine cF (by have h : ∃ r_, (fun w => w = V.agg _) r_ ∧ aO Tryz.prog 45 [] r_ := ⟨_, rfl, CI hG⟩; simp only [kg,bw,Eb,Ec,xA,vX,si,CG,uA,FN,pA,pB,e0,bk,aV,ah,bZ,List.map_cons,List.map_nil,ag,af,ao,ak,aj,br] at h; exact h) ?_
 rintro _ rfl
 simp only [nL,C8,ff,List.length_map,Cx,bd,eU,go_sem,reduceIte,zA,zB,zC,zD,zE,zF,reduceCtorEq]
 refine cF (by have h := zX hG xA XC; rw [L8 CH, ← Ve] at h; simp only [kg,bw,Eb,Ec,xA,vX,si,CG,uA,FN,pA,pB,e0,bk,aV,ah,bZ,List.map_cons,List.map_nil,ag,af,ao,ak,aj,br] at h; exact h) ?_
 rintro _ rfl
 simp only [nL,C8,ff,List.length_map,Cx,bd,eU,go_sem,reduceIte,zA,zB,zC,zD,zE,zF,reduceCtorEq]
 refine cF (by have h := LW hG MS XD; rw [Ve, IG CH XC YR, ← Ve] at h; simp only [kg,bw,Eb,Ec,xA,vX,si,CG,uA,FN,pA,pB,e0,bk,aV,ah,bZ,List.map_cons,List.map_nil,ag,af,ao,ak,aj,br] at h; exact h) ?_
 rintro _ rfl
 simp only [nL,C8,ff,List.length_map,Cx,bd,eU,go_sem,reduceIte,zA,zB,zC,zD,zE,zF,reduceCtorEq]
 refine rM (v' := .slice [.agg [str ⟨#[97,47,118,49]⟩, .slice [.agg [num 0, num 1000000]]]]) 2 (by decide) rfl rfl ?_
 refine rM (v' := .slice [.agg [str ⟨#[97,47,118,49]⟩, num 1, num 0, num 0], .agg [str ⟨#[98,47,118,49]⟩, num 1, num 0, num 0]]) 5 (by decide) rfl rfl ?_
 refine rM (v' := .slice [.agg [str ⟨#[97,47,118,49]⟩, num 1, num 0, num 0], .agg [str ⟨#[98,47,118,49]⟩, num 1, num 1, num 0]]) 6 (by decide) rfl rfl ?_
 refine WO tt_ok [8] aK [⟨.r, 0, [], [], []⟩, ⟨.n, 0, [], [], []⟩, ⟨.n, 0, [], [], []⟩, ⟨.n, 0, [], [], []⟩, ⟨.r, 0, [], [], []⟩, ⟨.n, 0, [], [], []⟩, ⟨.n, 0, [], [], []⟩, ⟨.n, 0, [], [], []⟩, ⟨.n, 0, [], [], []⟩, ⟨.n, 0, [], [], []⟩, ⟨.n, 0, [], [], []⟩, ⟨.r, 0, [], [], []⟩, ⟨.n, 0, [], [], []⟩, ⟨.n, 0, [], [], []⟩, ⟨.n, 0, [], [], []⟩, ⟨.n, 0, [], [], []⟩, ⟨.n, 0, [], [], []⟩, ⟨.n, 0, [], [], []⟩, ⟨.n, 0, [], [], []⟩, ⟨.r, 0, [], [], []⟩, ⟨.n, 0, [], [], []⟩, ⟨.n, 0, [], [], []⟩, ⟨.n, 0, [], [], []⟩, ⟨.n, 0, [], [], []⟩, ⟨.n, 0, [], [], []⟩, ⟨.n, 0, [], [], []⟩, ⟨.r, 0, [], [], []⟩, ⟨.n, 0, [], [], []⟩, ⟨.n, 0, [], [], []⟩, ⟨.n, 0, [], [], []⟩, ⟨.n, 0, [], [], []⟩, ⟨.n, 0, [], [], []⟩, ⟨.n, 0, [], [], []⟩, ⟨.n, 0, [], [], []⟩, ⟨.n, 0, [], [], []⟩, ⟨.n, 0, [], [], []⟩, ⟨.n, 0, [], [], []⟩, ⟨.n, 0, [], [], []⟩, ⟨.n, 0, [], [], []⟩, ⟨.n, 0, [], [], []⟩, ⟨.n, 0, [], [], []⟩, ⟨.r, 0, [], [], []⟩, ⟨.n, 0, [], [], []⟩, ⟨.r, 0, [], [], []⟩, ⟨.r, 0, [], [], []⟩, ⟨.r, 0, [], [], []⟩, ⟨.n, 0, [], [], []⟩, ⟨.n, 0, [], [], []⟩, ⟨.n, 0, [], [], []⟩] 0 (by kernel_rfl) ?_
 simp only [nL,C8,ff,List.length_map,Cx,bd,eU,go_sem,reduceIte,zA,zB,zC,zD,zE,zF,reduceCtorEq]
 refine cG (by have h := tI hG kg [] FO; rw [Ed] at h; simp only [kg,bw,Eb,Ec,xA,vX,si,CG,uA,FN,pA,pB,e0,bk,aV,ah,bZ,List.map_cons,List.map_nil,ag,af,ao,ak,aj,br] at h; exact h) ?_
 rintro _ rfl
 simp only [nL,C8,ff,List.length_map,Cx,bd,eU,go_sem,reduceIte,zA,zB,zC,zD,zE,zF,reduceCtorEq]
 refine cG (by have h := IH hG kg [] FO bw (by decide) I4; rw [← YQ] at h; simp only [kg,bw,Eb,Ec,xA,vX,si,CG,uA,FN,pA,pB,e0,bk,aV,ah,bZ,List.map_cons,List.map_nil,ag,af,ao,ak,aj,br] at h; exact ⟨_, rfl, h⟩) ?_
 rintro _ rfl
 simp only [nL,C8,ff,List.length_map,Cx,bd,eU,go_sem,reduceIte,zA,zB,zC,zD,zE,zF,reduceCtorEq]
 refine cG (by have h := An hG kg [] FO pB; rw [I6] at h; simp only [kg,bw,Eb,Ec,xA,vX,si,CG,uA,FN,pA,pB,e0,bk,aV,ah,bZ,List.map_cons,List.map_nil,ag,af,ao,ak,aj,br] at h; exact ⟨_, rfl, h⟩) ?_
 rintro _ rfl
 simp only [nL,C8,ff,List.length_map,Cx,bd,eU,go_sem,reduceIte,zA,zB,zC,zD,zE,zF,reduceCtorEq]
 refine cG (by have h := r7 [⟨0, 1⟩, ⟨1000, 1001⟩] [⟨0, 1⟩, ⟨1000, 1001⟩] (by decide); rw [show decide (([⟨0, 1⟩, ⟨1000, 1001⟩] : List bB) = [⟨0, 1⟩, ⟨1000, 1001⟩]) = true from decide_eq_true rfl] at h; simp only [kg,bw,Eb,Ec,xA,vX,si,CG,uA,FN,pA,pB,e0,bk,aV,ah,bZ,List.map_cons,List.map_nil,ag,af,ao,ak,aj,br] at h; exact h) ?_
 rintro _ rfl
 simp only [nL,C8,ff,List.length_map,Cx,bd,eU,go_sem,reduceIte,zA,zB,zC,zD,zE,zF,reduceCtorEq]
 refine cG (by have h := vW hG kg [] FO bw (by decide) I4 Eb (by decide); rw [FP] at h; simp only [kg,bw,Eb,Ec,xA,vX,si,CG,uA,FN,pA,pB,e0,bk,aV,ah,bZ,List.map_cons,List.map_nil,ag,af,ao,ak,aj,br] at h; exact ⟨_, rfl, h⟩) ?_
 rintro _ rfl
 simp only [nL,C8,ff,List.length_map,Cx,bd,eU,go_sem,reduceIte,zA,zB,zC,zD,zE,zF,reduceCtorEq]
 refine cG (by have h := vW hG kg [] FO bw (by decide) I4 Ec (by decide); rw [FQ] at h; simp only [kg,bw,Eb,Ec,xA,vX,si,CG,uA,FN,pA,pB,e0,bk,aV,ah,bZ,List.map_cons,List.map_nil,ag,af,ao,ak,aj,br] at h; exact ⟨_, rfl, h⟩) ?_
 rintro _ rfl
 simp only [nL,C8,ff,List.length_map,Cx,bd,eU,go_sem,reduceIte,zA,zB,zC,zD,zE,zF,reduceCtorEq]
 refine cG (by have h := vT xA xA XC; rw [show decide (xA = xA) = true from decide_eq_true rfl] at h; simp only [kg,bw,Eb,Ec,xA,vX,si,CG,uA,FN,pA,pB,e0,bk,aV,ah,bZ,List.map_cons,List.map_nil,ag,af,ao,ak,aj,br] at h; exact h) ?_
 rintro _ rfl
 simp only [nL,C8,ff,List.length_map,Cx,bd,eU,go_sem,reduceIte,zA,zB,zC,zD,zE,zF,reduceCtorEq]
 exact hK _ rfl
end Go.Proofs.YtnfeacnbgbggfaaGreatDoor
end

section
namespace Go.Proofs.YtnfeacnbgbggfaaGreatDoor
open Go.Eng
set_option maxRecDepth 100000
open Go.ChangeShapes Go.WideShapes Go.ChangeAt Go.RowKit
@[reducible] def YS (n : Int) : aH := { n := n, κ := fun _ => none, ok := fun j b hb => (by cases hb), g := some 0, NU := fun _ => none }
theorem I8 {W : World} {v : Value} (bK : Cell.ok Tryz.prog W .any 0 3 v) : ∃ n : Int, v = .int .i64 n := by
 unfold Cell.ok at bK
 rw [Tryz.underlying3] at bK
 cases v with
 | int k n => exact ⟨n, by rw [show k = .i64 from bK.1]⟩
 | _ => exact bK.elim
theorem FR {W : World} (hS : W.ShapedOpen Tryz.prog) : ∃ n : Int, W.cell? ⟨0, 0, none⟩ = some (.int .i64 n) := by
 have h0 : (((begin Tryz.prog (fun _ _ => 0) default).world.heap[0]?).bind Obj.row?) = some (#[.int .i64 0], 3) := by kernel_rfl
 obtain ⟨cs, hc, hz, hr⟩ := hS.1 0 _ _ (of_decide_eq_true (by kernel_rfl)) h0
 obtain ⟨ts, h1, -, h3⟩ := hr (by kernel_rfl)
 obtain rfl : [3] = ts := Option.some.inj ((show Tryz.prog.cellTypes Tryz.prog.depth 3 = some [3] by kernel_rfl).symm.trans h1)
 have hz' : cs.size = 1 := hz
 obtain ⟨v, hv⟩ : ∃ v, cs[0]? = some v := ⟨cs[0], Array.getElem?_eq_getElem (by omega)⟩
 obtain ⟨u, hu, bK⟩ := h3 0 v hv
 obtain rfl : 3 = u := by simpa using hu
 obtain ⟨n, rfl⟩ := I8 bK
 exact ⟨n, by simp [World.cell?, hc, hv]⟩
theorem Ef {F : Addr → Option Value} [aH] {hg : Gl F} {cs : List V} {v : Value} (bH : cs.length ≠ 1) (h : Rd F hg cs v.cells.toList) : aW ⟨F, fun _ _ => none, hg⟩ (.agg cs) v := by
 cases v with
 | agg xs => exact .agg _ _ _ (by simpa [Value.cells] using h.1.1) fun i c x hc hx => h.1.2 i c x hc (by simpa [Value.cells] using hx)
 | _ => exact absurd h.1.1 (by simpa [Value.cells] using bH)
theorem FT {H : Type} {enc : TypeId × Value → H} {P : Program} {f : Func} {s : ChangeSpec} {apart fresh handsOn again : Bool} {W W' : World} {args : Array Value} {v : Value} {ds gs : List (DataW H)} {before pa pv : List MemPlace}
  (hW : DataW.Whole enc P f.params.toList s.vars apart W args.toList ds gs before)
  (ay : ∀ (b : Nat) (sp : Nat → Bool) (hd : Bool), DataW.TrodAll enc P W' b sp hd f.resultTypes.toList (v.resultList f.resultTypes.size) (s.fn H (ds ++ gs)).results [])
  (js : ∀ sp : Nat → Bool, (∀ p ∈ before, sp p.block = true) → DataW.TrodAll enc P W' 0 sp true f.params.toList args.toList (s.fn H (ds ++ gs)).args pa)
  (NH : ∀ sp : Nat → Bool, (∀ p ∈ before, sp p.block = true) → DataW.TrodVars enc P W' sp s.vars (s.fn H (ds ++ gs)).vars pv)
  (XE : before = pa ++ pv) (hb : Below W.heap.size W W')
  (bK : ∀ (j : Nat) (t : TypeId) (r : Value), f.resultTypes[j]? = some t → (v.resultList f.resultTypes.size)[j]? = some r → Value.okWide P W' .any 0 t r) :
  s.post enc P f apart fresh handsOn again W args v W' := by
 have aD := hW.lt
 refine ⟨ds, gs, before, [], pa, pv, hW, ay _ _ _, js _ (fun p hp => by simpa using aD p hp), NH _ (fun p hp => by simpa using aD p hp), hb.frame _, fun _ => ?_⟩
 obtain ⟨_, _, _, _, _, hz, hn⟩ := hW
 refine ⟨bK, _, _, ([] ++ pa) ++ pv, ⟨[] ++ pa, pv, trodAll_append (js _ (fun _ _ => rfl)) (ay _ _ _), NH _ (fun _ _ => rfl), rfl, fun b off hp => ?_, fun ha => ?_⟩, fun p hp _ => ?_⟩
 ·have MR : MemPlace.cell b off ∈ before := by rw [XE]; simpa using hp
  rw [hb.frozen (show (⟨b, off, none⟩ : Addr).block < W.heap.size from aD _ MR)]
  exact hz b off MR
 ·have := hn ha
  rw [XE] at this
  simpa using this
 ·rw [XE]
  simpa using hp
end Go.Proofs.YtnfeacnbgbggfaaGreatDoor
end
