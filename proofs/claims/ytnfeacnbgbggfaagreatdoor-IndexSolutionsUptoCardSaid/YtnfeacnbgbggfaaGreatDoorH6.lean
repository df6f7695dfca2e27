/-
  MAPS with keys of one kind: what reading and writing come to, as lists of keys and values.
  TABLES: the order of a good index, its groups by path (plain).
  TABLES: the maps' types, and what freezing and changing keys make of the tables.
  CONTRACTS: the table of an index.
  CONTRACTS: clones.
  CONTRACTS: Find.
  CONTRACTS: Read.
  PLAIN LAWS of manifests: what is written is read, what is read is written.
  CONTRACTS: equal releases.
  REACHING: what the loop of Reachable keeps (plain).
  CONTRACTS: what Reachable needs.
  CONTRACTS: Reachable.
  CONTRACTS: few releases; a selection that is contained.
  THE LAW IndexReturns.
  CONTRACTS: Available.
  CONTRACTS: the releases of a selection.
-/
import Derived.Test.YtnfeacnbgbggfaaGreatDoorH5
set_option linter.all false
section
namespace Go.Proofs.YtnfeacnbgbggfaaGreatDoor
open Go.Eng
variable [Glob]
section
variable {α : Type} [DecidableEq α]
def mkM (kv : α → Value) : Nat → List (α × V) → List (Value × Nat × V)
 | _, [] => []
 | n, (k, v) :: r => (kv k, n, v) :: mkM kv (n + 1) r
theorem mkM_length (kv : α → Value) : ∀ (g : List (α × V)) (n : Nat), (mkM kv n g).length = g.length
 | [], _ => rfl
 | _ :: r, n => by simp [mkM, mkM_length kv r (n + 1)]
theorem mkM_vals (kv : α → Value) : ∀ (g : List (α × V)) (n : Nat), (mkM kv n g).map (fun e => e.2.2) = g.map (·.2)
 | [], _ => rfl
 | _ :: r, n => by simp [mkM, mkM_vals kv r (n + 1)]
theorem mkM_get (kv : α → Value) : ∀ (g : List (α × V)) (n i : Nat), (mkM kv n g)[i]? = g[i]?.map fun e => (kv e.1, n + i, e.2)
 | [], _, _ => rfl
 | e :: r, n, 0 => rfl
 | e :: r, n, i + 1 => by
  show (mkM kv (n + 1) r)[i]? = _
  rw [mkM_get kv r (n + 1) i, show n + 1 + i = n + (i + 1) by omega]; rfl
theorem mkM_snoc (kv : α → Value) (k : α) (v : V) : ∀ (g : List (α × V)) (n : Nat), mkM kv n (g ++ [(k, v)]) = mkM kv n g ++ [(kv k, n + g.length, v)]
 | [], _ => rfl
 | e :: r, n => by
  show (kv e.1, n, e.2) :: mkM kv (n + 1) (r ++ [(k, v)]) = (kv e.1, n, e.2) :: (mkM kv (n + 1) r ++ _)
  rw [mkM_snoc kv k v r (n + 1), List.length_cons, show n + 1 + r.length = n + (r.length + 1) by omega]
theorem mkM_set (kv : α → Value) (k : α) (v : V) : ∀ (g : List (α × V)) (n i : Nat), i < g.length → mkM kv n (g.set i (k, v)) = (mkM kv n g).set i (kv k, n + i, v)
 | [], _, _, h => by simp at h
 | e :: r, n, 0, _ => rfl
 | e :: r, n, i + 1, h => by
  show (kv e.1, n, e.2) :: mkM kv (n + 1) (r.set i (k, v)) = (kv e.1, n, e.2) :: (mkM kv (n + 1) r).set i _
  rw [mkM_set kv k v r (n + 1) i (by simpa using h), show n + 1 + i = n + (i + 1) by omega]
theorem mkM_all (kv : α → Value) (p : V → Bool) : ∀ (g : List (α × V)) (n : Nat), ((mkM kv n g).all fun e => p e.2.2) = g.all fun e => p e.2
 | [], _ => rfl
 | _ :: r, n => by simp [mkM, mkM_all kv p r (n + 1)]
theorem mkM_frz (kv : α → Value) : ∀ (g : List (α × V)) (vs : List V) (n : Nat), frzKv (mkM kv n g) vs = mkM kv n (List.zipWith (fun e v => (e.1, v)) g vs)
 | [], _, _ => rfl
 | e :: r, [], _ => rfl
 | e :: r, v :: vs, n => by
  show _ :: frzKv (mkM kv (n + 1) r) vs = _
  rw [mkM_frz kv r vs (n + 1)]; rfl
def findM (a : α) : List (α × V) → Nat → Option (Nat × V)
 | [], _ => none
 | e :: r, i => if e.1 = a then some (i, e.2) else findM a r (i + 1)
def getM (a : α) : List (α × V) → Option V
 | [] => none
 | e :: r => if e.1 = a then some e.2 else getM a r
theorem findM_val (a : α) : ∀ (g : List (α × V)) (i : Nat), (findM a g i).map (·.2) = getM a g
 | [], _ => rfl
 | e :: r, i => by
  unfold findM getM
  split
  ·rfl
  ·exact findM_val a r (i + 1)
theorem findM_at {a : α} : ∀ {g : List (α × V)} {n i : Nat} {v : V}, findM a g n = some (i, v) → n ≤ i ∧ g[i - n]? = some (a, v)
 | [], _, _, _, h => by simp [findM] at h
 | e :: r, n, i, v, h => by
  unfold findM at h
  split at h
  ·rename_i he; cases h; subst he; simp
  ·obtain ⟨h1, h2⟩ := findM_at h
   refine ⟨by omega, ?_⟩
   rw [show i - n = (i - (n + 1)) + 1 by omega]; simpa using h2
structure KT (P : Program) (T kt et : TypeId) (kv : α → Value) (ky : α → V) : Prop where
 map : mapDesc P T = some (kt, et)
 val : ∀ a, toVal (ky a) = some (kv a)
 ok : ∀ a, keyOk P kt (kv a) = true
 bits : ∀ a, Instr.sameBits 10000 (kv a) (kv a) = true
 find : ∀ (a : α) (g : List (α × V)), findV P kt (kv a) (mkM kv 0 g) = some (findM a g 0)
theorem KT.now {P : Program} {kt : TypeId} {kv : α → Value} {d : TypeDesc} (hd : P.underlying kt = some d) (h : ∀ a b, Instr.sameNow d (kv a) (kv b) = some (decide (b = a))) (a : α) (g : List (α × V)) : findV P kt (kv a) (mkM kv 0 g) = some (findM a g 0) := by
 have key : ∀ (g : List (α × V)) (n i : Nat), findNowV d (kv a) (mkM kv n g) i = some (findM a g i) := by
  intro g
  induction g with
  | nil => intro n i; rfl
  | cons e r ih =>
   intro n i
   obtain ⟨k, v⟩ := e
   simp only [mkM,findNowV,findM,h]
   by_cases hk : k = a
   ·simp [hk]
   ·rw [decide_eq_false hk, if_neg hk]; exact ih _ _
 unfold findV
 rw [hd]
 dsimp only
 rw [key]
theorem KT.ask {P : Program} {kt : TypeId} {kv : α → Value} {d : TypeDesc} (hd : P.underlying kt = some d) (h0 : ∀ a b, Instr.sameNow d (kv a) (kv b) = none) (h : ∀ a b, scRunP P (Op.equal kt (kv a) (kv b)) = some (decide (a = b))) (a : α) (g : List (α × V)) : findV P kt (kv a) (mkM kv 0 g) = some (findM a g 0) := by
 have key : ∀ (g : List (α × V)) (n i : Nat), findAskV P kt (kv a) (mkM kv n g) i = some (findM a g i) := by
  intro g
  induction g with
  | nil => intro n i; rfl
  | cons e r ih =>
   intro n i
   obtain ⟨k, v⟩ := e
   simp only [mkM,findAskV,findM,h]
   by_cases hk : k = a
   ·simp [hk]
   ·rw [decide_eq_false (fun e => hk e.symm), if_neg hk]; exact ih _ _
 unfold findV
 rw [hd]
 dsimp only
 cases g with
 | nil => rfl
 | cons e r =>
  have : findNowV d (kv a) (mkM kv 0 (e :: r)) 0 = none := by
   obtain ⟨k, v⟩ := e
   simp only [mkM,findNowV,h0]
  rw [this]
  dsimp only
  exact key _ _ _
section
variable {P : Program} {T kt et : TypeId} {kv : α → Value} {ky : α → V}
def putM (a : α) (v : V) (g : List (α × V)) : List (α × V) := match findM a g 0 with
 | none => g ++ [(a, v)]
 | some (i, _) => g.set i (a, v)
theorem KT.put (h : KT P T kt et kv ky) (a : α) (v : V) (g : List (α × V)) {mem : List Blk} {b : Nat} (hm : mem[b]? = some (.map (mkM kv 0 g) g.length)) :
  insertV P mem T (.mp b) (ky a) v = some (mem.set b (.map (mkM kv 0 (putM a v g)) (putM a v g).length)) := by
 unfold insertV
 rw [h.map]
 dsimp only
 rw [h.val]
 dsimp only
 rw [if_pos (h.ok a), hm]
 dsimp only
 unfold insertAt
 rw [h.find]
 unfold putM
 cases hf : findM a g 0 with
 | none =>
  dsimp only
  rw [mkM_snoc, Nat.zero_add, List.length_append, List.length_singleton]
 | some p =>
  obtain ⟨i, w⟩ := p
  obtain ⟨-, h2⟩ := findM_at hf
  rw [Nat.sub_zero] at h2
  dsimp only
  rw [mkM_get, h2]
  dsimp only [Option.map_some]
  rw [if_pos (h.bits a)]
  dsimp only
  rw [mkM_set _ _ _ _ _ _ (List.getElem?_eq_some_iff.1 h2).1, List.length_set]
theorem KT.get (h : KT P T kt et kv ky) (a : α) (g : List (α × V)) {mem : List Blk} {b : Nat} (hm : mem[b]? = some (.map (mkM kv 0 g) g.length)) {z : V} (hz : zeroV P et = some z) (ok : Bool) :
  lookupV P mem T (.mp b) (ky a) ok = some (okV ok (getM a g).isSome ((getM a g).getD z)) := by
 unfold lookupV
 rw [h.map]
 dsimp only
 rw [h.val]
 dsimp only
 rw [if_pos (h.ok a)]
 unfold lookupIn
 dsimp only
 rw [hm]
 dsimp only
 rw [h.find, ← findM_val a g 0]
 cases hf : findM a g 0 with
 | none => dsimp only; rw [hz]; rfl
 | some p => rfl
end
end
end Go.Proofs.YtnfeacnbgbggfaaGreatDoor
end

section
namespace Go.Proofs.YtnfeacnbgbggfaaGreatDoor
open Go.Eng
variable [Glob]
instance lawfulBA : LawfulBEq ByteArray where
 eq_of_beq h := (baBeq_iff _ _).1 h
 rfl := (baBeq_iff _ _).2 rfl
def verLt (a b : Ver) : Prop := a.mj < b.mj ∨ (a.mj = b.mj ∧ (a.mn < b.mn ∨ (a.mn = b.mn ∧ a.pt < b.pt)))
def rlLt (a b : Rl) : Prop := a.path.data.toList < b.path.data.toList ∨ (a.path = b.path ∧ verLt a.ver b.ver)
theorem rlLt.trans {a b c : Rl} (h1 : rlLt a b) (h2 : rlLt b c) : rlLt a c := by
 rcases h1 with h1 | ⟨h1, h1'⟩ <;> rcases h2 with h2 | ⟨h2, h2'⟩
 ·exact .inl (List.lt_trans h1 h2)
 ·exact .inl (h2 ▸ h1)
 ·exact .inl (h1 ▸ h2)
 ·refine .inr ⟨h1.trans h2, ?_⟩
  unfold verLt at *
  omega
theorem path_lt_ne {a b : ByteArray} (h : a.data.toList < b.data.toList) : a ≠ b := fun e => by
 subst e; exact absurd h (List.lt_irrefl _)
theorem ba_tri (a b : ByteArray) : a = b ∨ a.data.toList < b.data.toList ∨ b.data.toList < a.data.toList := by
 by_cases h : a = b
 ·exact .inl h
 ·rcases Decidable.em (a.data.toList < b.data.toList) with h1 | h1
  ·exact .inr (.inl h1)
  ·refine .inr (.inr ?_)
   have h2 : b.data.toList ≤ a.data.toList := h1
   rcases List.le_iff_lt_or_eq.1 h2 with h3 | h3
   ·exact h3
   ·exact absurd (ByteArray.ext (Array.toList_inj.1 h3)).symm h
theorem rlLt_of {a b : Rl} (h1 : ¬ 0 < a.cmp b) (h2 : a.key ≠ b.key) : rlLt a b := by
 unfold Rl.cmp cmpB at h1
 rw [ltB_eq] at h1
 rcases ba_tri a.path b.path with he | hl | hg
 ·right
  refine ⟨he, ?_⟩
  rw [he] at h1
  have hn : ¬ b.path.data.toList < b.path.data.toList := List.lt_irrefl _
  simp only [decide_eq_true_eq,hn,if_false,if_true,ne_eq,not_true_eq_false] at h1
  have hv : a.ver ≠ b.ver := fun e => h2 (Sel.ext' he e)
  have hv' : ¬ (a.ver.mj = b.ver.mj ∧ a.ver.mn = b.ver.mn ∧ a.ver.pt = b.ver.pt) := fun ⟨p, q, r⟩ => hv (Ver.ext' p q r)
  unfold Ver.cmp cmpI at h1
  unfold verLt
  by_cases q1 : a.ver.mj = b.ver.mj
  ·by_cases q2 : a.ver.mn = b.ver.mn
   ·simp [q1, q2] at h1
    have q3 : a.ver.pt ≠ b.ver.pt := fun e => hv' ⟨q1, q2, e⟩
    split at h1 <;> (try split at h1) <;> omega
   ·simp [q1] at h1
    split at h1 <;> (try split at h1) <;> omega
  ·split at h1 <;> (try split at h1) <;> omega
 ·exact .inl hl
 ·have hne : a.path ≠ b.path := fun e => path_lt_ne hg e.symm
  have hnl : ¬ a.path.data.toList < b.path.data.toList := fun h => absurd (List.lt_trans h hg) (List.lt_irrefl _)
  simp [hnl, hne] at h1
theorem ixFrom_sorted : ∀ (l : List Rl) (p : Rl), ixFrom (some p) l = 0 → (p :: l).Pairwise rlLt
 | [], p, _ => List.pairwise_singleton _ _
 | r :: t, p, h => by
  rw [ixFrom_cons] at h
  by_cases h0 : rlE r = 0
  ·rw [if_neg (by simp [h0])] at h
   dsimp only at h
   split at h
   ·omega
   ·rename_i hk
    split at h
    ·omega
    ·rename_i hc
     have ih := ixFrom_sorted t r h
     have hpr := rlLt_of hc hk
     rw [List.pairwise_cons] at ih
     refine List.Pairwise.cons (fun x hx => ?_) (List.pairwise_cons.2 ih)
     rcases List.mem_cons.1 hx with rfl | hx
     ·exact hpr
     ·exact hpr.trans (ih.1 x hx)
  ·rw [if_pos h0] at h; exact absurd h h0
theorem ix_sorted {l : List Rl} (h : ixE l = 0) : l.Pairwise rlLt := by
 unfold ixE at h
 split at h
 ·omega
 ·cases l with
  | nil => exact List.Pairwise.nil
  | cons r t =>
   rw [ixFrom_cons] at h
   by_cases h0 : rlE r = 0
   ·rw [if_neg (by simp [h0])] at h
    exact ixFrom_sorted t r h
   ·rw [if_pos h0] at h; exact absurd h h0
theorem ix_len {l : List Rl} (h : ixE l = 0) : l.length ≤ 256 := by
 unfold ixE at h
 split at h
 ·omega
 ·omega
theorem rlLt_key {a b : Rl} (h : rlLt a b) : a.key ≠ b.key := fun e => by
 have e1 : a.path = b.path := congrArg Sel.path e
 have e2 : a.ver = b.ver := congrArg Sel.ver e
 rcases h with h | ⟨-, h⟩
 ·exact path_lt_ne h e1
 ·rw [e2] at h; unfold verLt at h; omega
def addP (ps : List ByteArray) (p : ByteArray) : List ByteArray := if p ∈ ps then ps else ps ++ [p]
def pathsOf (l : List Rl) : List ByteArray := l.foldl (fun ps r => addP ps r.path) []
theorem pathsOf_snoc (l : List Rl) (r : Rl) : pathsOf (l ++ [r]) = addP (pathsOf l) r.path := by unfold pathsOf; rw [List.foldl_append]; rfl
theorem mem_addP {ps : List ByteArray} {p q : ByteArray} : q ∈ addP ps p ↔ q ∈ ps ∨ q = p := by
 unfold addP
 split
 ·exact ⟨.inl, fun h => h.elim id fun e => e ▸ ‹_›⟩
 ·simp
theorem foldl_snoc_ind {α : Type} {p : List α → Prop} (h0 : p []) (hs : ∀ l x, p l → p (l ++ [x])) (l : List α) : p l := by
 have : ∀ m : List α, p m.reverse := fun m => by
  induction m with
  | nil => exact h0
  | cons x r ih => rw [List.reverse_cons]; exact hs _ _ ih
 have h := this l.reverse
 rwa [List.reverse_reverse] at h
theorem mem_pathsOf {l : List Rl} {p : ByteArray} : p ∈ pathsOf l ↔ ∃ r ∈ l, r.path = p := by
 induction l using foldl_snoc_ind with
 | h0 => simp [pathsOf]
 | hs l x ih =>
  rw [pathsOf_snoc, mem_addP, ih]
  constructor
  ·rintro (⟨r, hr, h⟩ | rfl)
   ·exact ⟨r, List.mem_append_left _ hr, h⟩
   ·exact ⟨x, by simp, rfl⟩
  ·rintro ⟨r, hr, h⟩
   rcases List.mem_append.1 hr with hr | hr
   ·exact .inl ⟨r, hr, h⟩
   ·rw [List.mem_singleton] at hr; subst hr; exact .inr h.symm
theorem pathsOf_nodup (l : List Rl) : (pathsOf l).Nodup := by
 induction l using foldl_snoc_ind with
 | h0 => exact List.nodup_nil
 | hs l x ih =>
  rw [pathsOf_snoc]
  unfold addP
  split
  ·exact ih
  ·rename_i h
   rw [List.nodup_append]
   exact ⟨ih, by simp, fun a ha b hb => by rw [List.mem_singleton] at hb; subst hb; exact fun e => h (e ▸ ha)⟩
def atP (l : List Rl) (p : ByteArray) : List Rl := l.filter fun r => decide (r.path = p)
theorem atP_snoc (l : List Rl) (r : Rl) (p : ByteArray) : atP (l ++ [r]) p = if r.path = p then atP l p ++ [r] else atP l p := by
 unfold atP
 rw [List.filter_append]
 by_cases h : r.path = p <;> simp [h]
def rowsP (l : List Rl) (p : ByteArray) : List V := (atP l p).map encRl
theorem rowsP_snoc_ne {l : List Rl} {r : Rl} {p : ByteArray} (h : r.path ≠ p) : rowsP (l ++ [r]) p = rowsP l p := by unfold rowsP; rw [atP_snoc, if_neg h]
theorem rowsP_snoc (l : List Rl) (r : Rl) : rowsP (l ++ [r]) r.path = rowsP l r.path ++ [encRl r] := by unfold rowsP; rw [atP_snoc, if_pos rfl, List.map_append]; rfl
theorem rowsP_none {l : List Rl} {p : ByteArray} (h : p ∉ pathsOf l) : rowsP l p = [] := by
 unfold rowsP atP
 rw [List.filter_eq_nil_iff.2, List.map_nil]
 intro r hr
 simp only [decide_eq_true_eq]
 exact fun e => h (mem_pathsOf.2 ⟨r, hr, e⟩)
def gP (l : List Rl) : List (ByteArray × V) := (pathsOf l).map fun p => (p, .slice (rowsP l p))
def gL (q : ByteArray) (x : V) (l : List Rl) : List (ByteArray × V) := (pathsOf l).map fun p => (p, if p = q then x else .slice (rowsP l p))
theorem findM_map (f : ByteArray → V) (q : ByteArray) : ∀ (ps : List ByteArray) (n : Nat), findM q (ps.map fun p => (p, f p)) n = if q ∈ ps then some (n + ps.idxOf q, f q) else none
 | [], _ => by simp [findM]
 | p :: r, n => by
  simp only [List.map_cons,findM]
  by_cases h : p = q
  ·subst h; simp
  ·rw [if_neg h, findM_map f q r (n + 1)]
   by_cases h2 : q ∈ r
   ·rw [if_pos h2, if_pos (List.mem_cons_of_mem _ h2), List.idxOf_cons, show (p == q) = false by simpa using h]
    simp only [cond_false]
    rw [show n + 1 + r.idxOf q = n + (r.idxOf q + 1) by omega]
   ·rw [if_neg h2, if_neg (by simp [h2]; exact fun e => h e.symm)]
theorem getM_map (f : ByteArray → V) (q : ByteArray) (ps : List ByteArray) : getM q (ps.map fun p => (p, f p)) = if q ∈ ps then some (f q) else none := by
 rw [← findM_val q _ 0, findM_map]
 split <;> rfl
theorem putM_map_in (f : ByteArray → V) {q : ByteArray} {ps : List ByteArray} (hn : ps.Nodup) (h : q ∈ ps) (v : V) : putM q v (ps.map fun p => (p, f p)) = ps.map fun p => (p, if p = q then v else f p) := by
 unfold putM
 rw [findM_map, if_pos h]
 dsimp only
 apply List.ext_getElem?
 intro i
 rw [List.getElem?_set, List.getElem?_map, List.getElem?_map, Nat.zero_add, List.length_map]
 by_cases hi : ps.idxOf q = i
 ·rw [if_pos hi]
  have hlt := List.idxOf_lt_length_of_mem h
  have hq : ps[i]? = some q := by rw [← hi, List.getElem?_eq_getElem hlt, List.getElem_idxOf hlt]
  rw [if_pos (by omega), hq]; simp
 ·rw [if_neg hi]
  cases hp : ps[i]? with
  | none => rfl
  | some p =>
   have : p ≠ q := fun e => by
    subst e
    have h1 := (List.getElem?_eq_some_iff.1 hp)
    obtain ⟨h2, h3⟩ := h1
    have := hn.idxOf_getElem i h2
    rw [h3] at this
    exact hi this
   simp [this]
theorem putM_map_out (f : ByteArray → V) {q : ByteArray} {ps : List ByteArray} (h : q ∉ ps) (v : V) : putM q v (ps.map fun p => (p, f p)) = ps.map (fun p => (p, f p)) ++ [(q, v)] := by
 unfold putM
 rw [findM_map, if_neg h]
theorem gL_more {q : ByteArray} {l : List Rl} {r : Rl} (hq : r.path = q) (hl : q ∈ pathsOf l) (x y : V) : putM q y (gL q x l) = gL q y (l ++ [r]) := by
 unfold gL
 rw [putM_map_in _ (pathsOf_nodup l) hl, pathsOf_snoc, hq, show addP (pathsOf l) q = pathsOf l from if_pos hl]
 refine List.map_congr_left fun p _ => ?_
 by_cases hp : p = q
 ·simp [hp]
 ·rw [if_neg hp, if_neg hp, if_neg hp, rowsP_snoc_ne (fun e => hp (e.symm.trans hq))]
theorem gP_new {l : List Rl} {r : Rl} (h : r.path ∉ pathsOf l) (y : V) : putM r.path y (gP l) = gL r.path y (l ++ [r]) := by
 unfold gP gL
 rw [putM_map_out _ h, pathsOf_snoc, show addP (pathsOf l) r.path = pathsOf l ++ [r.path] from if_neg h, List.map_append]
 congr 1
 ·refine List.map_congr_left fun p hp => ?_
  have : p ≠ r.path := fun e => h (e ▸ hp)
  rw [if_neg this, rowsP_snoc_ne (fun e => this e.symm)]
 ·simp
theorem gL_get {q : ByteArray} {l : List Rl} (hl : q ∈ pathsOf l) (x : V) : getM q (gL q x l) = some x := by
 unfold gL
 rw [getM_map, if_pos hl, if_pos rfl]
theorem gP_get_none {q : ByteArray} {l : List Rl} (hl : q ∉ pathsOf l) : getM q (gP l) = none := by
 unfold gP
 rw [getM_map, if_neg hl]
theorem new_path {l : List Rl} {p r : Rl} (h : (l ++ [p]).Pairwise rlLt) (hpr : rlLt p r) (hne : p.path ≠ r.path) : r.path ∉ pathsOf (l ++ [p]) := fun hm => by
 obtain ⟨x, hx, he⟩ := mem_pathsOf.1 hm
 rcases hpr with hpr | ⟨e, -⟩
 ·rcases List.mem_append.1 hx with hx | hx
  ·have h1 := (List.pairwise_append.1 h).2.2 x hx p (by simp)
   rcases h1 with h1 | ⟨e, -⟩
   ·exact path_lt_ne (List.lt_trans h1 hpr) he
   ·exact hne (e ▸ he)
  ·rw [List.mem_singleton] at hx; subst hx; exact hne he
 ·exact hne e
def gK (l : List Rl) : List (Sel × V) := l.map fun r => (r.key, encRl r)
theorem findM_none {α : Type} [DecidableEq α] {a : α} : ∀ {g : List (α × V)} {n : Nat}, (∀ e ∈ g, e.1 ≠ a) → findM a g n = none
 | [], _, _ => rfl
 | e :: r, n, h => by
  unfold findM
  rw [if_neg (h e (by simp))]
  exact findM_none fun e' he => h e' (by simp [he])
theorem gK_more {l : List Rl} {r : Rl} (h : ∀ x ∈ l, x.key ≠ r.key) : putM r.key (encRl r) (gK l) = gK (l ++ [r]) := by
 unfold putM gK
 rw [findM_none (fun e he => by obtain ⟨x, hx, rfl⟩ := List.mem_map.1 he; exact h x hx), List.map_append]
 rfl
end Go.Proofs.YtnfeacnbgbggfaaGreatDoor
end

section
namespace Go.Proofs.YtnfeacnbgbggfaaGreatDoor
open Go.Eng
variable [Glob]
set_option maxHeartbeats 4000000
set_option maxRecDepth 100000
def selV (s : Sel) : V := .agg [str s.path, num s.ver.mj, num s.ver.mn, num s.ver.pt]
theorem keyOk_sel (u : Sel) : keyOk Tryz.prog 54 (selVal u) = true := by
 obtain ⟨a, b, c, d⟩ := u
 kernel_rfl
theorem bits_sel (u : Sel) : Instr.sameBits 10000 (selVal u) (selVal u) = true := by
 have h : ∀ s : ByteArray, Instr.sameBits 9999 (.string s) (.string s) = true := fun s => (baBeq_iff s s).2 rfl
 have h2 : ∀ n : Int, Instr.sameBits 9999 (.int .i64 n) (.int .i64 n) = true := fun n => by
  show Instr.sameBits (9998 + 1) _ _ = true
  simp [Instr.sameBits]
 show Instr.sameBits (9999 + 1) (selVal u) (selVal u) = true
 unfold selVal
 rw [Instr.sameBits]
 simp [h, h2]
theorem ktSel {T et : TypeId} (h : mapDesc Tryz.prog T = some (54, et)) : KT Tryz.prog T 54 et selVal selV :=
 ⟨h, fun _ => rfl, keyOk_sel, bits_sel, KT.ask Tryz.underlying54 (fun a b => by unfold selVal; rfl) eq54⟩
def strVal (s : ByteArray) : Value := .string s
theorem ktStr {T et : TypeId} (h : mapDesc Tryz.prog T = some (9, et)) : KT Tryz.prog T 9 et strVal str :=
 ⟨h, fun _ => rfl, fun a => by unfold keyOk; rw [Tryz.underlying9], fun a => (baBeq_iff a a).2 rfl,
  KT.now Tryz.underlying9 fun a b => by
   show some (a == b) = some (decide (b = a))
   congr 1
   rw [Bool.eq_iff_iff, baBeq_iff, decide_eq_true_eq]
   exact ⟨fun h => h.symm, fun h => h.symm⟩⟩
theorem map79 : mapDesc Tryz.prog 79 = some (54, 40) := by kernel_rfl
theorem map80 : mapDesc Tryz.prog 80 = some (9, 22) := by kernel_rfl
theorem map85 : mapDesc Tryz.prog 85 = some (54, 4) := by kernel_rfl
theorem map92 : mapDesc Tryz.prog 92 = some (9, 40) := by kernel_rfl
theorem map93 : mapDesc Tryz.prog 93 = some (9, 4) := by kernel_rfl
theorem zero22 : zeroV Tryz.prog 22 = some (.sc (.slice none 0 0)) := by kernel_rfl
theorem zero4 : zeroV Tryz.prog 4 = some (bl false) := by kernel_rfl
theorem zero40 : zeroV Tryz.prog 40 = some (.agg [str ⟨#[]⟩, num 0, num 0, num 0, .sc (.slice none 0 0), str ⟨#[]⟩, str ⟨#[]⟩, str ⟨#[]⟩, bl false]) := by kernel_rfl
theorem kt79 : KT Tryz.prog 79 54 40 selVal selV := ktSel map79
theorem kt80 : KT Tryz.prog 80 9 22 strVal str := ktStr map80
theorem kt85 : KT Tryz.prog 85 54 4 selVal selV := ktSel map85
theorem kt92 : KT Tryz.prog 92 9 40 strVal str := ktStr map92
theorem kt93 : KT Tryz.prog 93 9 4 strVal str := ktStr map93
theorem encRl_below (n : Nat) (r : Rl) : belowV n (encRl r) = true := by simp [encRl, rlCells, encRqs, belowV, belowL]
theorem gK_below (n : Nat) (l : List Rl) : ((mkM selVal 0 (gK l)).all fun e => belowV n e.2.2) = true := by
 rw [mkM_all selVal (belowV n)]
 unfold gK
 simp [encRl_below]
theorem gL_below {n b : Nat} (h : b < n) (v o k : Nat) (q : ByteArray) (l : List Rl) : ((mkM strVal 0 (gL q (.ms b v o k) l)).all fun e => belowV n e.2.2) = true := by
 rw [mkM_all strVal (belowV n)]
 unfold gL
 rw [List.all_map, List.all_eq_true]
 intro p _
 simp only [Function.comp]
 split
 ·simpa [belowV] using h
 ·rfl
theorem gP_below (n : Nat) (l : List Rl) : ((mkM strVal 0 (gP l)).all fun e => belowV n e.2.2) = true := by
 rw [mkM_all strVal (belowV n)]
 unfold gP
 rw [List.all_map, List.all_eq_true]
 intro p _
 rfl
theorem gL_length (q : ByteArray) (x : V) (l : List Rl) : (gL q x l).length = (pathsOf l).length := by simp [gL]
theorem gP_length (l : List Rl) : (gP l).length = (pathsOf l).length := by simp [gP]
theorem purL_map {α : Type} {mem : List Blk} {f g : α → V} : ∀ {ps : List α}, (∀ p ∈ ps, pur1 mem (f p) = some (g p)) → purL mem (ps.map f) = some (ps.map g)
 | [], _ => rfl
 | p :: r, h => by
  have ih := purL_map (mem := mem) (f := f) (g := g) (ps := r) fun q hq => h q (List.mem_cons_of_mem _ hq)
  simp only [List.map_cons,purL,h p (by simp),ih]
theorem frz_same (B0 B1 B2 B3 B4 : Blk) (rest : List Blk) (v e : Nat) (rs : List V) : ∀ (keys : List (Nat × Nat)), (∀ k ∈ keys, k = (5, v)) → ∀ B5, (B5 = .rows v e rs ∨ B5 = .frz v e rs) →
  ∃ B5', (B5' = .rows v e rs ∨ B5' = .frz v e rs) ∧ frzAll (B0 :: B1 :: B2 :: B3 :: B4 :: B5 :: rest) keys = B0 :: B1 :: B2 :: B3 :: B4 :: B5' :: rest
 | [], _, B5, h => ⟨B5, h, rfl⟩
 | k :: r, hk, B5, h => by
  obtain rfl := hk k (by simp)
  unfold frzAll
  rw [List.foldl_cons]
  rcases h with rfl | rfl
  ·have h1 : frz1 (B0 :: B1 :: B2 :: B3 :: B4 :: .rows v e rs :: rest) (5, v) = B0 :: B1 :: B2 :: B3 :: B4 :: .frz v e rs :: rest := by simp [frz1]
   rw [h1]
   exact frz_same B0 B1 B2 B3 B4 rest v e rs r (fun k hk' => hk k (by simp [hk'])) _ (.inr rfl)
  ·have h1 : frz1 (B0 :: B1 :: B2 :: B3 :: B4 :: .frz v e rs :: rest) (5, v) = B0 :: B1 :: B2 :: B3 :: B4 :: .frz v e rs :: rest := by simp [frz1]
   rw [h1]
   exact frz_same B0 B1 B2 B3 B4 rest v e rs r (fun k hk' => hk k (by simp [hk'])) _ (.inr rfl)
theorem frz_gL (l : List Rl) (q : ByteArray) (v e : Nat) (B0 B1 B2 B3 B4 : Blk) (rest : List Blk) :
  purL (B0 :: B1 :: B2 :: B3 :: B4 :: .rows v e (rowsP l q) :: rest) ((mkM strVal 0 (gL q (.ms 5 v 0 (rowsP l q).length) l)).map fun e => e.2.2) = some ((pathsOf l).map fun p => .slice (rowsP l p)) ∧
  ∃ B5, (∀ n, belowB n B5 = true) ∧ (∀ σ, renB σ B5 = B5) ∧ frzAll (B0 :: B1 :: B2 :: B3 :: B4 :: .rows v e (rowsP l q) :: rest) (((mkM strVal 0 (gL q (.ms 5 v 0 (rowsP l q).length) l)).map fun e => e.2.2).flatMap ref1) = B0 :: B1 :: B2 :: B3 :: B4 :: B5 :: rest := by
 rw [mkM_vals]
 unfold gL
 rw [List.map_map]
 constructor
 ·refine purL_map fun p _ => ?_
  simp only [Function.comp]
  split
  ·rename_i h; subst h
   simp [pur1, purCell]
  ·rfl
 ·obtain ⟨B5, h1, h2⟩ := frz_same B0 B1 B2 B3 B4 rest v e (rowsP l q) (((pathsOf l).map ((fun x => x.2) ∘ fun p => (p, if p = q then V.ms 5 v 0 (rowsP l q).length else V.slice (rowsP l p)))).flatMap ref1) (fun k hk => by
   obtain ⟨x, hx, hk⟩ := List.mem_flatMap.1 hk
   obtain ⟨p, -, rfl⟩ := List.mem_map.1 hx
   simp only [Function.comp] at hk
   split at hk
   ·simpa [ref1, refCell] using hk
   ·simp [ref1, refCell] at hk) _ (.inl rfl)
  exact ⟨B5, fun n => by rcases h1 with rfl | rfl <;> rfl, fun σ => by rcases h1 with rfl | rfl <;> rfl, h2⟩
theorem frz_gL2 (l : List Rl) (q : ByteArray) (x : V) : frzKv (mkM strVal 0 (gL q x l)) ((pathsOf l).map fun p => .slice (rowsP l p)) = mkM strVal 0 (gP l) := by
 rw [mkM_frz]
 congr 1
 unfold gL gP
 rw [List.zipWith_map, List.zipWith_self]
theorem renB_mkM {α : Type} (kv : α → Value) (σ : Nat → Nat) (c : Nat) : ∀ (g : List (α × V)) (n : Nat), renB σ (.map (mkM kv n g) c) = .map (mkM kv n (g.map fun e => (e.1, renV σ e.2))) c := by
 have key : ∀ (g : List (α × V)) (n : Nat), (mkM kv n g).map (fun e => (e.1, e.2.1, renV σ e.2.2)) = mkM kv n (g.map fun e => (e.1, renV σ e.2)) := by
  intro g
  induction g with
  | nil => intro n; rfl
  | cons e r ih => intro n; simp only [mkM,List.map_cons,ih]
 intro g n
 show Blk.map _ _ = _
 rw [key]
theorem renV_rl (σ : Nat → Nat) (r : Rl) : renV σ (encRl r) = encRl r := renV_pure σ (encRl_below 0 r)
theorem renB_gK (σ : Nat → Nat) (l : List Rl) (c : Nat) : renB σ (.map (mkM selVal 0 (gK l)) c) = .map (mkM selVal 0 (gK l)) c := by
 rw [renB_mkM]
 congr 2
 unfold gK
 rw [List.map_map]
 exact List.map_congr_left fun r _ => by simp only [Function.comp,renV_rl]
theorem renB_gL (σ : Nat → Nat) (q : ByteArray) (x : V) (l : List Rl) (c : Nat) : renB σ (.map (mkM strVal 0 (gL q x l)) c) = .map (mkM strVal 0 (gL q (renV σ x) l)) c := by
 rw [renB_mkM]
 congr 2
 unfold gL
 rw [List.map_map]
 refine List.map_congr_left fun p _ => ?_
 simp only [Function.comp]
 split <;> rfl
theorem renB_gP (σ : Nat → Nat) (l : List Rl) (c : Nat) : renB σ (.map (mkM strVal 0 (gP l)) c) = .map (mkM strVal 0 (gP l)) c := by
 rw [renB_mkM]
 congr 2
 unfold gP
 rw [List.map_map]
 exact List.map_congr_left fun p _ => rfl
def lastQ (l : List Rl) : ByteArray := match l.getLast? with | some r => r.path | none => ⟨#[]⟩
theorem lastQ_snoc (l : List Rl) (r : Rl) : lastQ (l ++ [r]) = r.path := by simp [lastQ]
theorem take_snoc {l : List Rl} {i : Nat} {r : Rl} (h : l[i]? = some r) : l.take (i + 1) = l.take i ++ [r] := by rw [List.take_add_one, h]; rfl
theorem same_or_new {l : List Rl} (hs : l.Pairwise rlLt) {i : Nat} {r : Rl} (h : l[i]? = some r) : (r.path = lastQ (l.take i) ∧ r.path ∈ pathsOf (l.take i)) ∨ r.path ∉ pathsOf (l.take i) := by
 have hlt := (List.getElem?_eq_some_iff.1 h).1
 rcases Nat.eq_zero_or_pos i with rfl | hi
 ·exact .inr (by simp [pathsOf])
 ·obtain ⟨j, rfl⟩ : ∃ j, i = j + 1 := ⟨i - 1, by omega⟩
  have hp : l[j]? = some l[j] := List.getElem?_eq_getElem (by omega)
  have ht : (l.take (j + 1)).Pairwise rlLt := List.Pairwise.sublist (List.take_sublist _ _) hs
  have hjr : rlLt l[j] r := by
   have h1 := List.pairwise_iff_getElem.1 hs j (j + 1) (by omega) hlt (by omega)
   rwa [(List.getElem?_eq_some_iff.1 h).2] at h1
  rw [take_snoc hp] at ht ⊢
  rw [lastQ_snoc]
  by_cases he : r.path = l[j].path
  ·exact .inl ⟨he, mem_pathsOf.2 ⟨l[j], List.mem_append_right _ (List.mem_singleton.2 rfl), he.symm⟩⟩
  ·exact .inr (new_path ht hjr fun e => he e.symm)
theorem key_new {l : List Rl} (hs : l.Pairwise rlLt) {i : Nat} {r : Rl} (h : l[i]? = some r) : ∀ x ∈ l.take i, x.key ≠ r.key := fun x hx => by
 obtain ⟨hlt, hr⟩ := List.getElem?_eq_some_iff.1 h
 obtain ⟨j, hj, rfl⟩ := List.getElem_of_mem hx
 rw [List.length_take] at hj
 rw [List.getElem_take]
 have h1 := List.pairwise_iff_getElem.1 hs j i (by omega) hlt (by omega)
 rw [hr] at h1
 exact rlLt_key h1
theorem tb_put1 {l : List Rl} (hs : l.Pairwise rlLt) {i : Nat} {r : Rl} (h : l[i]? = some r) (B0 B1 : Blk) (rest : List Blk) :
  insertV Tryz.prog (B0 :: B1 :: .map (mkM selVal 0 (gK (l.take i))) (gK (l.take i)).length :: rest) 79 (.mp 2) (selV r.key) (encRl r) = some (B0 :: B1 :: .map (mkM selVal 0 (gK (l.take i ++ [r]))) (gK (l.take i ++ [r])).length :: rest) := by
 have := kt79.put r.key (encRl r) (gK (l.take i)) (mem := B0 :: B1 :: .map (mkM selVal 0 (gK (l.take i))) (gK (l.take i)).length :: rest) (b := 2) rfl
 rw [gK_more (key_new hs h)] at this
 exact this
theorem tb_get {g : List (ByteArray × V)} {q : ByteArray} {x : V} {c : Nat} (hc : c = g.length) (h : (getM q g).getD (.sc (.slice none 0 0)) = x) (B0 B1 B2 : Blk) (rest : List Blk) :
  lookupV Tryz.prog (B0 :: B1 :: B2 :: .map (mkM strVal 0 g) c :: rest) 80 (.mp 3) (str q) false = some x := by
 subst hc
 rw [kt80.get q g (b := 3) rfl zero22, h]; rfl
theorem tb_put {g g' : List (ByteArray × V)} {q : ByteArray} {y : V} {c c' : Nat} (hc : c = g.length) (h : putM q y g = g') (hc' : c' = g'.length) (B0 B1 B2 : Blk) (rest : List Blk) :
  insertV Tryz.prog (B0 :: B1 :: B2 :: .map (mkM strVal 0 g) c :: rest) 80 (.mp 3) (str q) y = some (B0 :: B1 :: B2 :: .map (mkM strVal 0 g') c' :: rest) := by
 subst hc; subst hc'; subst h
 exact kt80.put q y g (b := 3) rfl
theorem rowsP_le (l : List Rl) (p : ByteArray) (i : Nat) : (rowsP (l.take i) p).length ≤ l.length := by
 unfold rowsP atP
 rw [List.length_map]
 exact Nat.le_trans (List.length_filter_le _ _) (by rw [List.length_take]; omega)
theorem ex_addRows {P : Program} {ρ : Option Nat} {n0 : Nat} {c : Code} {st : St} {Q : Exit → St → Prop} (v e : Nat) (h : Ex P ρ n0 c { fr := st.fr, mem := st.mem ++ [.rows v e []] } Q) : Ex P ρ n0 c st Q := by
 obtain ⟨ee, s2, hq, h2⟩ := h
 exact ⟨ee, s2, hq, fun Q' h' => tri_weak (fun E w a hs => hs.nilRowsV v e) (h2 Q' h')⟩
def good (l : List Rl) : List Rl := if ixE l = 0 then l else []
def tbM (l : List Rl) (I : List V) : List Blk := [.box [.slice (l.map encRl), .slice I], .box [.mp 2, .mp 3], .map (mkM selVal 0 (gK (good l))) (gK (good l)).length, .map (mkM strVal 0 (gP (good l))) (pathsOf (good l)).length]
theorem tbM_below (l : List Rl) (I : List V) : (tbM l I).all (belowB 4) = true := by
 unfold tbM
 simp only [List.all_cons,List.all_nil,bB_map,bB_box,gK_below,gP_below,belowV,Bool.and_true,decide_eq_true_eq,Bool.true_and]
 decide
theorem tbM_bad {l : List Rl} (h : ixE l ≠ 0) (I : List V) : tbM l I = [.box [.slice (l.map encRl), .slice I], .box [.mp 2, .mp 3], .map [] 0, .map [] 0] := by
 unfold tbM good
 rw [if_neg h]; rfl
theorem tbM_ok {l : List Rl} (h : ixE l = 0) (I : List V) : tbM l I = [.box [.slice (l.map encRl), .slice I], .box [.mp 2, .mp 3], .map (mkM selVal 0 (gK l)) (gK l).length, .map (mkM strVal 0 (gP l)) (pathsOf l).length] := by
 unfold tbM good
 rw [if_pos h]
end Go.Proofs.YtnfeacnbgbggfaaGreatDoor
end

section
namespace Go.Proofs.YtnfeacnbgbggfaaGreatDoor
open Go.Eng
open Nat (reduceAdd reduceLT reduceLeDiff reduceMul reduceEqDiff reduceSub)
variable [Glob]
set_option maxHeartbeats 4000000
set_option maxRecDepth 100000
attribute [local irreducible] runM stepM valD stepOp stepD callF callS
theorem newTable_ok (hG : Glob.g = some 0) (l : List Rl) (I : List V) (hb : IxB l) : ∃ r_ m_, (fun r m => r = .tup [.agg [.mp 2, .mp 3], num (ixE l)] ∧ m = tbM l I) r_ m_ ∧ FnOkS Tryz.prog 46 [encIx l I] ([]) r_ m_ := by
 refine fnw_ex tt_ok (fn := Tryz.f46) (4) (by decide) Tryz.func46 rfl Tryz.call46 ?_
 simp only [ltb,startSt,Tryz.ntmps46,List.length_cons,List.length_nil,reduceAdd,reduceSub,List.replicate_succ,List.replicate_zero]
 simp only [encIx,encRls]
 have hlb := hb.1
 have hbl := tbM_below l I
 refine ex_region_w tt_ok 43 [0,2,2,2] [] rfl rfl fun K hK => ?_
 simp only [ltb,go_sem,reduceLT]
 refine hK _ _ rfl ?_
 simp only [mwb,reduceAdd,reduceEqDiff]
 refine ex_region_w tt_ok 43 [0,0,0,0,2,0,0,0,1,1,1] [] rfl rfl fun K hK => ?_
 simp only [ltb,go_sem,reduceAdd,reduceLT,reduceLeDiff,reduceEqDiff,reduceCtorEq]
 refine hK _ _ rfl ?_
 simp only [mwb,reduceAdd,reduceEqDiff]
 refine ex_seq ?_
 refine ex_region_w tt_ok 43 [0,0,0,0,0,2,0,0,0,0,0,1,1] [] rfl rfl fun K hK => ?_
 refine runX_cut 2 fun K1 hK1 => ?_
 simp only [ltb,go_sem,reduceAdd,reduceLT]
 refine callF_ex (by have h := check_ok hG l I hb; simp only [encIx,encRls] at h; exact h) ?_
 rintro _ rfl
 try simp only [go_sem]
 refine hK1 _ ?_
 simp only [ltb,go_sem,reduceAdd,reduceLT,reduceEqDiff]
 refine hK _ _ rfl ?_
 simp only [mwb,reduceAdd,reduceEqDiff]
 refine ex_region_w tt_ok 43 (rp 13 0 [1,2]) [] rfl rfl fun K hK => ?_
 simp only [ltb,go_sem,reduceAdd,reduceLT]
 refine hK _ _ rfl ?_
 simp only [mwb,reduceAdd,reduceEqDiff]
 refine ex_if rfl (fun hc14 => ?_) (fun hc14 => ?_)
 ·have hix : ixE l ≠ 0 := by simpa using hc14
  have htb := tbM_bad hix I
  have hr : V.tup [.agg [.mp 2, .mp 3], num (ixE l)] = .tup [.agg [.mp 2, .mp 3], num (ixE l)] := rfl
  refine ex_region_w tt_ok 43 (0::0::0::2::(rp 11 0 [1,1])) [] rfl rfl fun K hK => ?_
  simp only [ltb,go_sem,reduceAdd,reduceLT,reduceEqDiff]
  refine hK _ _ rfl ?_
  simp only [mwb,reduceAdd,reduceEqDiff]
  exact ex_ret ⟨.inl rfl, _, ⟨hr, htb.symm⟩, rfl, rfl, by rw [htb] at hbl; exact hbl⟩
 ·have hix : ixE l = 0 := by simpa using hc14
  have htb := tbM_ok hix I
  have hr : V.tup [.agg [.mp 2, .mp 3], num 0] = .tup [.agg [.mp 2, .mp 3], num (ixE l)] := by rw [hix]
  have hs := ix_sorted hix
  refine ex_skip ?_
  show Go.Eng.Ex _ _ _ _ _ _
  refine ex_seq ?_
  refine ex_region_w tt_ok 43 (rp 17 0 [1,2,2,2]) [] rfl rfl fun K hK => ?_
  try simp only [ltb]
  simp only [List.length_map,go_sem,reduceAdd,reduceLT,reduceLeDiff,reduceEqDiff]
  refine hK _ _ rfl ?_
  simp only [mwb,reduceAdd,reduceEqDiff]
  refine ex_block ?_
  refine ex_addRows 0 9 ?_
  simp only [ltb]
  refine ex_loopF (fun a : Nat × Nat => { fr := [.undef, .undef, .ptr 1 0, .undef, .ptr 4 0, .undef, .undef, .undef, .undef, .undef, .undef, .undef, .undef, .undef, .undef, .undef, .undef, .undef, .slice (l.map encRl), num l.length, num a.1, .undef, .undef, .undef, .undef, .undef, .undef, .undef, .undef, .undef, .undef, .undef, .undef, .undef, .undef, .undef, .undef, .undef, .undef, .undef, .undef, .undef, .undef], mem := [.box [.slice (l.map encRl), .slice I], .box [.sc (.map none), .sc (.map none)], .map (mkM selVal 0 (gK (l.take a.1))) (gK (l.take a.1)).length, .map (mkM strVal 0 (gL (lastQ (l.take a.1)) (.ms 5 a.2 0 (rowsP (l.take a.1) (lastQ (l.take a.1))).length) (l.take a.1))) (pathsOf (l.take a.1)).length, .box [.mp 2, .mp 3], .rows a.2 9 (rowsP (l.take a.1) (lastQ (l.take a.1)))] }) (fun a => l.length - a.1) (fun a => a.1 ≤ l.length) ((0, 0)) 6 (false::false::true::false::true::(rp 13 false [true,true,true])) (by omega) (by simp only [maskFr,belowV,reduceLT,mkb]) (by simp only [List.all_cons,List.all_nil,belowV,bB_box,bB_map,bB_rows,reduceLT,decide_true,Bool.and_self,List.take_succ_cons,List.take_nil]) (by simp only [maskFr,mkb] <;> rfl) (Nat.zero_le _) ?_
  rintro ⟨i, v⟩ hi
  dsimp only at hi ⊢
  refine ex_region_w tt_ok 43 (rp 21 0 [2]) [] rfl rfl fun K hK => ?_
  simp only [ltb,go_sem,reduceAdd,reduceLT]
  refine hK _ _ rfl ?_
  simp only [mwb,reduceAdd]
  refine ex_seq ?_
  refine ex_if rfl (fun hc21 => ?_) (fun hc21 => ?_)
  ·have hlt : i < l.length := by simpa using hc21
   have hw := i64_succ i (by omega)
   obtain ⟨x, hx⟩ : ∃ x, l[i]? = some x := ⟨_, List.getElem?_eq_getElem hlt⟩
   have htk := take_snoc hx
   have hp1 := fun B0 B1 rest => tb_put1 hs hx B0 B1 rest
   simp only [selV,encRl,rlCells,encRqs] at hp1
   refine ex_skip ?_
   show Go.Eng.Ex _ _ _ _ _ _
   refine ex_seq ?_
   refine ex_block ?_
   refine ex_region_w tt_ok 43 (0::0::0::0::0::0::0::2::(rp 14 0 [1,1])) [] rfl rfl fun K hK => ?_
   try simp only [ltb]
   simp only [List.getElem?_map,hx,encRl,rlCells,encRqs,go_sem,reduceAdd,reduceLT,reduceEqDiff]
   refine hK _ _ rfl ?_
   simp only [mwb,reduceAdd,reduceEqDiff]
   refine ex_mixed_w tt_ok mixed_ok 43 [0,0,0,0,0,0,0,0,0,0,0,0,0,0,0,0,0,0,0,0,0,0,0,0,1,1,1,1,1] (by kernel_rfl) [⟨.n, 0, [], [], []⟩, ⟨.r, 0, [], [], []⟩, ⟨.r, 0, [], [], []⟩, ⟨.n, 0, [], [], []⟩, ⟨.r, 0, [], [], []⟩, ⟨.w, 0, [], [], []⟩] 1 (by kernel_rfl) fun K hK => ?_
   try simp only [ltb,List.replicate_zero,List.replicate_succ]
   refine runM_cut 4 (by simp) (by simp) fun K1 hK1 => ?_
   simp only [ltb,go_sem,reduceAdd,reduceLT,reduceEqDiff]
   refine callD_ex rfl (by have h := key_ok x; simp only [encRl,rlCells,encRqs,encSel] at h; exact h) ?_
   rintro _ rfl
   try simp only [go_sem]
   refine hK1 _ ?_
   try simp only [ltb]
   simp only [hp1,go_sem,reduceAdd,reduceLT,reduceEqDiff]
   refine hK _ _ rfl ?_
   simp only [mwb]
   rcases same_or_new hs hx with ⟨hq, hqm⟩ | hqn
   ·have hfo : firstOk [V.agg [str x.path, num x.ver.mj, num x.ver.mn, num x.ver.pt, V.slice (x.reqs.map encRq), str x.ar, str x.itf, str x.ce, bl x.yk]] 0 9 = true := rfl
    have hbd : (rowsP (l.take i) (lastQ (l.take i))).length + 1 ≤ 34359738368 := by have := rowsP_le l (lastQ (l.take i)) i; omega
    have hg2 := fun B0 B1 B2 rest => tb_get (g := gL (lastQ (l.take i)) (.ms 5 v 0 (rowsP (l.take i) (lastQ (l.take i))).length) (l.take i)) (q := x.path) (x := .ms 5 v 0 (rowsP (l.take i) (lastQ (l.take i))).length) (gL_length _ _ _).symm (by rw [hq, gL_get (hq ▸ hqm), Option.getD_some]) B0 B1 B2 rest
    have hp2 := fun y B0 B1 B2 rest => tb_put (g := gL (lastQ (l.take i)) (.ms 5 v 0 (rowsP (l.take i) (lastQ (l.take i))).length) (l.take i)) (g' := gL x.path y (l.take i ++ [x])) (q := x.path) (y := y) (gL_length _ _ _).symm (by rw [hq]; exact gL_more hq (hq ▸ hqm) _ y) (gL_length _ _ _).symm B0 B1 B2 rest
    have hrow : rowsP (l.take i ++ [x]) x.path = rowsP (l.take i) (lastQ (l.take i)) ++ [V.agg [str x.path, num x.ver.mj, num x.ver.mn, num x.ver.pt, V.slice (x.reqs.map encRq), str x.ar, str x.itf, str x.ce, bl x.yk]] := by rw [rowsP_snoc, ← hq]; rfl
    have hrl : (rowsP (l.take i) (lastQ (l.take i)) ++ [V.agg [str x.path, num x.ver.mj, num x.ver.mn, num x.ver.pt, V.slice (x.reqs.map encRq), str x.ar, str x.itf, str x.ce, bl x.yk]]).length = (rowsP (l.take i ++ [x]) x.path).length := by rw [hrow]
    refine ex_last_mixed_w tt_ok mixed_ok 43 [0,0,0,0,0,0,0,0,0,0,0,0,0,0,0,0,0,0,0,0,0,0,0,0,0,0,0,0,0,2,2,2,2,2,2,2,2,2,2,2,2] (by kernel_rfl) (by kernel_rfl) [⟨.n, 0, [], [], []⟩, ⟨.b, 0, [], [0], []⟩, ⟨.n, 0, [], [], []⟩, ⟨.b, 0, [], [2], []⟩, ⟨.n, 0, [], [], []⟩, ⟨.r, 0, [], [4], []⟩, ⟨.n, 0, [], [], []⟩, ⟨.r, 0, [], [6], []⟩, ⟨.r, 0, [], [4,5,6,7], []⟩, ⟨.r, 0, [], [], []⟩, ⟨.n, 0, [], [9], []⟩, ⟨.w, 0, [], [4,5,6,7,8,9,10], []⟩, ⟨.w, 1, [], [0,1,2,3,4,5,6,7,8,9,10,11], []⟩] 2 (by kernel_rfl) fun K hK => ?_
    try simp only [ltb,List.replicate_zero,List.replicate_succ]
    refine runM_cut 6 (by simp) (by simp) fun K1 hK1 => ?_
    try simp only [ltb]
    simp only [List.getElem?_map,List.length_cons,List.length_nil,Nat.zero_add,go_sem,reduceAdd,reduceLT,reduceEqDiff]
    refine hK1 _ ?_
    refine runM_cut 6 (by simp) (by simp) fun K1 hK1 => ?_
    try simp only [ltb]
    simp only [hg2,hfo,hbd,List.length_cons,List.length_nil,Nat.zero_add,go_sem,reduceAdd,reduceLT,reduceLeDiff,reduceMul,reduceEqDiff]
    refine hK1 _ ?_
    try simp only [ltb]
    simp only [hp2,List.length_cons,List.length_nil,Nat.zero_add,go_sem,reduceAdd,reduceLT,reduceEqDiff]
    refine hK _ _ rfl ?_
    simp only [mwb,reduceAdd,reduceEqDiff]
    show Go.Eng.Ex _ _ _ _ _ _
    refine ex_last_region_w tt_ok 43 (rp 20 0 (2::(rp 20 0 [2]))) [] (by kernel_rfl) rfl rfl fun K hK => ?_
    try simp only [ltb]
    simp only [hw,List.length_cons,List.length_nil,Nat.zero_add,go_sem,reduceAdd,reduceLT]
    refine hK _ _ rfl ?_
    simp only [mwb,reduceAdd,reduceEqDiff]
    refine ⟨(i + 1, v + 1), ?_, ?_, 6, (false::false::true::false::true::(rp 13 false [true,true,true])), by omega, by simp only [maskFr,belowV,reduceLT,mkb], by simp only [gK_below,gL_below (show 5 < 6 by decide),List.all_cons,List.all_nil,belowV,bB_box,bB_map,bB_rows,reduceLT,decide_true,Bool.and_self,List.take_succ_cons,List.take_zero], by (simp only [htk,lastQ_snoc,hrow,maskFr,mkb])⟩
    ·exact hlt
    ·dsimp only; omega
   ·have hfo : firstOk [V.agg [str x.path, num x.ver.mj, num x.ver.mn, num x.ver.pt, V.slice (x.reqs.map encRq), str x.ar, str x.itf, str x.ce, bl x.yk]] 0 9 = true := rfl
    have hbd : (0 : Nat) + 1 ≤ 34359738368 := by decide
    obtain ⟨hfz, B5, hB5, hB5r, hfa⟩ := frz_gL (l.take i) (lastQ (l.take i)) v 9 (.box [.slice (l.map encRl), .slice I]) (.box [.sc (.map none), .sc (.map none)]) (.map (mkM selVal 0 (gK (l.take i ++ [x]))) (gK (l.take i ++ [x])).length) (.map (mkM strVal 0 (gL (lastQ (l.take i)) (.ms 5 v 0 (rowsP (l.take i) (lastQ (l.take i))).length) (l.take i))) (pathsOf (l.take i)).length) (.box [.mp 2, .mp 3]) [.box [str x.path, num x.ver.mj, num x.ver.mn, num x.ver.pt, V.slice (x.reqs.map encRq), str x.ar, str x.itf, str x.ce, bl x.yk], .hole]
    refine ex_frzMap (k := 3) rfl hfz ?_
    simp only [hfa,frz_gL2,List.set_cons_succ,List.set_cons_zero]
    have hg2 := fun B0 B1 B2 rest => tb_get (g := gP (l.take i)) (q := x.path) (x := .sc (.slice none 0 0)) (gP_length _).symm (by rw [gP_get_none hqn, Option.getD_none]) B0 B1 B2 rest
    have hp2 := fun y B0 B1 B2 rest => tb_put (g := gP (l.take i)) (g' := gL x.path y (l.take i ++ [x])) (q := x.path) (y := y) (gP_length _).symm (gP_new hqn y) (gL_length _ _ _).symm B0 B1 B2 rest
    have hrow : rowsP (l.take i ++ [x]) x.path = [V.agg [str x.path, num x.ver.mj, num x.ver.mn, num x.ver.pt, V.slice (x.reqs.map encRq), str x.ar, str x.itf, str x.ce, bl x.yk]] := by rw [rowsP_snoc, rowsP_none hqn]; rfl
    have hrl : [V.agg [str x.path, num x.ver.mj, num x.ver.mn, num x.ver.pt, V.slice (x.reqs.map encRq), str x.ar, str x.itf, str x.ce, bl x.yk]].length = 1 := rfl
    refine ex_last_mixed_w tt_ok mixed_ok 43 [0,0,0,0,0,0,0,0,0,0,0,0,0,0,0,0,0,0,0,0,0,0,0,0,0,0,0,0,0,2,2,2,2,2,2,2,2,2,2,2,2] (by kernel_rfl) (by kernel_rfl) [⟨.n, 0, [], [], []⟩, ⟨.b, 0, [], [0], []⟩, ⟨.n, 0, [], [], []⟩, ⟨.b, 0, [], [2], []⟩, ⟨.n, 0, [], [], []⟩, ⟨.r, 0, [], [4], []⟩, ⟨.n, 0, [], [], []⟩, ⟨.r, 0, [], [6], []⟩, ⟨.r, 0, [], [4,5,6,7], []⟩, ⟨.r, 0, [], [], []⟩, ⟨.n, 0, [], [9], []⟩, ⟨.w, 0, [], [4,5,6,7,8,9,10], []⟩, ⟨.w, 1, [], [0,1,2,3,4,5,6,7,8,9,10,11], []⟩] 2 (by kernel_rfl) fun K hK => ?_
    try simp only [ltb,List.replicate_zero,List.replicate_succ]
    refine runM_cut 6 (by simp) (by simp) fun K1 hK1 => ?_
    try simp only [ltb]
    simp only [List.getElem?_map,List.length_cons,List.length_nil,Nat.zero_add,go_sem,reduceAdd,reduceLT,reduceEqDiff]
    refine hK1 _ ?_
    refine runM_cut 6 (by simp) (by simp) fun K1 hK1 => ?_
    try simp only [ltb]
    simp only [hg2,hfo,hbd,List.length_cons,List.length_nil,Nat.zero_add,go_sem,reduceAdd,reduceLT,reduceLeDiff,reduceMul,reduceEqDiff]
    refine hK1 _ ?_
    try simp only [ltb]
    simp only [hp2,List.length_cons,List.length_nil,Nat.zero_add,go_sem,reduceAdd,reduceLT,reduceEqDiff]
    refine hK _ _ rfl ?_
    simp only [mwb,reduceAdd,reduceEqDiff]
    refine ex_swap 5 8 (by omega) (by omega) (by simp) (by simp) (by simp [belowV, belowL]) (by simp [bB_map, bB_box, bB_rows, hB5, gK_below, gL_below, belowV, bB_hole]) ?_
    simp only [swapM,renB_gK,renB_gL,hB5r,List.map_cons,List.map_nil,List.set_cons_succ,List.set_cons_zero,List.getD_cons_succ,List.getD_cons_zero]
    simp only [renB,renL,renV,show swp 5 8 8 = 5 from rfl,show swp 5 8 1 = 1 from rfl,show swp 5 8 2 = 2 from rfl,show swp 5 8 3 = 3 from rfl,show swp 5 8 4 = 4 from rfl,show swp 5 8 6 = 6 from rfl]
    show Go.Eng.Ex _ _ _ _ _ _
    refine ex_last_region_w tt_ok 43 (rp 20 0 (2::(rp 20 0 [2]))) [] (by kernel_rfl) rfl rfl fun K hK => ?_
    try simp only [ltb]
    simp only [hw,List.length_cons,List.length_nil,Nat.zero_add,go_sem,reduceAdd,reduceLT]
    refine hK _ _ rfl ?_
    simp only [mwb,reduceAdd,reduceEqDiff]
    refine ⟨(i + 1, 0), ?_, ?_, 6, (false::false::true::false::true::(rp 13 false [true,true,true])), by omega, by simp only [maskFr,belowV,reduceLT,mkb], by simp only [gK_below,gL_below (show 5 < 6 by decide),List.all_cons,List.all_nil,belowV,bB_box,bB_map,bB_rows,reduceLT,decide_true,Bool.and_self,List.take_succ_cons,List.take_zero], by (simp only [htk,lastQ_snoc,hrow,hrl,maskFr,mkb])⟩
    ·exact hlt
    ·dsimp only; omega
  ·have hge : ¬ i < l.length := by simpa using hc21
   have hil : i = l.length := by omega
   subst hil
   rw [List.take_length]
   obtain ⟨hfz, B5, hB5, hB5r, hfa⟩ := frz_gL l (lastQ l) v 9 (.box [.slice (l.map encRl), .slice I]) (.box [.sc (.map none), .sc (.map none)]) (.map (mkM selVal 0 (gK l)) (gK l).length) (.map (mkM strVal 0 (gL (lastQ l) (.ms 5 v 0 (rowsP l (lastQ l)).length) l)) (pathsOf l).length) (.box [.mp 2, .mp 3]) []
   refine ex_frzMap (k := 3) rfl hfz ?_
   simp only [hfa,frz_gL2,List.set_cons_succ,List.set_cons_zero]
   refine ex_exit ?_
   show Go.Eng.Ex _ _ _ _ _ _
   refine ex_region_w tt_ok 43 (0::0::0::2::(rp 38 0 [1])) [] rfl rfl fun K hK => ?_
   simp only [ltb,go_sem,reduceAdd,reduceLT,reduceEqDiff]
   refine hK _ _ rfl ?_
   simp only [mwb,reduceAdd,reduceEqDiff]
   exact ex_ret ⟨.inl rfl, _, ⟨hr, htb.symm⟩, rfl, rfl, by rw [htb] at hbl; exact hbl⟩
end Go.Proofs.YtnfeacnbgbggfaaGreatDoor
end

section
namespace Go.Proofs.YtnfeacnbgbggfaaGreatDoor
open Go.Eng
open Nat (reduceAdd reduceLT reduceLeDiff reduceMul reduceEqDiff reduceSub)
variable [Glob]
set_option maxHeartbeats 4000000
set_option maxRecDepth 100000
attribute [local irreducible] runM stepM valD stepOp stepD callF callS
theorem cloneSet_ok_first (l : List Spn) : firstOk (l.map encSpn) 0 2 = true := by
 cases l <;> rfl
theorem cloneSet_ok (l : List Spn) (hl : l.length ≤ 34359738368) : FnOk Tryz.prog 113 [.slice (l.map encSpn)] (.slice (l.map encSpn)) := by
 have h1 := cloneSet_ok_first l
 have hl' : (l.map encSpn).length ≤ 34359738368 := by rw [List.length_map]; exact hl
 generalize l.map encSpn = rows at h1 hl'
 refine fn_ok tt_ok (fn := Tryz.f113) Tryz.func113 rfl Tryz.call113 ?_
 simp only [ltb,startSt,Tryz.ntmps113,List.length_cons,List.length_nil,reduceAdd,reduceSub,List.replicate_succ,List.replicate_zero]
 refine tri_seq_region tt_ok fun K hK => ?_
 simp only [go_sem]
 refine hK _ ?_
 refine tri_seq ?_
 refine tri_seq_region tt_ok fun K hK => ?_
 simp only [go_sem]
 intro b hb
 refine hK _ ?_
 cases b with
 | true =>
  have h0 : rows = [] := by
   cases rows with
   | nil => rfl
   | cons a r => have := hb (by simp); cases this
  subst h0
  refine tri_cond rfl ?_
  refine tri_seq_region tt_ok fun K hK => ?_
  simp only [go_sem]
  refine hK _ ?_
  exact tri_ret ⟨.inl rfl, rfl⟩
 | false =>
  refine tri_cond rfl (tri_skip ?_)
  show Tri _ _ _ _ _ _
  refine tri_seq_region tt_ok fun K hK => ?_
  simp only [h1,hl',go_sem,reduceAdd,reduceLT,reduceLeDiff]
  refine hK _ ?_
  refine tri_ret ⟨.inl rfl, ?_⟩
  simp [retV, Tryz.f113, resL, resV, pur, pur1, purCell]
theorem cloneRqs_ok_first (l : List Rq) : firstOk (l.map encRq) 0 2 = true := by
 cases l <;> rfl
theorem clone_ok (r : Rl) (hb : RlB r) : ∃ r_, (fun w => w = encRl r) r_ ∧ FnOk Tryz.prog 77 [encRl r] r_ := by
 refine fn_ex tt_ok (fn := Tryz.f77) Tryz.func77 rfl Tryz.call77 ?_
 simp only [ltb,startSt,Tryz.ntmps77,List.length_cons,List.length_nil,reduceAdd,reduceSub,List.replicate_succ,List.replicate_zero]
 simp only [encRl,rlCells,encRqs]
 obtain ⟨hb1, hb2, hb3⟩ := hb
 refine ex_region_w tt_ok 27 [0,2,2] [] rfl rfl fun K hK => ?_
 simp only [ltb,go_sem,reduceLT]
 refine hK _ _ rfl ?_
 simp only [mwb,reduceAdd,reduceEqDiff]
 refine ex_region_w tt_ok 27 [0,0,0,2,0,0,1,1] [] rfl rfl fun K hK => ?_
 simp only [ltb,go_sem,reduceAdd,reduceLT,reduceLeDiff,reduceEqDiff]
 refine hK _ _ rfl ?_
 simp only [mwb,reduceAdd,reduceEqDiff]
 refine ex_region_w tt_ok 27 (rp 8 0 [1]) [] rfl rfl fun K hK => ?_
 simp only [ltb,go_sem,reduceAdd,reduceLT,reduceLeDiff]
 refine hK _ _ rfl ?_
 simp only [mwb]
 refine ex_seq ?_
 refine ex_region_w tt_ok 27 (rp 9 0 [2,2,2]) [] rfl rfl fun K hK => ?_
 try simp only [ltb]
 simp only [List.length_map,go_sem,reduceAdd,reduceLT]
 refine hK _ _ rfl ?_
 simp only [mwb,reduceAdd,reduceEqDiff]
 refine ex_block ?_
 refine ex_nilBox 0 4 0 2 rfl rfl ?_
 simp only [ltb,List.set_cons_zero,List.set_cons_succ,List.length_cons,List.length_nil,Nat.zero_add,reduceAdd]
 refine ex_loopF (fun i : Nat => { fr := [.undef, .ptr 0 0, .ptr 1 0, .undef, .undef, .undef, .undef, .undef, .undef, .slice (r.reqs.map encRq), num r.reqs.length, num i, .undef, .undef, .undef, .undef, .undef, .undef, .undef, .undef, .undef, .undef, .undef, .undef, .undef, .undef, .undef], mem := [.box [str r.path, num r.ver.mj, num r.ver.mn, num r.ver.pt, .ms 2 i 0 i, str r.ar, str r.itf, str r.ce, bl r.yk], .box [str ⟨#[]⟩, num 0, num 0, num 0, .sc (.slice none 0 0), str ⟨#[]⟩, str ⟨#[]⟩, str ⟨#[]⟩, bl false], .rows i 2 ((r.reqs.take i).map encRq)] }) (fun i => r.reqs.length - i) (fun i => i ≤ r.reqs.length) (0) 3 [false,true,true,false,false,false,false,false,false,true,true,true] (by omega) (by simp only [maskFr,belowV,reduceLT,mkb]) (by simp only [List.all_cons,List.all_nil,belowV,belowB,reduceLT,decide_true,Bool.and_self,List.take_succ_cons,List.take_nil]) (by simp only [maskFr,mkb] <;> rfl) (Nat.zero_le _) ?_
 intro i hi
 refine ex_region_w tt_ok 27 (rp 12 0 [2]) [] rfl rfl fun K hK => ?_
 simp only [ltb,go_sem,reduceAdd,reduceLT]
 refine hK _ _ rfl ?_
 simp only [mwb,reduceAdd]
 refine ex_seq ?_
 refine ex_if rfl (fun hc12 => ?_) (fun hc12 => ?_)
 ·have hlt : i < r.reqs.length := by simpa using hc12
  have hw := i64_succ i (by omega)
  obtain ⟨x, hx⟩ : ∃ x, r.reqs[i]? = some x := ⟨_, List.getElem?_eq_getElem hlt⟩
  have htk : (r.reqs.take (i + 1)).map encRq = (r.reqs.take i).map encRq ++ [.agg [str x.path, .slice (x.set.map encSpn)]] := by rw [List.take_add_one, hx, List.map_append]; rfl
  have hfo : firstOk [.agg [str x.path, .slice (x.set.map encSpn)]] 0 2 = true := rfl
  have hll : (r.reqs.take i).length = i := by rw [List.length_take]; omega
  have hbd : i + 1 ≤ 34359738368 := by omega
  have hln : ((r.reqs.take i).map encRq ++ [V.agg [str x.path, .slice (x.set.map encSpn)]]).length = i + 1 := by rw [List.length_append, List.length_map, hll]; rfl
  refine ex_skip ?_
  show Go.Eng.Ex _ _ _ _ _ _
  refine ex_seq ?_
  refine ex_block ?_
  refine ex_region_w tt_ok 27 [0,0,0,0,0,2,0,0,0,0,0,0,0,1,1] [] rfl rfl fun K hK => ?_
  try simp only [ltb]
  simp only [List.getElem?_map,hx,encRq,encSet,List.length_cons,List.length_nil,Nat.zero_add,go_sem,reduceAdd,reduceLT,reduceEqDiff]
  refine hK _ _ rfl ?_
  simp only [mwb,reduceAdd,reduceEqDiff]
  refine ex_region_w tt_ok 27 (rp 15 0 [1,1,1,1]) [] rfl rfl fun K hK => ?_
  refine runX_cut 3 fun K1 hK1 => ?_
  simp only [ltb]
  simp only [List.length_cons,List.length_nil,Nat.zero_add,go_sem,reduceAdd,reduceLT,reduceEqDiff]
  refine callF_ex (⟨_, rfl, cloneSet_ok x.set (by have := (hb3 x (List.mem_of_getElem? hx)).2; omega)⟩) ?_
  rintro _ rfl
  try simp only [go_sem]
  refine hK1 _ ?_
  try simp only [ltb]
  simp only [List.length_cons,List.length_nil,Nat.zero_add,go_sem,reduceAdd,reduceLT,reduceEqDiff]
  refine hK _ _ rfl ?_
  simp only [mwb]
  refine ex_last_region_w tt_ok 27 (rp 19 0 [2,2,2,2,2,2]) [] (by kernel_rfl) rfl rfl fun K hK => ?_
  try simp only [ltb]
  simp only [hll,hbd,hln,List.length_cons,List.length_nil,Nat.zero_add,List.length_map,go_sem,reduceAdd,reduceLT,reduceLeDiff,reduceMul,reduceEqDiff]
  refine hK _ _ rfl ?_
  simp only [mwb,reduceAdd,reduceEqDiff]
  show Go.Eng.Ex _ _ _ _ _ _
  refine ex_last_region_w tt_ok 27 (rp 11 0 (2::(rp 13 0 [2]))) [] (by kernel_rfl) rfl rfl fun K hK => ?_
  try simp only [ltb]
  simp only [hw,List.length_cons,List.length_nil,Nat.zero_add,go_sem,reduceAdd,reduceLT]
  refine hK _ _ rfl ?_
  simp only [mwb,reduceAdd,reduceEqDiff]
  refine ⟨i + 1, ?_, ?_, 3, [false,true,true,false,false,false,false,false,false,true,true,true], by omega, by simp only [maskFr,belowV,reduceLT,mkb], by simp only [ltb,List.all_cons,List.all_nil,belowV,belowB,reduceLT,decide_true,Bool.and_self], by (simp only [htk,maskFr,mkb])⟩
  ·exact hlt
  ·omega
 ·have hge : ¬ i < r.reqs.length := by simpa using hc12
  have hil : i = r.reqs.length := by omega
  subst hil
  refine ex_exit ?_
  show Go.Eng.Ex _ _ _ _ _ _
  refine ex_region_w tt_ok 27 (rp 26 0 [1]) [] rfl rfl fun K hK => ?_
  simp only [ltb,go_sem,reduceAdd,reduceLT,reduceEqDiff,List.take_length]
  refine hK _ _ rfl ?_
  simp only [mwb]
  refine ex_ret ?_
  refine ⟨.inl rfl, _, rfl, ?_⟩
  simp only [retV,Tryz.f77,resL,resV,pur,List.length_map,go_sem,reduceAdd]
  simp []
  exact List.take_of_length_le (by simp)
end Go.Proofs.YtnfeacnbgbggfaaGreatDoor
end

section
namespace Go.Proofs.YtnfeacnbgbggfaaGreatDoor
open Go.Eng
open Nat (reduceAdd reduceLT reduceLeDiff reduceMul reduceEqDiff reduceSub)
variable [Glob]
set_option maxHeartbeats 4000000
set_option maxRecDepth 100000
attribute [local irreducible] runM stepM valD stepOp stepD callF callS
def tbR (k : Nat) (l : List Rl) (I : List V) : List Blk := [.box [.slice (l.map encRl), .slice I], .box [.mp (k + 2), .mp (k + 3)], .map (mkM selVal 0 (gK (good l))) (gK (good l)).length, .map (mkM strVal 0 (gP (good l))) (pathsOf (good l)).length]
theorem newTable_at (hG : Glob.g = some 0) (l : List Rl) (I : List V) (hb : IxB l) (M : List Blk) : ∃ r_ m_, (fun r m => r = .tup [.agg [.mp (M.length + 2), .mp (M.length + 3)], num (ixE l)] ∧ m = M ++ tbR M.length l I) r_ m_ ∧ FnOkS Tryz.prog 46 [encIx l I] M r_ m_ := by
 obtain ⟨r, m, ⟨rfl, rfl⟩, h⟩ := newTable_ok hG l I hb
 have h2 := h.ren M (fun j => M.length + j) 0 rfl (by simp [encIx, encRls, belowV, belowL]) rfl (by simp [belowV, belowL, tbM]) (tbM_below l I) (Nat.zero_le _) (fun i B hi => by simp at hi) (fun i j hi => by omega) (fun j _ => by omega)
 refine ⟨_, _, ⟨?_, ?_⟩, by simpa only [renL, renV, encIx, encRls] using h2⟩
 ·simp only
 ·unfold putR tbM tbR
  simp only [ltb,setAll,List.map_cons,List.map_nil,renB_gK,renB_gP]
  simp only [renB,renL,renV]
def fnd (l : List Rl) (s : Sel) : Option Rl := (good l).find? fun r => decide (r.key = s)
def zeroRl : Rl := ⟨⟨#[]⟩, ⟨0, 0, 0⟩, [], ⟨#[]⟩, ⟨#[]⟩, ⟨#[]⟩, false⟩
theorem getM_gK (s : Sel) : ∀ (l : List Rl), getM s (gK l) = (l.find? fun r => decide (r.key = s)).map encRl
 | [] => rfl
 | r :: t => by
  show (if r.key = s then some (encRl r) else getM s (gK t)) = _
  rw [List.find?_cons]
  by_cases h : r.key = s
  ·simp [h]
  ·simp [h, getM_gK s t]
theorem tb_find {l : List Rl} {s : Sel} {r : Rl} (h : fnd l s = some r) {mem : List Blk} {b : Nat} (hm : mem[b]? = some (.map (mkM selVal 0 (gK (good l))) (gK (good l)).length)) :
  lookupV Tryz.prog mem 79 (.mp b) (selV s) true = some (.tup [encRl r, bl true]) := by
 rw [kt79.get s (gK (good l)) hm zero40, getM_gK]
 unfold fnd at h
 rw [h]; rfl
theorem tb_find0 {l : List Rl} {s : Sel} (h : fnd l s = none) {mem : List Blk} {b : Nat} (hm : mem[b]? = some (.map (mkM selVal 0 (gK (good l))) (gK (good l)).length)) :
  lookupV Tryz.prog mem 79 (.mp b) (selV s) true = some (.tup [.agg [str ⟨#[]⟩, num 0, num 0, num 0, .sc (.slice none 0 0), str ⟨#[]⟩, str ⟨#[]⟩, str ⟨#[]⟩, bl false], bl false]) := by
 rw [kt79.get s (gK (good l)) hm zero40, getM_gK]
 unfold fnd at h
 rw [h]; rfl
theorem fnd_mem {l : List Rl} {s : Sel} {r : Rl} (h : fnd l s = some r) : r ∈ l := by
 unfold fnd at h
 have := List.mem_of_find?_eq_some h
 unfold good at this
 split at this
 ·exact this
 ·simp at this
theorem zeroRl_B : RlB zeroRl := ⟨by decide, by decide, fun q hq => by simp [zeroRl] at hq⟩
theorem clone0_ok : ∃ r_, (fun w => w = V.agg [str ⟨#[]⟩, num 0, num 0, num 0, .slice [], str ⟨#[]⟩, str ⟨#[]⟩, str ⟨#[]⟩, bl false]) r_ ∧ FnOk Tryz.prog 77 [.agg [str ⟨#[]⟩, num 0, num 0, num 0, .slice [], str ⟨#[]⟩, str ⟨#[]⟩, str ⟨#[]⟩, bl false]] r_ := by
 have h := clone_ok zeroRl zeroRl_B
 exact h
theorem find_ok (hG : Glob.g = some 0) (l : List Rl) (I : List V) (hb : IxB l) (p : ByteArray) (v : Ver) : ∃ r_, (fun w => w = .tup [encRl ((fnd l ⟨p, v⟩).getD zeroRl), bl (fnd l ⟨p, v⟩).isSome]) r_ ∧ FnOk Tryz.prog 24 [encIx l I, str p, encVer v] r_ := by
 refine fn_ex tt_ok (fn := Tryz.f24) Tryz.func24 rfl Tryz.call24 ?_
 simp only [ltb,startSt,Tryz.ntmps24,List.length_cons,List.length_nil,reduceAdd,reduceSub,List.replicate_succ,List.replicate_zero]
 simp only [encIx,encRls,encVer]
 refine ex_region_w tt_ok 29 [0,0,0,2,0,2,2,2] [] rfl rfl fun K hK => ?_
 simp only [ltb,go_sem,reduceAdd,reduceLT,reduceEqDiff]
 refine hK _ _ rfl ?_
 simp only [mwb,reduceAdd,reduceEqDiff]
 refine ex_region_w tt_ok 29 (rp 8 0 [2,1,0,0,1,1,1,1,1]) [] rfl rfl fun K hK => ?_
 refine runX_cut 2 fun K1 hK1 => ?_
 simp only [ltb,go_sem,reduceAdd,reduceLT]
 refine callF_w (by have h := newTable_at hG l I hb; simp only [encIx,encRls] at h; exact h _) ?_
 rintro _ _ ⟨rfl, rfl⟩
 try simp only [go_sem,reduceAdd]
 simp only [tbR,reduceAdd]
 refine hK1 _ ?_
 simp only [ltb,go_sem,reduceAdd,reduceLT,reduceEqDiff]
 refine hK _ _ rfl ?_
 simp only [mwb,reduceAdd,reduceEqDiff]
 rcases hf : fnd l ⟨p, v⟩ with _ | r
 ·have hlk := fun (mem : List Blk) (b : Nat) hm => tb_find0 hf (mem := mem) (b := b) hm
  simp only [selV] at hlk
  refine ex_region_w tt_ok 29 (rp 10 0 (2::2::0::0::0::0::0::(rp 9 1 []))) [] rfl rfl fun K hK => ?_
  refine runX_cut 8 fun K1 hK1 => ?_
  simp only [ltb]
  simp only [hlk,go_sem,reduceAdd,reduceLT,reduceLeDiff,reduceEqDiff,reduceCtorEq]
  refine hK1 _ ?_
  simp only [ltb,go_sem,reduceAdd,reduceLT,reduceEqDiff]
  refine hK _ _ rfl ?_
  simp only [mwb,reduceAdd,reduceEqDiff]
  refine ex_region_w tt_ok 29 (0::0::0::0::0::0::0::2::(rp 18 0 [1,1,1])) [] rfl rfl fun K hK => ?_
  refine runX_cut 2 fun K1 hK1 => ?_
  simp only [ltb,go_sem,reduceAdd,reduceLT]
  refine callF_ex (by first | exact clone0_ok | (have h := clone_ok r hrb; simp only [encRl,rlCells,encRqs] at h; exact h)) ?_
  rintro _ rfl
  try simp only [go_sem]
  refine hK1 _ ?_
  simp only [ltb,go_sem,reduceAdd,reduceLT,reduceEqDiff]
  refine hK _ _ rfl ?_
  simp only [mwb,reduceAdd,reduceEqDiff]
  refine ex_ret ?_
  refine ⟨.inl rfl, _, rfl, ?_⟩
  rfl
 ·have hrb : RlB r := hb.2 r (fnd_mem hf)
  have hlk := fun (mem : List Blk) (b : Nat) hm => tb_find hf (mem := mem) (b := b) hm
  simp only [selV,encRl,rlCells,encRqs] at hlk
  refine ex_region_w tt_ok 29 (rp 10 0 (2::2::0::0::0::0::0::(rp 9 1 []))) [] rfl rfl fun K hK => ?_
  refine runX_cut 8 fun K1 hK1 => ?_
  simp only [ltb]
  simp only [hlk,go_sem,reduceAdd,reduceLT,reduceLeDiff,reduceEqDiff,reduceCtorEq]
  refine hK1 _ ?_
  simp only [ltb,go_sem,reduceAdd,reduceLT,reduceEqDiff]
  refine hK _ _ rfl ?_
  simp only [mwb,reduceAdd,reduceEqDiff]
  refine ex_region_w tt_ok 29 (0::0::0::0::0::0::0::2::(rp 18 0 [1,1,1])) [] rfl rfl fun K hK => ?_
  refine runX_cut 2 fun K1 hK1 => ?_
  simp only [ltb,go_sem,reduceAdd,reduceLT]
  refine callF_ex (by first | exact clone0_ok | (have h := clone_ok r hrb; simp only [encRl,rlCells,encRqs] at h; exact h)) ?_
  rintro _ rfl
  try simp only [go_sem]
  refine hK1 _ ?_
  simp only [ltb,go_sem,reduceAdd,reduceLT,reduceEqDiff]
  refine hK _ _ rfl ?_
  simp only [mwb,reduceAdd,reduceEqDiff]
  refine ex_ret ?_
  refine ⟨.inl rfl, _, rfl, ?_⟩
  rfl
end Go.Proofs.YtnfeacnbgbggfaaGreatDoor
end

section
namespace Go.Proofs.YtnfeacnbgbggfaaGreatDoor
open Go.Eng
open Nat (reduceAdd reduceLT reduceLeDiff reduceMul reduceEqDiff reduceSub)
variable [Glob]
set_option maxHeartbeats 4000000
set_option maxRecDepth 100000
attribute [local irreducible] runM stepM valD stepOp stepD callF callS
theorem stI_le {s : ByteArray} {a : Nat} {e : Int} (h : a ≤ s.size) : (stI s a e).2.1 ≤ s.size := by
 unfold stI
 split
 ·exact h
 ·cases hr : rdI s a with
  | none => exact h
  | some p => exact (rdI_bd hr).2
theorem rdT_bd {s t : ByteArray} {a j : Nat} (h : rdT s a = some (t, j)) : t.size ≤ s.size ∧ j ≤ s.size := by
 have := of_rdT h
 omega
theorem stT_le {s : ByteArray} {a : Nat} {e : Int} (h : a ≤ s.size) : (stT s a e).2.1 ≤ s.size := by
 unfold stT
 split
 ·exact h
 ·cases hr : rdT s a with
  | none => exact h
  | some p => exact (rdT_bd hr).2
theorem stT_size (s : ByteArray) (a : Nat) (e : Int) : (stT s a e).1.size ≤ s.size := by
 unfold stT
 split
 ·exact Nat.zero_le _
 ·cases hr : rdT s a with
  | none => exact Nat.zero_le _
  | some p => exact (rdT_bd hr).1
theorem stC_le {m : Int} {s : ByteArray} {a : Nat} {e : Int} (h : a ≤ s.size) : (stC m s a e).2.1 ≤ s.size := by
 unfold stC
 split
 ·exact h
 ·cases hr : rdI s a with
  | none => exact h
  | some p =>
   dsimp only
   split
   ·exact (rdI_bd hr).2
   ·exact h
theorem stC_most {m : Int} {s : ByteArray} {a : Nat} {e : Int} (hm : 0 ≤ m) : ((stC m s a e).1 : Int) ≤ m := by
 unfold stC
 split
 ·exact hm
 ·cases hr : rdI s a with
  | none => exact hm
  | some p =>
   dsimp only
   split
   ·assumption
   ·exact hm
def rdS (s : ByteArray) : Nat → Nat × Int → List Spn × Nat × Int
 | 0, st => ([], st)
 | n + 1, st => if st.2 ≠ 0 then ([], st) else
   (⟨((stI s st.1 st.2).1 : Int), ((stI s (stI s st.1 st.2).2.1 (stI s st.1 st.2).2.2).1 : Int)⟩ :: (rdS s n (stI s (stI s st.1 st.2).2.1 (stI s st.1 st.2).2.2).2).1, (rdS s n (stI s (stI s st.1 st.2).2.1 (stI s st.1 st.2).2.2).2).2)
def rdQ1 (s : ByteArray) (st : Nat × Int) : Rq × Nat × Int :=
 let t := stT s st.1 st.2
 let c := stC (s.size : Int) s t.2.1 t.2.2
 let r := rdS s c.1 c.2
 (⟨t.1, r.1⟩, r.2)
def rdQ (s : ByteArray) : Nat → Nat × Int → List Rq × Nat × Int
 | 0, st => ([], st)
 | n + 1, st => ((rdQ1 s st).1 :: (rdQ s n (rdQ1 s st).2).1, (rdQ s n (rdQ1 s st).2).2)
theorem rdS_le (s : ByteArray) : ∀ (n : Nat) (st : Nat × Int), st.1 ≤ s.size → (rdS s n st).2.1 ≤ s.size ∧ (rdS s n st).1.length ≤ n
 | 0, st, h => ⟨h, Nat.le_refl _⟩
 | n + 1, st, h => by
  rw [rdS]
  split
  ·exact ⟨h, Nat.zero_le _⟩
  ·have := rdS_le s n _ (stI_le (e := (stI s st.1 st.2).2.2) (stI_le (e := st.2) h))
   exact ⟨this.1, by rw [List.length_cons]; omega⟩
theorem rdQ1_le (s : ByteArray) (st : Nat × Int) (h : st.1 ≤ s.size) : (rdQ1 s st).2.1 ≤ s.size ∧ (rdQ1 s st).1.path.size ≤ s.size ∧ (rdQ1 s st).1.set.length ≤ s.size := by
 unfold rdQ1
 dsimp only
 have h1 := stT_le (e := st.2) h
 have h2 := stC_le (m := (s.size : Int)) (e := (stT s st.1 st.2).2.2) h1
 have h3 := rdS_le s (stC (s.size : Int) s (stT s st.1 st.2).2.1 (stT s st.1 st.2).2.2).1 _ h2
 have h4 := stC_most (m := (s.size : Int)) (s := s) (a := (stT s st.1 st.2).2.1) (e := (stT s st.1 st.2).2.2) (by omega)
 exact ⟨h3.1, stT_size _ _ _, by omega⟩
theorem rdQ_le (s : ByteArray) : ∀ (n : Nat) (st : Nat × Int), st.1 ≤ s.size → (rdQ s n st).2.1 ≤ s.size ∧ (rdQ s n st).1.length = n ∧ ∀ q ∈ (rdQ s n st).1, q.path.size ≤ s.size ∧ q.set.length ≤ s.size
 | 0, st, h => ⟨h, rfl, fun q hq => by simp [rdQ] at hq⟩
 | n + 1, st, h => by
  have h1 := rdQ1_le s st h
  have h2 := rdQ_le s n _ h1.1
  rw [rdQ]
  refine ⟨h2.1, by rw [List.length_cons, h2.2.1], fun q hq => ?_⟩
  rcases List.mem_cons.1 hq with rfl | hq
  ·exact h1.2
  ·exact h2.2.2 q hq
theorem rdQ_end (s : ByteArray) : ∀ (n : Nat) (st : Nat × Int), rdQ s (n + 1) st = ((rdQ s n st).1 ++ [(rdQ1 s (rdQ s n st).2).1], (rdQ1 s (rdQ s n st).2).2)
 | 0, st => rfl
 | n + 1, st => by
  rw [rdQ, rdQ_end s n]
  rfl
def rdHead (s : ByteArray) : Rl × Nat × Nat × Int :=
 let p := stT s 0 0
 let mn := stI s p.2.1 p.2.2
 let pt := stI s mn.2.1 mn.2.2
 let y := stC 1 s pt.2.1 pt.2.2
 let ar := stT s y.2.1 y.2.2
 let itf := stT s ar.2.1 ar.2.2
 let ce := stT s itf.2.1 itf.2.2
 let n := stC 16 s ce.2.1 ce.2.2
 (⟨p.1, ⟨majN p.1, (mn.1 : Int), (pt.1 : Int)⟩, [], ar.1, itf.1, ce.1, decide ((y.1 : Int) = 1)⟩, n)
def rdRl (s : ByteArray) : Rl × Nat × Int :=
 let h := rdHead s
 let q := rdQ s h.2.1 h.2.2
 ({ h.1 with reqs := q.1 }, q.2)
def readOk (s : ByteArray) : Bool := decide (majE (stT s 0 0).1 = 0) && decide (endE s (rdRl s).2.1 (rdRl s).2.2 = 0) && decide (ixE [(rdRl s).1] = 0)
def readV (s : ByteArray) : V := if readOk s = true then .tup [encRl (rdRl s).1, num 0] else .tup [encRl zeroRl, num 9]
theorem read_ok (hG : Glob.g = some 0) (s : ByteArray) (hs : s.size ≤ 1048576) : ∃ r_, (fun w => w = readV s) r_ ∧ FnOk Tryz.prog 19 [str s] r_ := by
 refine fn_ex tt_ok (fn := Tryz.f19) Tryz.func19 rfl Tryz.call19 ?_
 simp only [ltb,startSt,Tryz.ntmps19,List.length_cons,List.length_nil,reduceAdd,reduceSub,List.replicate_succ,List.replicate_zero]
 have hT9 : Tryz.prog.underlying 9 = some .string := by kernel_rfl
 have sl : ∀ (a : ByteArray) (ty : TypeId), liftL Tryz.prog (Builtin.len_ #[9] ty) [.sc (.string a)] = some (num a.size) := fun a ty => ev_slen (P := Tryz.prog) (tt := tt) (T := 9) a hT9 ty
 have hs2 : s.size ≤ 1073741824 := by omega
 have hman : ∀ (mem : List Blk) (ks : List (Nat × Nat)) (n : Int), memAfter mem ks (num n) = mem := fun _ _ _ => rfl
 refine ex_region_w tt_ok 91 [0,0,2,2] [] rfl rfl fun K hK => ?_
 simp only [ltb,go_sem]
 refine hK _ _ rfl ?_
 simp only [mwb,reduceAdd,reduceEqDiff]
 refine ex_region_w tt_ok 91 [0,0,0,0,2,0,0,0,0,0,1,1] [] rfl rfl fun K hK => ?_
 refine runX_cut 2 fun K1 hK1 => ?_
 simp only [ltb,go_sem,reduceLT]
 refine callF_w (newReader_at s _) ?_
 rintro _ _ ⟨rfl, rfl⟩
 try simp only [go_sem]
 try simp only [ltb,List.length_cons,List.length_nil,reduceAdd]
 refine hK1 _ ?_
 simp only [ltb,go_sem,reduceAdd,reduceLT,reduceEqDiff]
 refine hK _ _ rfl ?_
 simp only [mwb,reduceAdd,reduceEqDiff]
 refine ex_region_w tt_ok 91 [0,0,0,0,0,2,0,0,0,0,0,0,1,1,1] [] rfl rfl fun K hK => ?_
 refine runX_cut 2 fun K1 hK1 => ?_
 simp only [ltb,go_sem,reduceAdd,reduceLT]
 refine callS_w (rtext_at s hs2 0 0 (Nat.zero_le _) _ 1 rfl) ?_
 rintro _ _ ⟨rfl, rfl⟩
 try simp only [go_sem]
 obtain ⟨x1, hx1⟩ : ∃ x, x = stT s 0 0 := ⟨_, rfl⟩
 rw [← hx1]
 have hl1 : x1.2.1 ≤ s.size := hx1 ▸ stT_le (Nat.zero_le _)
 have hz1 : x1.1.size ≤ s.size := hx1 ▸ stT_size _ _ _
 try simp only [List.set_cons_zero,List.set_cons_succ]
 refine hK1 _ ?_
 simp only [ltb,go_sem,reduceAdd,reduceLT,reduceLeDiff,reduceEqDiff,reduceCtorEq]
 refine hK _ _ rfl ?_
 simp only [mwb,reduceAdd,reduceEqDiff]
 refine ex_region_w tt_ok 91 [0,0,0,0,0,0,1,2,2,0,0,0,0,0,0,1,1,1,1,1,1,1] [] rfl rfl fun K hK => ?_
 refine runX_cut 3 fun K1 hK1 => ?_
 simp only [ltb,go_sem,reduceAdd,reduceLT,reduceLeDiff,reduceEqDiff]
 refine callF_ex (line_ok hG x1.1 (by omega)) ?_
 rintro _ ⟨nm, rfl⟩
 try simp only [go_sem]
 refine hK1 _ ?_
 simp only [ltb,go_sem,reduceAdd,reduceLT,reduceEqDiff]
 refine hK _ _ rfl ?_
 simp only [mwb,reduceAdd,reduceEqDiff]
 refine ex_seq ?_
 refine ex_region_w tt_ok 91 (rp 22 0 [1,2]) [] rfl rfl fun K hK => ?_
 simp only [ltb,go_sem,reduceAdd,reduceLT]
 refine hK _ _ rfl ?_
 simp only [mwb,reduceAdd,reduceEqDiff]
 refine ex_if rfl (fun hc23 => ?_) (fun hc23 => ?_)
 ·have hR : readV s = .tup [encRl zeroRl, num 9] := by
   unfold readV readOk
   rw [← hx1, if_neg (by have : ¬ majE x1.1 = 0 := (by simpa using hc23); simp [this])]
  refine ex_region_w tt_ok 91 (0::0::0::2::(rp 20 0 [1])) [] rfl rfl fun K hK => ?_
  simp only [ltb,go_sem,reduceAdd,reduceLT,reduceEqDiff,reduceCtorEq]
  refine hK _ _ rfl ?_
  simp only [mwb,reduceAdd,reduceEqDiff]
  exact ex_ret ⟨.inl rfl, _, hR.symm, rfl⟩
 ·have hmj : majE x1.1 = 0 := by simpa using hc23
  refine ex_skip ?_
  show Go.Eng.Ex _ _ _ _ _ _
  refine ex_region_w tt_ok 91 (rp 25 0 [1,1,1,1,1,1,1]) [] rfl rfl fun K hK => ?_
  refine runX_cut 3 fun K1 hK1 => ?_
  simp only [ltb,go_sem,reduceAdd,reduceLT,reduceEqDiff]
  refine callS_w (ruint_at s hs2 x1.2.1 x1.2.2 hl1 _ 1 rfl) ?_
  rintro _ _ ⟨rfl, rfl⟩
  try simp only [go_sem]
  obtain ⟨x2, hx2⟩ : ∃ x, x = stI s x1.2.1 x1.2.2 := ⟨_, rfl⟩
  rw [← hx2]
  have hl2 : x2.2.1 ≤ s.size := hx2 ▸ stI_le hl1
  try simp only [List.set_cons_zero,List.set_cons_succ]
  refine hK1 _ ?_
  refine runX_cut 2 fun K1 hK1 => ?_
  simp only [ltb,go_sem,reduceAdd,reduceLT,reduceEqDiff]
  refine callS_w (ruint_at s hs2 x2.2.1 x2.2.2 hl2 _ 1 rfl) ?_
  rintro _ _ ⟨rfl, rfl⟩
  try simp only [go_sem]
  obtain ⟨x3, hx3⟩ : ∃ x, x = stI s x2.2.1 x2.2.2 := ⟨_, rfl⟩
  rw [← hx3]
  have hl3 : x3.2.1 ≤ s.size := hx3 ▸ stI_le hl2
  try simp only [List.set_cons_zero,List.set_cons_succ]
  refine hK1 _ ?_
  simp only [ltb,go_sem,reduceAdd,reduceLT,reduceLeDiff,reduceEqDiff,reduceCtorEq]
  refine hK _ _ rfl ?_
  simp only [mwb]
  refine ex_region_w tt_ok 91 (rp 32 0 [1,1,1,1]) [] rfl rfl fun K hK => ?_
  refine runX_cut 2 fun K1 hK1 => ?_
  simp only [ltb,go_sem,reduceAdd,reduceLT]
  refine callS_w (rcount_at s hs2 1 x3.2.1 x3.2.2 hl3 _ 1 rfl) ?_
  rintro _ _ ⟨rfl, rfl⟩
  try simp only [go_sem]
  obtain ⟨x4, hx4⟩ : ∃ x, x = stC 1 s x3.2.1 x3.2.2 := ⟨_, rfl⟩
  rw [← hx4]
  have hl4 : x4.2.1 ≤ s.size := hx4 ▸ stC_le hl3
  try simp only [List.set_cons_zero,List.set_cons_succ]
  refine hK1 _ ?_
  simp only [ltb,go_sem,reduceAdd,reduceLT,reduceEqDiff]
  refine hK _ _ rfl ?_
  simp only [mwb]
  refine ex_region_w tt_ok 91 (rp 36 0 (rp 9 1 [])) [] rfl rfl fun K hK => ?_
  refine runX_cut 2 fun K1 hK1 => ?_
  simp only [ltb,go_sem,reduceAdd,reduceLT]
  refine callS_w (rtext_at s hs2 x4.2.1 x4.2.2 hl4 _ 1 rfl) ?_
  rintro _ _ ⟨rfl, rfl⟩
  try simp only [go_sem]
  obtain ⟨x5, hx5⟩ : ∃ x, x = stT s x4.2.1 x4.2.2 := ⟨_, rfl⟩
  rw [← hx5]
  have hl5 : x5.2.1 ≤ s.size := hx5 ▸ stT_le hl4
  try simp only [List.set_cons_zero,List.set_cons_succ]
  refine hK1 _ ?_
  refine runX_cut 2 fun K1 hK1 => ?_
  simp only [ltb,go_sem,reduceAdd,reduceLT,reduceEqDiff]
  refine callS_w (rtext_at s hs2 x5.2.1 x5.2.2 hl5 _ 1 rfl) ?_
  rintro _ _ ⟨rfl, rfl⟩
  try simp only [go_sem]
  obtain ⟨x6, hx6⟩ : ∃ x, x = stT s x5.2.1 x5.2.2 := ⟨_, rfl⟩
  rw [← hx6]
  have hl6 : x6.2.1 ≤ s.size := hx6 ▸ stT_le hl5
  try simp only [List.set_cons_zero,List.set_cons_succ]
  refine hK1 _ ?_
  refine runX_cut 2 fun K1 hK1 => ?_
  simp only [ltb,go_sem,reduceAdd,reduceLT,reduceEqDiff]
  refine callS_w (rtext_at s hs2 x6.2.1 x6.2.2 hl6 _ 1 rfl) ?_
  rintro _ _ ⟨rfl, rfl⟩
  try simp only [go_sem]
  obtain ⟨x7, hx7⟩ : ∃ x, x = stT s x6.2.1 x6.2.2 := ⟨_, rfl⟩
  rw [← hx7]
  have hl7 : x7.2.1 ≤ s.size := hx7 ▸ stT_le hl6
  try simp only [List.set_cons_zero,List.set_cons_succ]
  refine hK1 _ ?_
  simp only [ltb,go_sem,reduceAdd,reduceLT,reduceLeDiff,reduceEqDiff]
  refine hK _ _ rfl ?_
  simp only [mwb]
  refine ex_seq ?_
  refine ex_region_w tt_ok 91 (rp 45 0 [1,2,2]) [] rfl rfl fun K hK => ?_
  refine runX_cut 2 fun K1 hK1 => ?_
  simp only [ltb,go_sem,reduceAdd,reduceLT]
  refine callS_w (rcount_at s hs2 16 x7.2.1 x7.2.2 hl7 _ 1 rfl) ?_
  rintro _ _ ⟨rfl, rfl⟩
  try simp only [go_sem]
  obtain ⟨x8, hx8⟩ : ∃ x, x = stC 16 s x7.2.1 x7.2.2 := ⟨_, rfl⟩
  rw [← hx8]
  have hl8 : x8.2.1 ≤ s.size := hx8 ▸ stC_le hl7
  have hm8 : (x8.1 : Int) ≤ 16 := hx8 ▸ stC_most (by decide)
  try simp only [List.set_cons_zero,List.set_cons_succ]
  refine hK1 _ ?_
  simp only [ltb,go_sem,reduceAdd]
  refine hK _ _ rfl ?_
  simp only [mwb,reduceAdd,reduceEqDiff]
  refine ex_block ?_
  obtain ⟨h, hh⟩ : ∃ x : Rl, x = ⟨x1.1, ⟨majN x1.1, (x2.1 : Int), (x3.1 : Int)⟩, [], x5.1, x6.1, x7.1, decide ((x4.1 : Int) = 1)⟩ := ⟨_, rfl⟩
  obtain ⟨N, hN⟩ : ∃ x, x = x8.1 := ⟨_, rfl⟩
  have hhd : rdHead s = (h, N, x8.2) := by rw [hh, hN, hx8, hx7, hx6, hx5, hx4, hx3, hx2, hx1]; rfl
  have e1 : x1.1 = h.path := by rw [hh]
  have e2 : majN x1.1 = h.ver.mj := by rw [hh]
  have e3 : (x2.1 : Int) = h.ver.mn := by rw [hh]
  have e4 : (x3.1 : Int) = h.ver.pt := by rw [hh]
  have e5 : x5.1 = h.ar := by rw [hh]
  have e6 : x6.1 = h.itf := by rw [hh]
  have e7 : x7.1 = h.ce := by rw [hh]
  have e8 : decide ((x4.1 : Int) = 1) = h.yk := by rw [hh]
  rw [e1] at hz1
  simp only [e2,e3,e4,e5,e6,e7,e8,← hN]
  rw [e1]
  have hN16 : N ≤ 16 := by omega
  have hhr : h.reqs = [] := by rw [hh]
  refine ex_nilBox 2 4 0 2 rfl rfl ?_
  simp only [ltb,List.set_cons_zero,List.set_cons_succ,List.length_cons,List.length_nil,reduceAdd]
  refine ex_loopF (fun b : Nat × List Rq × Nat × Int => { fr := [str s, .undef, .ptr 0 0, .undef, .ptr 1 0, .ptr 2 0, .undef, .undef, .undef, .undef, .undef, .undef, .undef, .undef, .undef, .undef, .undef, .undef, .undef, .undef, .undef, .undef, .undef, .undef, .undef, .undef, .undef, .undef, .undef, .undef, .undef, .undef, .undef, .undef, .undef, .undef, .undef, .undef, .undef, .undef, .undef, .undef, .undef, .undef, .undef, .undef, num N, num b.1, .undef, .undef, .undef, .undef, .undef, .undef, .undef, .undef, .undef, .undef, .undef, .undef, .undef, .undef, .undef, .undef, .undef, .undef, .undef, .undef, .undef, .undef, .undef, .undef, .undef, .undef, .undef, .undef, .undef, .undef, .undef, .undef, .undef, .undef, .undef, .undef, .undef, .undef, .undef, .undef, .undef, .undef, .undef], mem := [.box [str ⟨#[]⟩, num 0, num 0, num 0, .sc (.slice none 0 0), str ⟨#[]⟩, str ⟨#[]⟩, str ⟨#[]⟩, bl false], .box [str s, num b.2.2.1, num b.2.2.2], .box [str h.path, num h.ver.mj, num h.ver.mn, num h.ver.pt, .ms 3 b.1 0 b.1, str h.ar, str h.itf, str h.ce, bl h.yk], .rows b.1 2 (b.2.1.map encRq)] }) (fun b => N - b.1) (fun b => b.1 ≤ N ∧ b.2 = rdQ s b.1 x8.2 ∧ b.2.2.1 ≤ s.size ∧ b.2.1.length = b.1) ((0, [], x8.2)) 4 (true::false::true::false::true::true::(rp 40 false [true,true])) (by omega) (by simp only [maskFr,belowV,reduceLT,mkb]) (by simp only [List.all_cons,List.all_nil,belowV,belowB,reduceLT,decide_true,Bool.and_self,List.take_succ_cons,List.take_nil]) (by simp only [maskFr,List.map_nil,mkb] <;> rfl) (⟨Nat.zero_le _, rfl, hl8, rfl⟩) ?_
  rintro ⟨i, Q, a, e⟩ ⟨hi, hq, hla, hQl⟩
  dsimp only at hi hq hla hQl ⊢
  refine ex_region_w tt_ok 91 (rp 48 0 [2]) [] rfl rfl fun K hK => ?_
  simp only [ltb,go_sem,reduceAdd,reduceLT]
  refine hK _ _ rfl ?_
  simp only [mwb,reduceAdd]
  refine ex_seq ?_
  refine ex_if rfl (fun hc48 => ?_) (fun hc48 => ?_)
  ·have hlt : i < N := by simpa using hc48
   have hw := i64_succ i (by omega)
   refine ex_skip ?_
   show Go.Eng.Ex _ _ _ _ _ _
   refine ex_seq ?_
   refine ex_block ?_
   refine ex_region_w tt_ok 91 (rp 9 0 (2::(rp 39 0 [1,1,1]))) [] rfl rfl fun K hK => ?_
   refine runX_cut 2 fun K1 hK1 => ?_
   simp only [ltb,go_sem,reduceAdd,reduceLT]
   refine callS_w (rtext_at s hs2 a e hla _ 1 rfl) ?_
   rintro _ _ ⟨rfl, rfl⟩
   try simp only [go_sem]
   obtain ⟨y1, hy1⟩ : ∃ x, x = stT s a e := ⟨_, rfl⟩
   rw [← hy1]
   have hk1 : y1.2.1 ≤ s.size := hy1 ▸ stT_le hla
   have hzk : y1.1.size ≤ s.size := hy1 ▸ stT_size _ _ _
   try simp only [List.set_cons_zero,List.set_cons_succ]
   refine hK1 _ ?_
   simp only [ltb,go_sem,reduceAdd,reduceLT,reduceLeDiff,reduceEqDiff,reduceCtorEq]
   refine hK _ _ rfl ?_
   simp only [mwb,reduceAdd,reduceEqDiff]
   refine ex_seq ?_
   refine ex_region_w tt_ok 91 (rp 52 0 [1,1,1,2,2]) [] rfl rfl fun K hK => ?_
   refine runX_cut 4 fun K1 hK1 => ?_
   simp only [ltb]
   simp only [sl,go_sem,reduceAdd,reduceLT,reduceEqDiff,reduceCtorEq]
   refine callS_w (rcount_at s hs2 (s.size : Int) y1.2.1 y1.2.2 hk1 _ 1 rfl) ?_
   rintro _ _ ⟨rfl, rfl⟩
   try simp only [go_sem]
   obtain ⟨y2, hy2⟩ : ∃ x, x = stC (s.size : Int) s y1.2.1 y1.2.2 := ⟨_, rfl⟩
   rw [← hy2]
   have hk2 : y2.2.1 ≤ s.size := hy2 ▸ stC_le hk1
   have hm2 : (y2.1 : Int) ≤ (s.size : Int) := hy2 ▸ stC_most (by omega)
   obtain ⟨C, hC⟩ : ∃ x, x = y2.1 := ⟨_, rfl⟩
   rw [← hC]
   obtain ⟨T, hT⟩ : ∃ x, x = y1.1 := ⟨_, rfl⟩
   rw [← hT]
   try simp only [List.set_cons_zero,List.set_cons_succ]
   refine hK1 _ ?_
   simp only [ltb,go_sem,reduceAdd]
   refine hK _ _ rfl ?_
   simp only [mwb,reduceAdd,reduceEqDiff]
   refine ex_block ?_
   refine ex_nilBox 4 1 0 2 rfl rfl ?_
   simp only [ltb,List.set_cons_zero,List.set_cons_succ,List.length_cons,List.length_nil,reduceAdd]
   refine ex_loopF (fun d : Nat × List Spn × Nat × Int => { fr := [str s, .undef, .ptr 0 0, .undef, .ptr 1 0, .ptr 2 0, .undef, .undef, .undef, .ptr 4 0, .undef, .undef, .undef, .undef, .undef, .undef, .undef, .undef, .undef, .undef, .undef, .undef, .undef, .undef, .undef, .undef, .undef, .undef, .undef, .undef, .undef, .undef, .undef, .undef, .undef, .undef, .undef, .undef, .undef, .undef, .undef, .undef, .undef, .undef, .undef, .undef, num N, num i, .undef, .undef, .undef, .undef, .undef, .undef, .undef, num C, num d.1, .undef, .undef, .undef, .undef, .undef, .undef, .undef, .undef, .undef, .undef, .undef, .undef, .undef, .undef, .undef, .undef, .undef, .undef, .undef, .undef, .undef, .undef, .undef, .undef, .undef, .undef, .undef, .undef, .undef, .undef, .undef, .undef, .undef, .undef], mem := [.box [str ⟨#[]⟩, num 0, num 0, num 0, .sc (.slice none 0 0), str ⟨#[]⟩, str ⟨#[]⟩, str ⟨#[]⟩, bl false], .box [str s, num d.2.2.1, num d.2.2.2], .box [str h.path, num h.ver.mj, num h.ver.mn, num h.ver.pt, .ms 3 i 0 i, str h.ar, str h.itf, str h.ce, bl h.yk], .rows i 2 (Q.map encRq), .box [str T, .ms 5 d.1 0 d.1], .rows d.1 2 (d.2.1.map encSpn)] }) (fun d => C - d.1) (fun d => d.1 ≤ C ∧ rdS s C y2.2 = (d.2.1 ++ (rdS s (C - d.1) d.2.2).1, (rdS s (C - d.1) d.2.2).2) ∧ d.2.2.1 ≤ s.size ∧ d.2.1.length = d.1) ((0, [], y2.2)) 6 (true::false::true::false::true::true::false::false::false::true::(rp 36 false [true,true,false,false,false,false,false,false,false,true,true])) (by omega) (by simp only [maskFr,belowV,reduceLT,mkb]) (by simp only [List.all_cons,List.all_nil,belowV,belowB,reduceLT,decide_true,Bool.and_self,List.take_succ_cons,List.take_nil]) (by simp only [maskFr,List.map_nil,mkb] <;> rfl) (⟨Nat.zero_le _, rfl, hk2, rfl⟩) ?_
   rintro ⟨j, L, a2, e2⟩ ⟨hj, hsp, hla2, hLl⟩
   dsimp only at hj hsp hla2 hLl ⊢
   refine ex_region_w tt_ok 91 (rp 57 0 [2]) [] rfl rfl fun K hK => ?_
   simp only [ltb,go_sem,reduceAdd,reduceLT]
   refine hK _ _ rfl ?_
   simp only [mwb,reduceAdd]
   refine ex_seq ?_
   refine ex_if rfl (fun hc57 => ?_) (fun hc57 => ?_)
   ·have hltj : j < C := by simpa using hc57
    have hwj := i64_succ j (by omega)
    refine ex_skip ?_
    show Go.Eng.Ex _ _ _ _ _ _
    refine ex_seq ?_
    refine ex_block ?_
    refine ex_seq ?_
    refine ex_region_w tt_ok 91 (rp 58 0 [1,1,2]) [] rfl rfl fun K hK => ?_
    refine runX_cut 2 fun K1 hK1 => ?_
    simp only [ltb,go_sem,reduceAdd,reduceLT]
    refine callS_ex (rerror_at s hs2 a2 e2 _ 1 rfl) ?_
    rintro _ rfl
    try simp only [go_sem]
    refine hK1 _ ?_
    simp only [ltb,go_sem,reduceAdd,reduceLT,reduceEqDiff]
    refine hK _ _ rfl ?_
    simp only [mwb,reduceAdd,reduceEqDiff]
    refine ex_if rfl (fun hc60 => ?_) (fun hc60 => ?_)
    ·have he2 : e2 ≠ 0 := by simpa using hc60
     refine ex_exit ?_
     show Go.Eng.Ex _ _ _ _ _ _
     refine ex_frzCells (k := 4) (vs' := [str T, .slice (L.map encSpn)]) rfl (by simp [purL, pur1, purCell, hLl, nilS, List.take_of_length_le]) ?_
     simp only [ref1,refCell,frzAll,frz1,List.flatMap_cons,List.flatMap_nil,List.append_nil,List.nil_append,List.foldl_cons,List.foldl_nil,List.getElem?_cons_succ,List.getElem?_cons_zero,if_true,List.set_cons_zero,List.set_cons_succ]
     have hfo2 : ∀ (x : ByteArray) (y : List V), firstOk [V.agg [str x, .slice y]] 0 2 = true := fun x y => rfl
     have hbdi : i + 1 ≤ 34359738368 := by omega
     have hQm : (Q.map encRq).length = i := by rw [List.length_map, hQl]
     refine ex_last_region_w tt_ok 91 (rp 72 0 [2,2,2,2,2,2]) [] (by kernel_rfl) rfl rfl fun K hK => ?_
     try simp only [ltb]
     simp only [hbdi,hQm,List.length_append,List.length_cons,List.length_nil,Nat.zero_add,go_sem,reduceAdd,reduceLT,reduceLeDiff,reduceMul,reduceEqDiff]
     refine hK _ _ rfl ?_
     simp only [mwb,reduceAdd,reduceEqDiff]
     show Go.Eng.Ex _ _ _ _ _ _
     refine ex_last_region_w tt_ok 91 (rp 47 0 (2::(rp 30 0 [2]))) [] (by kernel_rfl) rfl rfl fun K hK => ?_
     try simp only [ltb]
     simp only [hw,List.length_cons,List.length_nil,Nat.zero_add,go_sem,reduceAdd,reduceLT]
     refine hK _ _ rfl ?_
     simp only [mwb,reduceAdd,reduceEqDiff]
     have hq1 : rdQ1 s (a, e) = (⟨T, L⟩, a2, e2) := by
      unfold rdQ1
      dsimp only
      rw [← hy1, ← hy2, ← hC, ← hT]
      have hb := hsp
      have hfin : rdS s (C - j) (a2, e2) = ([], a2, e2) := by first | (rw [show C - j = 0 by omega]; rfl) | (obtain ⟨k, hk⟩ : ∃ k, C - j = k + 1 := ⟨C - j - 1, by omega⟩; rw [hk, rdS, if_pos he2])
      rw [hfin] at hb
      simp only [List.append_nil] at hb
      rw [hb]
     refine ⟨(i + 1, Q ++ [⟨T, L⟩], a2, e2), ?_, ?_, 4, (true::false::true::false::true::true::(rp 40 false [true,true])), by omega, by simp only [maskFr,belowV,reduceLT,mkb], by simp only [ltb,List.all_cons,List.all_nil,belowV,belowB,reduceLT,decide_true,Bool.and_self], by (simp only [List.map_append,List.map_cons,List.map_nil,encRq,encSet,maskFr,mkb])⟩
     ·exact ⟨hlt, by dsimp only; rw [rdQ_end, ← hq]; dsimp only; rw [hq1], hla2, by dsimp only; rw [List.length_append, hQl]; rfl⟩
     ·dsimp only; omega
    ·have he0 : e2 = 0 := by simpa using hc60
     have hfo : ∀ x y : Int, firstOk [V.agg [num x, num y]] 0 2 = true := fun x y => rfl
     have hbdj : j + 1 ≤ 34359738368 := by omega
     have hLm : (L.map encSpn).length = j := by rw [List.length_map, hLl]
     refine ex_skip ?_
     show Go.Eng.Ex _ _ _ _ _ _
     refine ex_last_mixed_w tt_ok mixed_ok 91 [0,0,0,0,0,0,0,0,0,0,0,0,0,0,0,0,0,0,0,0,0,0,0,0,0,0,0,0,0,0,0,0,0,0,0,0,0,0,0,0,0,0,0,0,0,0,0,0,0,0,0,0,0,0,0,0,0,0,0,0,0,2,2,2,2,2,2,2,2,2,2] (by kernel_rfl) (by kernel_rfl) [⟨.n, 0, [], [], []⟩, ⟨.r, 0, [], [0], [1]⟩, ⟨.n, 0, [], [], []⟩, ⟨.e, 1, [], [2], []⟩, ⟨.n, 0, [], [], []⟩, ⟨.e, 1, [], [2,3,4], []⟩, ⟨.n, 0, [], [2,3,4,5], []⟩, ⟨.n, 0, [], [2,3,4,5,6], []⟩, ⟨.w, 0, [], [0,1,2,3,4,5,6,7], []⟩, ⟨.n, 0, [], [0,1,2,3,4,5,6,7,8], []⟩, ⟨.w, 1, [], [0,1,2,3,4,5,6,7,8,9], []⟩] 2 (by kernel_rfl) fun K hK => ?_
     try simp only [ltb,List.replicate_zero,List.replicate_succ]
     refine runM_cut 4 (by simp) (by simp) fun K1 hK1 => ?_
     try simp only [ltb]
     simp only [List.length_cons,List.length_nil,Nat.zero_add,go_sem,reduceAdd,reduceLT,reduceEqDiff]
     refine callEE_ex rfl rfl (ruint_at_e s hs2 a2 e2 hla2 1) ?_
     rintro _ _ ⟨rfl, rfl⟩
     try simp only [go_sem]
     obtain ⟨z1, hz1⟩ : ∃ x, x = stI s a2 e2 := ⟨_, rfl⟩
     rw [← hz1]
     have hj1 : z1.2.1 ≤ s.size := hz1 ▸ stI_le hla2
     try simp only [List.set_cons_zero,List.set_cons_succ]
     refine hK1 _ ?_
     refine runM_cut 2 (by simp) (by simp) fun K1 hK1 => ?_
     try simp only [ltb]
     simp only [List.length_cons,List.length_nil,Nat.zero_add,go_sem,reduceAdd,reduceLT,reduceEqDiff]
     refine callEE_ex rfl rfl (ruint_at_e s hs2 z1.2.1 z1.2.2 hj1 1) ?_
     rintro _ _ ⟨rfl, rfl⟩
     try simp only [go_sem]
     obtain ⟨z2, hz2⟩ : ∃ x, x = stI s z1.2.1 z1.2.2 := ⟨_, rfl⟩
     rw [← hz2]
     have hj2 : z2.2.1 ≤ s.size := hz2 ▸ stI_le hj1
     try simp only [List.set_cons_zero,List.set_cons_succ]
     refine hK1 _ ?_
     try simp only [ltb]
     simp only [hfo,hbdj,hLm,List.length_append,List.length_cons,List.length_nil,Nat.zero_add,go_sem,reduceAdd,reduceLT,reduceLeDiff,reduceMul,reduceEqDiff,reduceCtorEq]
     refine hK _ _ rfl ?_
     simp only [mwb,reduceAdd,reduceEqDiff]
     show Go.Eng.Ex _ _ _ _ _ _
     refine ex_last_region_w tt_ok 91 (rp 56 0 (2::(rp 14 0 [2]))) [] (by kernel_rfl) rfl rfl fun K hK => ?_
     try simp only [ltb]
     simp only [hwj,List.length_cons,List.length_nil,Nat.zero_add,go_sem,reduceAdd,reduceLT]
     refine hK _ _ rfl ?_
     simp only [mwb,reduceAdd,reduceEqDiff]
     refine ⟨(j + 1, L ++ [⟨(z1.1 : Int), (z2.1 : Int)⟩], z2.2), ?_, ?_, 6, (true::false::true::false::true::true::false::false::false::true::(rp 36 false [true,true,false,false,false,false,false,false,false,true,true])), by omega, by simp only [maskFr,belowV,reduceLT,mkb], by simp only [ltb,List.all_cons,List.all_nil,belowV,belowB,reduceLT,decide_true,Bool.and_self], by (simp only [List.map_append,List.map_cons,List.map_nil,encSpn,maskFr,mkb])⟩
     ·refine ⟨hltj, ?_, hj2, by dsimp only; rw [List.length_append, hLl]; rfl⟩
      dsimp only
      rw [hsp, show C - j = C - (j + 1) + 1 by omega, rdS, if_neg (by simp [he0])]
      dsimp only
      rw [← hz1, ← hz2, List.append_assoc]; rfl
     ·dsimp only; omega
   ·have hgej : ¬ j < C := by simpa using hc57
    refine ex_exit ?_
    show Go.Eng.Ex _ _ _ _ _ _
    refine ex_frzCells (k := 4) (vs' := [str T, .slice (L.map encSpn)]) rfl (by simp [purL, pur1, purCell, hLl, nilS, List.take_of_length_le]) ?_
    simp only [ref1,refCell,frzAll,frz1,List.flatMap_cons,List.flatMap_nil,List.append_nil,List.nil_append,List.foldl_cons,List.foldl_nil,List.getElem?_cons_succ,List.getElem?_cons_zero,if_true,List.set_cons_zero,List.set_cons_succ]
    have hfo2 : ∀ (x : ByteArray) (y : List V), firstOk [V.agg [str x, .slice y]] 0 2 = true := fun x y => rfl
    have hbdi : i + 1 ≤ 34359738368 := by omega
    have hQm : (Q.map encRq).length = i := by rw [List.length_map, hQl]
    refine ex_last_region_w tt_ok 91 (rp 72 0 [2,2,2,2,2,2]) [] (by kernel_rfl) rfl rfl fun K hK => ?_
    try simp only [ltb]
    simp only [hbdi,hQm,List.length_append,List.length_cons,List.length_nil,Nat.zero_add,go_sem,reduceAdd,reduceLT,reduceLeDiff,reduceMul,reduceEqDiff]
    refine hK _ _ rfl ?_
    simp only [mwb,reduceAdd,reduceEqDiff]
    show Go.Eng.Ex _ _ _ _ _ _
    refine ex_last_region_w tt_ok 91 (rp 47 0 (2::(rp 30 0 [2]))) [] (by kernel_rfl) rfl rfl fun K hK => ?_
    try simp only [ltb]
    simp only [hw,List.length_cons,List.length_nil,Nat.zero_add,go_sem,reduceAdd,reduceLT]
    refine hK _ _ rfl ?_
    simp only [mwb,reduceAdd,reduceEqDiff]
    have hq1 : rdQ1 s (a, e) = (⟨T, L⟩, a2, e2) := by
     unfold rdQ1
     dsimp only
     rw [← hy1, ← hy2, ← hC, ← hT]
     have hb := hsp
     have hfin : rdS s (C - j) (a2, e2) = ([], a2, e2) := by first | (rw [show C - j = 0 by omega]; rfl) | (obtain ⟨k, hk⟩ : ∃ k, C - j = k + 1 := ⟨C - j - 1, by omega⟩; rw [hk, rdS, if_pos he2])
     rw [hfin] at hb
     simp only [List.append_nil] at hb
     rw [hb]
    refine ⟨(i + 1, Q ++ [⟨T, L⟩], a2, e2), ?_, ?_, 4, (true::false::true::false::true::true::(rp 40 false [true,true])), by omega, by simp only [maskFr,belowV,reduceLT,mkb], by simp only [ltb,List.all_cons,List.all_nil,belowV,belowB,reduceLT,decide_true,Bool.and_self], by (simp only [List.map_append,List.map_cons,List.map_nil,encRq,encSet,maskFr,mkb])⟩
    ·exact ⟨hlt, by dsimp only; rw [rdQ_end, ← hq]; dsimp only; rw [hq1], hla2, by dsimp only; rw [List.length_append, hQl]; rfl⟩
    ·dsimp only; omega
  ·have hge : ¬ i < N := by simpa using hc48
   obtain rfl : i = N := by omega
   have hrl : rdRl s = ({ h with reqs := Q }, a, e) := by unfold rdRl; rw [hhd]; dsimp only; rw [← hq]
   refine ex_frzCells (k := 2) (vs' := [str h.path, num h.ver.mj, num h.ver.mn, num h.ver.pt, .slice (Q.map encRq), str h.ar, str h.itf, str h.ce, bl h.yk]) rfl (by simp [purL, pur1, purCell, hQl, nilS, List.take_of_length_le]) ?_
   simp only [ref1,refCell,frzAll,frz1,List.flatMap_cons,List.flatMap_nil,List.append_nil,List.nil_append,List.foldl_cons,List.foldl_nil,List.getElem?_cons_succ,List.getElem?_cons_zero,if_true,List.set_cons_zero,List.set_cons_succ]
   have hbx : IxB [{ h with reqs := Q }] := by
    refine ⟨by simp, fun r hr => ?_⟩
    rw [List.mem_singleton] at hr; subst hr
    have h2 := rdQ_le s i x8.2 hl8
    rw [← hq] at h2
    refine ⟨by dsimp only; omega, by dsimp only; omega, fun q hqm => ?_⟩
    have := h2.2.2 q hqm
    exact ⟨by omega, by omega⟩
   refine ex_exit ?_
   show Go.Eng.Ex _ _ _ _ _ _
   refine ex_seq ?_
   refine ex_region_w tt_ok 91 (rp 79 0 (rp 9 1 [2])) [(3, 82)] rfl rfl fun K hK => ?_
   refine runX_cut 2 fun K1 hK1 => ?_
   simp only [ltb,go_sem,reduceAdd,reduceLT]
   refine callS_ex (rend_at s hs2 a e _ 1 rfl) ?_
   rintro _ rfl
   try simp only [go_sem]
   refine hK1 _ ?_
   refine runX_cut 2 fun K1 hK1 => ?_
   simp only [ltb,go_sem,reduceAdd,reduceLT,reduceEqDiff]
   refine hK1 _ ?_
   refine runX_case 82 (by rfl) fun b hb19_3 => ?_
   cases b
   ·have hez : endE s a e = 0 := by simpa using hb19_3
    refine runX_cut 4 fun K1 hK1 => ?_
    simp only [ltb,go_sem,reduceAdd,reduceLT,reduceLeDiff,reduceMul,reduceEqDiff,reduceCtorEq]
    refine callF_ex (by have hh := check_nil hG [{ h with reqs := Q }] hbx []; simp only [encRls,List.map_cons,List.map_nil,encRl,rlCells,encRqs] at hh; exact hh) ?_
    rintro _ rfl
    try simp only [hman,go_sem]
    refine hK1 _ ?_
    simp only [ltb,go_sem,reduceAdd,reduceLT,reduceEqDiff]
    refine hK _ _ rfl ?_
    simp only [mwb,reduceAdd,reduceEqDiff]
    refine ex_if rfl (fun hc88 => ?_) (fun hc88 => ?_)
    ·have hR : readV s = .tup [encRl zeroRl, num 9] := by
      first
      | exact hR
      | (unfold readV readOk; rw [hrl, if_neg (by have : ¬ ixE [{ h with reqs := Q }] = 0 := (by simpa using hc88); simp [this])])
     refine ex_region_w tt_ok 91 (0::0::0::2::(rp 85 0 [1])) [] rfl rfl fun K hK => ?_
     simp only [ltb,go_sem,reduceAdd,reduceLT,reduceEqDiff,reduceCtorEq]
     refine hK _ _ rfl ?_
     simp only [mwb,reduceAdd,reduceEqDiff]
     exact ex_ret ⟨.inl rfl, _, hR.symm, rfl⟩
    ·have hR : readV s = .tup [encRl { h with reqs := Q }, num 0] := by
      unfold readV readOk
      rw [hrl, ← hx1, if_pos (by have : ixE [{ h with reqs := Q }] = 0 := (by simpa using hc88); simp [this, hmj, hez])]
     refine ex_skip ?_
     show Go.Eng.Ex _ _ _ _ _ _
     refine ex_region_w tt_ok 91 (0::0::0::2::(rp 86 0 [1])) [] rfl rfl fun K hK => ?_
     simp only [ltb,go_sem,reduceAdd,reduceLT,reduceEqDiff]
     refine hK _ _ rfl ?_
     simp only [mwb,reduceAdd,reduceEqDiff]
     exact ex_ret ⟨.inl rfl, _, hR.symm, rfl⟩
   ·have hne : endE s a e ≠ 0 := by simpa using hb19_3
    have hR : readV s = .tup [encRl zeroRl, num 9] := by unfold readV readOk; rw [hrl, if_neg (by simp [hne])]
    simp only [ltb,go_sem,reduceAdd,reduceLT,reduceEqDiff]
    refine hK _ _ rfl ?_
    simp only [mwb,reduceAdd,reduceEqDiff]
    refine ex_cond rfl ?_
    refine ex_region_w tt_ok 91 (0::0::0::2::(rp 85 0 [1])) [] rfl rfl fun K hK => ?_
    simp only [ltb,go_sem,reduceAdd,reduceLT,reduceEqDiff,reduceCtorEq]
    refine hK _ _ rfl ?_
    simp only [mwb,reduceAdd,reduceEqDiff]
    exact ex_ret ⟨.inl rfl, _, hR.symm, rfl⟩
end Go.Proofs.YtnfeacnbgbggfaaGreatDoor
end

section
namespace Go.Proofs.YtnfeacnbgbggfaaGreatDoor
open Go.Eng
variable [Glob]
theorem uvI_nat (n : Nat) : uvI (n : Int) = uv n := by unfold uvI; rw [Int.toNat_natCast]
theorem stT_of {s t : ByteArray} {a : Nat} {rest : List UInt8} (hn : t.size < 9223372036854775808) (h : from_ s a = eT t ++ rest) : ∃ j, stT s a 0 = (t, j, 0) ∧ from_ s j = rest := by
 obtain ⟨h1, h2⟩ := rdT_of hn h
 exact ⟨_, by unfold stT; rw [if_neg (by simp), h1], h2⟩
theorem stI_of {s : ByteArray} {a n : Nat} {rest : List UInt8} (hn : n < 9223372036854775808) (h : from_ s a = uv n ++ rest) : ∃ j, stI s a 0 = (n, j, 0) ∧ from_ s j = rest := by
 obtain ⟨h1, h2⟩ := rdI_of hn h
 exact ⟨_, by unfold stI; rw [if_neg (by simp), h1], h2⟩
theorem stC_of {m : Int} {s : ByteArray} {a n : Nat} {rest : List UInt8} (hn : n < 9223372036854775808) (hm : (n : Int) ≤ m) (h : from_ s a = uv n ++ rest) : ∃ j, stC m s a 0 = (n, j, 0) ∧ from_ s j = rest := by
 obtain ⟨h1, h2⟩ := rdI_of hn h
 exact ⟨_, by unfold stC; rw [if_neg (by simp), h1]; exact if_pos hm, h2⟩
theorem uvI_of {n : Int} (h0 : 0 ≤ n) : ∃ k : Nat, n = k ∧ uvI n = uv k := ⟨n.toNat, by omega, rfl⟩
theorem rdS_of {s : ByteArray} : ∀ (l : List Spn) (a : Nat) (rest : List UInt8), (∀ x ∈ l, SpnB x) → from_ s a = l.flatMap spB ++ rest → ∃ j, rdS s l.length (a, 0) = (l, j, 0) ∧ from_ s j = rest
 | [], a, rest, _, h => ⟨a, rfl, h⟩
 | x :: t, a, rest, hx, h => by
  have hb := hx x (by simp)
  unfold SpnB at hb
  obtain ⟨k1, e1, u1⟩ := uvI_of (n := x.lo) (by omega)
  obtain ⟨k2, e2, u2⟩ := uvI_of (n := x.hi) (by omega)
  rw [List.flatMap_cons, spB, u1, u2, List.append_assoc, List.append_assoc] at h
  obtain ⟨j1, h1, h1'⟩ := stI_of (by omega) h
  obtain ⟨j2, h2, h2'⟩ := stI_of (by omega) h1'
  obtain ⟨j, h3, h4⟩ := rdS_of t j2 rest (fun y hy => hx y (by simp [hy])) h2'
  refine ⟨j, ?_, h4⟩
  rw [List.length_cons, rdS, if_neg (by simp)]
  simp only [h1,h2,h3,Prod.mk.injEq,and_true,List.cons.injEq]
  exact Spn.ext' e1.symm e2.symm
theorem rdQ1_of {s : ByteArray} {q : Rq} {a : Nat} {rest : List UInt8} (hw : RqW q) (hp : q.path.size ≤ 1048576) (hl : q.set.length ≤ s.size) (hs : s.size ≤ 1048576) (h : from_ s a = rqB q ++ rest) : ∃ j, rdQ1 s (a, 0) = (q, j, 0) ∧ from_ s j = rest := by
 unfold rqB at h
 rw [uvI_nat, List.append_assoc, List.append_assoc] at h
 obtain ⟨j1, h1, h1'⟩ := stT_of (by omega) h
 obtain ⟨j2, h2, h2'⟩ := stC_of (m := (s.size : Int)) (by omega) (by omega) h1'
 obtain ⟨j, h3, h4⟩ := rdS_of q.set j2 rest (canon_of_w hw) h2'
 refine ⟨j, ?_, h4⟩
 unfold rdQ1
 simp only [h1,h2,h3]
theorem rqB_pos (q : Rq) : q.set.length ≤ (rqB q).length := by
 unfold rqB
 rw [List.length_append]
 have : ∀ l : List Spn, l.length ≤ (l.flatMap spB).length := by
  intro l
  induction l with
  | nil => simp
  | cons x t ih =>
   rw [List.flatMap_cons, List.length_append, List.length_cons]
   have h1 : 0 < (spB x).length := by unfold spB uvI; rw [List.length_append]; have := uv_pos x.lo.toNat; omega
   omega
 have := this q.set
 omega
theorem rdQ_of {s : ByteArray} (hs : s.size ≤ 1048576) : ∀ (l : List Rq) (a : Nat) (rest : List UInt8), (∀ q ∈ l, RqW q ∧ q.path.size ≤ 1048576) → from_ s a = l.flatMap rqB ++ rest → ∃ j, rdQ s l.length (a, 0) = (l, j, 0) ∧ from_ s j = rest
 | [], a, rest, _, h => ⟨a, rfl, h⟩
 | q :: t, a, rest, hq, h => by
  have h0 := hq q (by simp)
  rw [List.flatMap_cons, List.append_assoc] at h
  have hlen : q.set.length ≤ s.size := by
   have h1 := congrArg List.length h
   rw [from_length, List.length_append] at h1
   have := rqB_pos q
   omega
  obtain ⟨j1, h1, h1'⟩ := rdQ1_of h0.1 h0.2 hlen hs h
  obtain ⟨j, h3, h4⟩ := rdQ_of hs t j1 rest (fun y hy => hq y (by simp [hy])) h1'
  refine ⟨j, ?_, h4⟩
  rw [List.length_cons, rdQ]
  simp only [h1,h3]
theorem from_zero (s : ByteArray) : from_ s 0 = bytesL s := by unfold from_ bytesL; rw [List.drop_zero]
theorem endE_done {s : ByteArray} {j : Nat} (h : from_ s j = []) : endE s j 0 = 0 := by
 have h1 := congrArg List.length h
 rw [from_length] at h1
 unfold endE
 rw [if_neg]
 intro h2
 simp at h1
 omega
theorem read_man {r : Rl} (h : ixE [r] = 0) (hb : RlB r) (hs : (manB r).length ≤ 1048576) : readV (bs (manB r)) = .tup [encRl r, num 0] := by
 have hw := rl_wf (ix_one r ▸ h)
 have hv := ver_bds hw.ver
 have hsz : (bs (manB r)).size ≤ 1048576 := by rw [bs_size]; exact hs
 have h0 : from_ (bs (manB r)) 0 = manB r := by rw [from_zero, bytesL_bs]
 generalize hS : bs (manB r) = s at *
 obtain ⟨k1, e1, u1⟩ := uvI_of (n := r.ver.mn) (by omega)
 obtain ⟨k2, e2, u2⟩ := uvI_of (n := r.ver.pt) (by omega)
 obtain ⟨k3, e3, u3⟩ := uvI_of (n := ykN r) (ykN_bd r).1
 have hk3 := ykN_bd r
 have h00 := h0
 unfold manB hdB at h0
 rw [u1, u2, u3, uvI_nat] at h0
 simp only [List.append_assoc] at h0
 have s1 := dig_size hw.ar
 have s2 := dig_size hw.itf
 have s3 := dig_size hw.ce
 obtain ⟨j1, p1, q1⟩ := stT_of (by have := hb.1; omega) h0
 obtain ⟨j2, p2, q2⟩ := stI_of (by omega) q1
 obtain ⟨j3, p3, q3⟩ := stI_of (by omega) q2
 obtain ⟨j4, p4, q4⟩ := stC_of (m := 1) (by omega) (by omega) q3
 obtain ⟨j5, p5, q5⟩ := stT_of (by omega) q4
 obtain ⟨j6, p6, q6⟩ := stT_of (by omega) q5
 obtain ⟨j7, p7, q7⟩ := stT_of (by omega) q6
 obtain ⟨j8, p8, q8⟩ := stC_of (m := 16) (by have := hw.len; omega) (by have := hw.len; omega) q7
 obtain ⟨j9, p9, q9⟩ := rdQ_of hsz r.reqs j8 [] (fun q hq => ⟨hw.reqs q hq, (hb.2.2 q hq).1⟩) (by rw [List.append_nil]; exact q8)
 have hyk : decide ((k3 : Int) = 1) = r.yk := by
  rw [← e3]
  unfold ykN
  cases r.yk <;> simp
 have hhd : rdHead s = (⟨r.path, ⟨majN r.path, r.ver.mn, r.ver.pt⟩, [], r.ar, r.itf, r.ce, r.yk⟩, r.reqs.length, j8, 0) := by
  unfold rdHead
  simp only [p1,p2,p3,p4,p5,p6,p7,p8,hyk,← e1,← e2]
 have hrl : rdRl s = (r, j9, 0) := by
  unfold rdRl
  rw [hhd]
  simp only [p9,Prod.mk.injEq,and_true]
  rw [← hw.mj]
 have hok : readOk s = true := by
  unfold readOk
  rw [hrl, p1]
  simp only [endE_done q9,hw.path,h,decide_true,Bool.and_self]
 unfold readV
 rw [if_pos hok, hrl]
end Go.Proofs.YtnfeacnbgbggfaaGreatDoor
end

section
namespace Go.Proofs.YtnfeacnbgbggfaaGreatDoor
open Go.Eng
open Nat (reduceAdd reduceLT reduceLeDiff reduceMul reduceEqDiff reduceSub)
variable [Glob]
set_option maxHeartbeats 4000000
set_option maxRecDepth 100000
attribute [local irreducible] runM stepM valD stepOp stepD callF callS
theorem Rq.ext' {a b : Rq} (h1 : a.path = b.path) (h2 : a.set = b.set) : a = b := by cases a; cases b; simp_all
instance : DecidableEq Rq := fun a b => if h : a.path = b.path ∧ a.set = b.set then .isTrue (Rq.ext' h.1 h.2) else .isFalse fun e => h (by subst e; exact ⟨rfl, rfl⟩)
theorem Rl.ext' {a b : Rl} (h1 : a.path = b.path) (h2 : a.ver = b.ver) (h3 : a.reqs = b.reqs) (h4 : a.ar = b.ar) (h5 : a.itf = b.itf) (h6 : a.ce = b.ce) (h7 : a.yk = b.yk) : a = b := by cases a; cases b; simp_all
instance : DecidableEq Rl := fun a b => if h : a.path = b.path ∧ a.ver = b.ver ∧ a.reqs = b.reqs ∧ a.ar = b.ar ∧ a.itf = b.itf ∧ a.ce = b.ce ∧ a.yk = b.yk then .isTrue (Rl.ext' h.1 h.2.1 h.2.2.1 h.2.2.2.1 h.2.2.2.2.1 h.2.2.2.2.2.1 h.2.2.2.2.2.2) else .isFalse fun e => h (by subst e; exact ⟨rfl, rfl, rfl, rfl, rfl, rfl, rfl⟩)
theorem bool_beq (p q : Bool) : (p == q) = decide (p = q) := by cases p <;> cases q <;> rfl
theorem sameRqs_ok (s t : List Rq) (hl : s.length ≤ 1048576) (hb : ∀ q ∈ s, RqB q) : ∃ r_, (fun w => w = bl (decide (s = t))) r_ ∧ FnOk Tryz.prog 74 [encRqs s, encRqs t] r_ := by
 refine fn_ex tt_ok (fn := Tryz.f74) Tryz.func74 rfl Tryz.call74 ?_
 simp only [ltb,startSt,Tryz.ntmps74,List.length_cons,List.length_nil,reduceAdd,reduceSub,List.replicate_succ,List.replicate_zero]
 simp only [encRqs]
 refine ex_region_w tt_ok 42 [0,0,0,0,2] [] rfl rfl fun K hK => ?_
 simp only [ltb,go_sem]
 refine hK _ _ rfl ?_
 simp only [mwb,reduceAdd]
 refine ex_seq ?_
 refine ex_region_w tt_ok 42 [0,0,0,0,0,0,1,1,1,1,2] [] rfl rfl fun K hK => ?_
 try simp only [ltb]
 simp only [List.length_map,go_sem,reduceLT,reduceEqDiff]
 refine hK _ _ rfl ?_
 simp only [mwb,reduceAdd,reduceEqDiff]
 refine ex_if rfl (fun hc10 => ?_) (fun hc10 => ?_)
 ·have hres : false = decide (s = t) := by
   refine (decide_eq_false fun e => ?_).symm
   subst e; simp at hc10
  refine ex_region_w tt_ok 42 [0,0,0,0,2] [] rfl rfl fun K hK => ?_
  simp only [ltb,go_sem]
  refine hK _ _ rfl ?_
  simp only [mwb,reduceAdd]
  exact ex_ret ⟨.inl rfl, _, congrArg bl hres, rfl⟩
 ·have hst : s.length = t.length := by have := hc10; simp at this; omega
  refine ex_skip ?_
  show Go.Eng.Ex _ _ _ _ _ _
  refine ex_seq ?_
  refine ex_region_w tt_ok 42 [0,0,0,0,0,2] [] rfl rfl fun K hK => ?_
  simp only [ltb,go_sem]
  refine hK _ _ rfl ?_
  simp only [mwb,reduceAdd]
  refine ex_block ?_
  refine ex_loopK [5] [num 0] 0 [true,true,false,false,true,true,false,false,false,false,true] (fun vs => ((s.length : Int) - Go.Eng.intOf (vs.headD .undef)).toNat) (fun vs => ∃ i : Nat, vs = [num i] ∧ i ≤ s.length ∧ ∀ j < i, s[j]? = t[j]?) (by omega) (by simp only [maskFr,belowV,mkb]) (by simp only [List.all_nil,List.take_nil]) (by rfl) (⟨0, rfl, Nat.zero_le _, fun j hj => absurd hj (Nat.not_lt_zero j)⟩) fun vs hI => ?_
  obtain ⟨i, rfl, hi, hall⟩ := hI
  simp only [maskFr,putAll,List.set_cons_zero,List.set_cons_succ,mkb]
  refine ex_seq ?_
  refine ex_region_w tt_ok 42 (rp 11 0 [1,1,1,2]) [] rfl rfl fun K hK => ?_
  try simp only [ltb]
  simp only [List.length_map,go_sem,reduceLT,reduceEqDiff,reduceCtorEq]
  refine hK _ _ rfl ?_
  simp only [mwb,reduceAdd,reduceEqDiff]
  refine ex_if rfl (fun hc14 => ?_) (fun hc14 => ?_)
  ·have hlt : i < s.length := by simpa using hc14
   have hw := i64_succ i (by omega)
   obtain ⟨x, hx⟩ : ∃ x, s[i]? = some x := ⟨_, List.getElem?_eq_getElem hlt⟩
   obtain ⟨y, hy⟩ : ∃ y, t[i]? = some y := ⟨_, List.getElem?_eq_getElem (by omega)⟩
   refine ex_skip ?_
   show Go.Eng.Ex _ _ _ _ _ _
   refine ex_seq ?_
   refine ex_block ?_
   refine ex_mixed_w tt_ok mixed_ok 42 [0,0,0,0,0,0,0,0,0,0,0,0,0,0,0,0,0,1,1,1,1,1,1,1,1,1,1,1,1,1,1,1,1,1,1,1,1,1,1,1,1,2] (by kernel_rfl) [⟨.n, 0, [], [], []⟩, ⟨.n, 0, [], [], []⟩, ⟨.r, 0, [], [], []⟩, ⟨.n, 0, [], [], []⟩, ⟨.r, 0, [], [], []⟩, ⟨.n, 0, [], [], []⟩, ⟨.n, 0, [], [], []⟩, ⟨.r, 0, [], [], []⟩, ⟨.n, 0, [], [], []⟩, ⟨.r, 0, [], [], []⟩, ⟨.n, 0, [], [], []⟩, ⟨.n, 0, [], [], []⟩, ⟨.n, 0, [], [], []⟩, ⟨.n, 0, [], [], []⟩, ⟨.r, 0, [], [], []⟩, ⟨.n, 0, [], [], []⟩, ⟨.r, 0, [], [], []⟩, ⟨.n, 0, [], [], []⟩, ⟨.n, 0, [], [], []⟩, ⟨.r, 0, [], [], []⟩, ⟨.n, 0, [], [], []⟩, ⟨.r, 0, [], [], []⟩, ⟨.n, 0, [], [], []⟩, ⟨.n, 0, [], [], []⟩, ⟨.n, 0, [], [], []⟩] 0 (by kernel_rfl) fun K hK => ?_
   try simp only [List.nil_append,List.replicate_zero]
   refine runM_cut 6 (by simp) (by simp) fun K1 hK1 => ?_
   try simp only [ltb]
   simp only [List.getElem?_map,hx,encRq,encSet,Option.map_some,go_sem,reduceAdd,reduceLT,reduceEqDiff]
   refine hK1 _ ?_
   refine runM_cut 6 (by simp) (by simp) fun K1 hK1 => ?_
   try simp only [ltb]
   simp only [List.getElem?_map,hy,encRq,encSet,Option.map_some,go_sem,reduceAdd,reduceLT,reduceEqDiff]
   refine hK1 _ ?_
   refine runM_case 28 (by rfl) fun b hb6_11 => ?_
   cases b
   ·refine runM_cut 6 (by simp) (by simp) fun K1 hK1 => ?_
    try simp only [ltb]
    simp only [List.getElem?_map,hx,encRq,encSet,Option.map_some,go_sem,reduceAdd,reduceLT,reduceEqDiff,reduceCtorEq]
    refine hK1 _ ?_
    refine runM_cut 5 (by simp) (by simp) fun K1 hK1 => ?_
    try simp only [ltb]
    simp only [List.getElem?_map,hy,encRq,encSet,Option.map_some,go_sem,reduceAdd,reduceLT,reduceEqDiff]
    refine callD_ex rfl (by have h := same_ok x.set y.set (hb x (List.mem_of_getElem? hx)).2; simp only [encSet] at h; exact h) ?_
    rintro _ rfl
    try simp only [go_sem]
    refine hK1 _ ?_
    simp only [ltb,go_sem,reduceLT,reduceEqDiff]
    refine hK _ _ rfl ?_
    simp only [mwb,reduceAdd,reduceEqDiff]
    refine ex_if rfl (fun hc41 => ?_) (fun hc41 => ?_)
    ·have hres : false = decide (s = t) := by
      first
      | exact hres
      | (refine (decide_eq_false fun e => ?_).symm; subst e; rw [hx] at hy; cases hy; simp at hc41)
     refine ex_region_w tt_ok 42 [0,0,0,0,2] [] rfl rfl fun K hK => ?_
     simp only [ltb,go_sem]
     refine hK _ _ rfl ?_
     simp only [mwb,reduceAdd]
     exact ex_ret ⟨.inl rfl, _, congrArg bl hres, rfl⟩
    ·refine ex_skip ?_
     show Go.Eng.Ex _ _ _ _ _ _
     refine ex_last_region_w tt_ok 42 [0,0,0,0,0,2,0,0,0,0,0,0,0,0,0,2,2] [] (by kernel_rfl) rfl rfl fun K hK => ?_
     try simp only [ltb]
     simp only [hw,go_sem,reduceLT,reduceEqDiff]
     refine hK _ _ rfl ?_
     simp only [mwb,reduceAdd,reduceEqDiff]
     refine ⟨[_], ?_, ?_, 0, [true,true,false,false,true,true,false,false,false,false,true], by omega, by simp only [maskFr,belowV,mkb], by simp only [List.all_nil,List.take_nil], by simp only [maskFr,putAll,List.set_cons_zero,List.set_cons_succ,mkb]; rfl⟩
     ·refine ⟨i + 1, rfl, hlt, fun j hj => ?_⟩
      rcases Nat.lt_or_ge j i with h | h
      ·exact hall j h
      ·obtain rfl : j = i := by omega
       rw [hx, hy]
       have h9 := hc41
       have h10 : x.path = y.path := by simpa [str_beq] using hb6_11
       have h11 : x.set = y.set := by simpa using h9
       rw [Rq.ext' h10 h11]
     ·simp only [Go.Eng.intOf,List.headD_cons]; omega
   ·have hres : false = decide (s = t) := by
     refine (decide_eq_false fun e => ?_).symm
     subst e; rw [hx] at hy; cases hy; simp [] at hb6_11
    refine runM_cut 6 (by simp) (by simp) fun K1 hK1 => ?_
    simp only [ltb,go_sem,reduceLT,reduceEqDiff]
    refine hK1 _ ?_
    refine runM_cut 6 (by simp) (by simp) fun K1 hK1 => ?_
    simp only [ltb,go_sem,reduceLT,reduceEqDiff]
    refine hK1 _ ?_
    simp only [ltb,go_sem,reduceLT,reduceEqDiff]
    refine hK _ _ rfl ?_
    simp only [mwb,reduceAdd,reduceEqDiff]
    refine ex_cond rfl ?_
    refine ex_region_w tt_ok 42 [0,0,0,0,2] [] rfl rfl fun K hK => ?_
    simp only [ltb,go_sem]
    refine hK _ _ rfl ?_
    simp only [mwb,reduceAdd]
    exact ex_ret ⟨.inl rfl, _, congrArg bl hres, rfl⟩
  ·have hge : ¬ i < s.length := by simpa using hc14
   have hres : true = decide (s = t) := (decide_eq_true (list_eq_of hst fun j hj => hall j (by omega))).symm
   refine ex_exit ?_
   show Go.Eng.Ex _ _ _ _ _ _
   refine ex_region_w tt_ok 42 [0,0,0,0,2] [] rfl rfl fun K hK => ?_
   simp only [ltb,go_sem]
   refine hK _ _ rfl ?_
   simp only [mwb,reduceAdd]
   exact ex_ret ⟨.inl rfl, _, congrArg bl hres, rfl⟩
theorem sameRl_ok (a b : Rl) (hb : RlB a) : ∃ r_, (fun w => w = bl (decide (a = b))) r_ ∧ FnOk Tryz.prog 21 [encRl a, encRl b] r_ := by
 refine fn_ex tt_ok (fn := Tryz.f21) Tryz.func21 rfl Tryz.call21 ?_
 simp only [ltb,startSt,Tryz.ntmps21,List.length_cons,List.length_nil,reduceAdd,reduceSub,List.replicate_succ,List.replicate_zero]
 simp only [encRl,rlCells,encRqs]
 have hT4 : Tryz.prog.underlying 4 = some .bool := by kernel_rfl
 have hbq := fun x y => ev_beql (P := Tryz.prog) x y hT4 a.yk b.yk
 refine ex_region_w tt_ok 52 [0,0,2,2,2] [] rfl rfl fun K hK => ?_
 simp only [ltb,go_sem,reduceLT,reduceEqDiff]
 refine hK _ _ rfl ?_
 simp only [mwb,reduceAdd,reduceEqDiff]
 refine ex_region_w tt_ok 52 (0::0::0::0::2::(rp 47 1 [])) [(5, 10), (12, 17), (19, 24), (26, 31), (33, 38), (40, 45)] rfl rfl fun K hK => ?_
 refine runX_cut 6 fun K1 hK1 => ?_
 simp only [ltb,go_sem,reduceAdd,reduceLT,reduceLeDiff,reduceEqDiff]
 refine hK1 _ ?_
 refine runX_case 10 (by rfl) fun b hb1_5 => ?_
 cases b
 ·refine runX_cut 8 fun K1 hK1 => ?_
  simp only [ltb,go_sem,reduceAdd,reduceLT,reduceEqDiff]
  refine hK1 _ ?_
  refine runX_cut 8 fun K1 hK1 => ?_
  simp only [ltb,go_sem,reduceAdd,reduceLT,reduceEqDiff]
  refine hK1 _ ?_
  refine runX_cut 8 fun K1 hK1 => ?_
  simp only [ltb,go_sem,reduceAdd,reduceLT,reduceEqDiff]
  refine hK1 _ ?_
  refine runX_cut 8 fun K1 hK1 => ?_
  simp only [ltb,go_sem,reduceAdd,reduceLT,reduceEqDiff]
  refine hK1 _ ?_
  refine runX_cut 8 fun K1 hK1 => ?_
  simp only [ltb,go_sem,reduceAdd,reduceLT,reduceEqDiff]
  refine hK1 _ ?_
  simp only [ltb,go_sem,reduceAdd,reduceLT,reduceEqDiff]
  refine hK _ _ rfl ?_
  simp only [mwb,reduceAdd,reduceEqDiff]
  refine ex_ret ?_
  refine ⟨.inl rfl, _, congrArg bl ?_, rfl⟩
  obtain ⟨a1, a2, a3, a4, a5, a6, a7⟩ := a
  obtain ⟨b1, b2, b3, b4, b5, b6, b7⟩ := b
  simp_all [str_beq, bool_beq]
 ·refine runX_cut 7 fun K1 hK1 => ?_
  simp only [ltb]
  simp only [ev_eql38,go_sem,reduceAdd,reduceLT,reduceLeDiff,reduceEqDiff]
  refine hK1 _ ?_
  refine runX_case 17 (by rfl) fun b hb1_12 => ?_
  cases b
  ·refine runX_cut 8 fun K1 hK1 => ?_
   simp only [ltb,go_sem,reduceAdd,reduceLT,reduceEqDiff]
   refine hK1 _ ?_
   refine runX_cut 8 fun K1 hK1 => ?_
   simp only [ltb,go_sem,reduceAdd,reduceLT,reduceEqDiff]
   refine hK1 _ ?_
   refine runX_cut 8 fun K1 hK1 => ?_
   simp only [ltb,go_sem,reduceAdd,reduceLT,reduceEqDiff]
   refine hK1 _ ?_
   refine runX_cut 8 fun K1 hK1 => ?_
   simp only [ltb,go_sem,reduceAdd,reduceLT,reduceEqDiff]
   refine hK1 _ ?_
   simp only [ltb,go_sem,reduceAdd,reduceLT,reduceEqDiff]
   refine hK _ _ rfl ?_
   simp only [mwb,reduceAdd,reduceEqDiff]
   refine ex_ret ?_
   refine ⟨.inl rfl, _, congrArg bl ?_, rfl⟩
   obtain ⟨a1, a2, a3, a4, a5, a6, a7⟩ := a
   obtain ⟨b1, b2, b3, b4, b5, b6, b7⟩ := b
   simp_all [str_beq, bool_beq]
  ·refine runX_cut 7 fun K1 hK1 => ?_
   simp only [ltb,go_sem,reduceAdd,reduceLT,reduceLeDiff,reduceEqDiff]
   refine hK1 _ ?_
   refine runX_case 24 (by rfl) fun b hb1_19 => ?_
   cases b
   ·refine runX_cut 8 fun K1 hK1 => ?_
    simp only [ltb,go_sem,reduceAdd,reduceLT,reduceEqDiff]
    refine hK1 _ ?_
    refine runX_cut 8 fun K1 hK1 => ?_
    simp only [ltb,go_sem,reduceAdd,reduceLT,reduceEqDiff]
    refine hK1 _ ?_
    refine runX_cut 8 fun K1 hK1 => ?_
    simp only [ltb,go_sem,reduceAdd,reduceLT,reduceEqDiff]
    refine hK1 _ ?_
    simp only [ltb,go_sem,reduceAdd,reduceLT,reduceEqDiff]
    refine hK _ _ rfl ?_
    simp only [mwb,reduceAdd,reduceEqDiff]
    refine ex_ret ?_
    refine ⟨.inl rfl, _, congrArg bl ?_, rfl⟩
    obtain ⟨a1, a2, a3, a4, a5, a6, a7⟩ := a
    obtain ⟨b1, b2, b3, b4, b5, b6, b7⟩ := b
    simp_all [str_beq, bool_beq]
   ·refine runX_cut 7 fun K1 hK1 => ?_
    simp only [ltb,go_sem,reduceAdd,reduceLT,reduceLeDiff,reduceEqDiff]
    refine hK1 _ ?_
    refine runX_case 31 (by rfl) fun b hb1_26 => ?_
    cases b
    ·refine runX_cut 8 fun K1 hK1 => ?_
     simp only [ltb,go_sem,reduceAdd,reduceLT,reduceEqDiff]
     refine hK1 _ ?_
     refine runX_cut 8 fun K1 hK1 => ?_
     simp only [ltb,go_sem,reduceAdd,reduceLT,reduceEqDiff]
     refine hK1 _ ?_
     simp only [ltb,go_sem,reduceAdd,reduceLT,reduceEqDiff]
     refine hK _ _ rfl ?_
     simp only [mwb,reduceAdd,reduceEqDiff]
     refine ex_ret ?_
     refine ⟨.inl rfl, _, congrArg bl ?_, rfl⟩
     obtain ⟨a1, a2, a3, a4, a5, a6, a7⟩ := a
     obtain ⟨b1, b2, b3, b4, b5, b6, b7⟩ := b
     simp_all [str_beq, bool_beq]
    ·refine runX_cut 7 fun K1 hK1 => ?_
     simp only [ltb,go_sem,reduceAdd,reduceLT,reduceLeDiff,reduceEqDiff]
     refine hK1 _ ?_
     refine runX_case 38 (by rfl) fun b hb1_33 => ?_
     cases b
     ·refine runX_cut 8 fun K1 hK1 => ?_
      simp only [ltb,go_sem,reduceAdd,reduceLT,reduceEqDiff]
      refine hK1 _ ?_
      simp only [ltb,go_sem,reduceAdd,reduceLT,reduceEqDiff]
      refine hK _ _ rfl ?_
      simp only [mwb,reduceAdd,reduceEqDiff]
      refine ex_ret ?_
      refine ⟨.inl rfl, _, congrArg bl ?_, rfl⟩
      obtain ⟨a1, a2, a3, a4, a5, a6, a7⟩ := a
      obtain ⟨b1, b2, b3, b4, b5, b6, b7⟩ := b
      simp_all [str_beq, bool_beq]
     ·refine runX_cut 7 fun K1 hK1 => ?_
      simp only [ltb]
      simp only [hbq,go_sem,reduceAdd,reduceLT,reduceEqDiff]
      refine hK1 _ ?_
      refine runX_case 45 (by rfl) fun b hb1_40 => ?_
      cases b
      ·simp only [ltb,go_sem,reduceAdd,reduceLT,reduceEqDiff]
       refine hK _ _ rfl ?_
       simp only [mwb,reduceAdd,reduceEqDiff]
       refine ex_ret ?_
       refine ⟨.inl rfl, _, congrArg bl ?_, rfl⟩
       obtain ⟨a1, a2, a3, a4, a5, a6, a7⟩ := a
       obtain ⟨b1, b2, b3, b4, b5, b6, b7⟩ := b
       simp_all [str_beq, bool_beq]
      ·refine runX_cut 5 fun K1 hK1 => ?_
       simp only [ltb,go_sem,reduceAdd,reduceLT,reduceLeDiff,reduceEqDiff]
       refine callF_ex (by have h := sameRqs_ok a.reqs b.reqs hb.2.1 hb.2.2; simp only [encRqs] at h; exact h) ?_
       rintro _ rfl
       try simp only [go_sem]
       refine hK1 _ ?_
       simp only [ltb,go_sem,reduceAdd,reduceLT,reduceEqDiff]
       refine hK _ _ rfl ?_
       simp only [mwb,reduceAdd,reduceEqDiff]
       refine ex_ret ?_
       refine ⟨.inl rfl, _, congrArg bl ?_, rfl⟩
       obtain ⟨a1, a2, a3, a4, a5, a6, a7⟩ := a
       obtain ⟨b1, b2, b3, b4, b5, b6, b7⟩ := b
       simp_all [str_beq, bool_beq]
end Go.Proofs.YtnfeacnbgbggfaaGreatDoor
end

section
namespace Go.Proofs.YtnfeacnbgbggfaaGreatDoor
open Go.Eng
variable [Glob]
structure RI (g : List Rl) (roots : List Rq) (S : List Rl) (P : List Rq) (X : Rq → Prop) : Prop where
 sub : ∀ r ∈ S, Rch g roots r
 pen : ∀ q ∈ P, q ∈ roots ∨ ∃ a ∈ S, q ∈ a.reqs
 clo : ∀ q, (q ∈ roots ∨ ∃ a ∈ S, q ∈ a.reqs) → X q ∨ q ∈ P ∨ ∀ r ∈ g, hits q r = true → r ∈ S
theorem RI.start (g : List Rl) (roots : List Rq) : RI g roots [] roots fun _ => False :=
 ⟨fun r hr => by simp at hr, fun q hq => .inl hq, fun q hq => by
  rcases hq with hq | ⟨a, ha, -⟩
  ·exact .inr (.inl hq)
  ·simp at ha⟩
variable {g : List Rl} {roots : List Rq} {S : List Rl} {P : List Rq}
theorem RI.fin (h : RI g roots S [] fun _ => False) {r : Rl} : r ∈ S ↔ Rch g roots r := by
 refine ⟨h.sub r, fun hr => ?_⟩
 induction hr with
 | root q r hq hr hh =>
  rcases h.clo q (.inl hq) with h1 | h1 | h1
  ·exact h1.elim
  ·simp at h1
  ·exact h1 r hr hh
 | step a q r _ hq hr hh ih =>
  rcases h.clo q (.inr ⟨a, ih, hq⟩) with h1 | h1 | h1
  ·exact h1.elim
  ·simp at h1
  ·exact h1 r hr hh
theorem RI.pop {q : Rq} (h : RI g roots S (q :: P) fun _ => False) : RI g roots S P (fun x => x = q) ∧ (q ∈ roots ∨ ∃ a ∈ S, q ∈ a.reqs) :=
 ⟨⟨h.sub, fun x hx => h.pen x (by simp [hx]), fun x hx => by
  rcases h.clo x hx with h1 | h1 | h1
  ·exact h1.elim
  ·rcases List.mem_cons.1 h1 with h1 | h1
   ·exact .inl h1
   ·exact .inr (.inl h1)
  ·exact .inr (.inr h1)⟩, h.pen q (by simp)⟩
theorem RI.see {q : Rq} {r : Rl} (h : RI g roots S P fun x => x = q) (hq : q ∈ roots ∨ ∃ a ∈ S, q ∈ a.reqs) (hr : r ∈ g) (hh : hits q r = true) : RI g roots (S ++ [r]) (P ++ r.reqs) fun x => x = q := by
 refine ⟨fun x hx => ?_, fun x hx => ?_, fun x hx => ?_⟩
 ·rcases List.mem_append.1 hx with hx | hx
  ·exact h.sub x hx
  ·rw [List.mem_singleton] at hx; subst hx
   rcases hq with hq | ⟨a, ha, hq⟩
   ·exact .root q x hq hr hh
   ·exact .step a q x (h.sub a ha) hq hr hh
 ·rcases List.mem_append.1 hx with hx | hx
  ·rcases h.pen x hx with h1 | ⟨a, ha, h1⟩
   ·exact .inl h1
   ·exact .inr ⟨a, List.mem_append_left _ ha, h1⟩
  ·exact .inr ⟨r, List.mem_append_right _ (List.mem_singleton.2 rfl), hx⟩
 ·have : (x ∈ roots ∨ ∃ a ∈ S, x ∈ a.reqs) ∨ x ∈ r.reqs := by
   rcases hx with hx | ⟨a, ha, hx⟩
   ·exact .inl (.inl hx)
   ·rcases List.mem_append.1 ha with ha | ha
    ·exact .inl (.inr ⟨a, ha, hx⟩)
    ·rw [List.mem_singleton] at ha; subst ha; exact .inr hx
  rcases this with hx | hx
  ·rcases h.clo x hx with h1 | h1 | h1
   ·exact .inl h1
   ·exact .inr (.inl (List.mem_append_left _ h1))
   ·exact .inr (.inr fun y hy hyx => List.mem_append_left _ (h1 y hy hyx))
  ·exact .inr (.inl (List.mem_append_right _ hx))
theorem RI.close {q : Rq} (h : RI g roots S P fun x => x = q) (hc : ∀ r ∈ g, hits q r = true → r ∈ S) : RI g roots S P fun _ => False :=
 ⟨h.sub, h.pen, fun x hx => by
  rcases h.clo x hx with rfl | h1 | h1
  ·exact .inr (.inr hc)
  ·exact .inr (.inl h1)
  ·exact .inr (.inr h1)⟩
def seen (S : List Rl) (k : Sel) : Bool := S.any fun r => decide (r.key = k)
theorem seen_iff {S : List Rl} {k : Sel} : seen S k = true ↔ ∃ r ∈ S, r.key = k := by unfold seen; rw [List.any_eq_true]; simp
theorem seen_mem (hs : g.Pairwise rlLt) (hS : ∀ r ∈ S, r ∈ g) {r : Rl} (hr : r ∈ g) : seen S r.key = true ↔ r ∈ S := by
 rw [seen_iff]
 constructor
 ·rintro ⟨x, hx, he⟩
  have hxg := hS x hx
  obtain ⟨i, hi, rfl⟩ := List.getElem_of_mem hxg
  obtain ⟨j, hj, rfl⟩ := List.getElem_of_mem hr
  rcases Nat.lt_trichotomy i j with h | h | h
  ·exact absurd he (rlLt_key (List.pairwise_iff_getElem.1 hs i j hi hj h))
  ·subst h; exact hx
  ·exact absurd he.symm (rlLt_key (List.pairwise_iff_getElem.1 hs j i hj hi h))
 ·exact fun h => ⟨r, h, rfl⟩
def todoN (g S : List Rl) : Nat := ((g.filter fun r => !seen S r.key).map fun r => r.reqs.length).sum
theorem todoN_le (g S : List Rl) : todoN g S ≤ (g.map fun r => r.reqs.length).sum := by
 unfold todoN
 induction g with
 | nil => simp
 | cons a r ih =>
  rw [List.filter_cons]
  split <;> simp <;> omega
theorem seen_snoc (S : List Rl) (r : Rl) (k : Sel) : seen (S ++ [r]) k = (seen S k || decide (r.key = k)) := by simp [seen]
theorem todoN_see (hs : g.Pairwise rlLt) {r : Rl} (hr : r ∈ g) (hn : seen S r.key = false) : todoN g (S ++ [r]) + r.reqs.length = todoN g S := by
 unfold todoN
 induction g with
 | nil => simp at hr
 | cons a t ih =>
  rw [List.pairwise_cons] at hs
  simp only [List.filter_cons,seen_snoc]
  rcases List.mem_cons.1 hr with rfl | hr
  ·have h2 : (t.filter fun x => !(seen S x.key || decide (r.key = x.key))) = t.filter fun x => !seen S x.key := by
    refine List.filter_congr fun x hx => ?_
    have := rlLt_key (hs.1 x hx)
    simp [this]
   simp only [hn,decide_true,Bool.or_true,Bool.not_true,Bool.not_false,if_true,Bool.false_eq_true,if_false,h2,List.map_cons,List.sum_cons]
   omega
  ·have hne : ¬ r.key = a.key := fun e => rlLt_key (hs.1 r hr) e.symm
   have := ih hs.2 hr
   simp only [seen_snoc] at this
   simp only [hne,decide_false,Bool.or_false]
   split
   ·simp only [List.map_cons,List.sum_cons]; omega
   ·exact this
def gS (S : List Rl) : List (Sel × V) := S.map fun r => (r.key, bl true)
theorem gS_below (n : Nat) (S : List Rl) : ((mkM selVal 0 (gS S)).all fun e => belowV n e.2.2) = true := by
 rw [mkM_all selVal (belowV n)]
 unfold gS
 simp [belowV]
theorem getM_gS (k : Sel) : ∀ S : List Rl, (getM k (gS S)).getD (bl false) = bl (seen S k)
 | [] => rfl
 | r :: t => by
  show (if r.key = k then some (bl true) else getM k (gS t)).getD _ = _
  unfold seen
  rw [List.any_cons]
  by_cases h : r.key = k
  ·simp [h]
  ·have := getM_gS k t
   unfold seen at this
   simp [h, this]
theorem seen_get (S : List Rl) (k : Sel) {mem : List Blk} {b : Nat} (hm : mem[b]? = some (.map (mkM selVal 0 (gS S)) (gS S).length)) : lookupV Tryz.prog mem 85 (.mp b) (selV k) false = some (bl (seen S k)) := by
 rw [kt85.get k (gS S) hm zero4, getM_gS]; rfl
theorem seen_put {S : List Rl} {r : Rl} (h : seen S r.key = false) {mem : List Blk} {b : Nat} (hm : mem[b]? = some (.map (mkM selVal 0 (gS S)) (gS S).length)) : insertV Tryz.prog mem 85 (.mp b) (selV r.key) (bl true) = some (mem.set b (.map (mkM selVal 0 (gS (S ++ [r]))) (gS (S ++ [r])).length)) := by
 have hp : putM r.key (bl true) (gS S) = gS (S ++ [r]) := by
  unfold putM gS
  rw [findM_none (fun e he => by
   obtain ⟨x, hx, rfl⟩ := List.mem_map.1 he
   exact fun e => by rw [seen_iff.2 ⟨x, hx, e⟩] at h; cases h), List.map_append]
  rfl
 rw [kt85.put r.key (bl true) (gS S) hm, hp]
theorem mem_atP {l : List Rl} {p : ByteArray} {r : Rl} : r ∈ atP l p ↔ r ∈ l ∧ r.path = p := by unfold atP; simp
theorem tb_path (l : List Rl) (q : ByteArray) {mem : List Blk} {b : Nat} (hm : mem[b]? = some (.map (mkM strVal 0 (gP l)) (pathsOf l).length)) :
  lookupV Tryz.prog mem 80 (.mp b) (str q) false = some (if q ∈ pathsOf l then .slice (rowsP l q) else .sc (.slice none 0 0)) := by
 rw [← gP_length] at hm
 rw [kt80.get q (gP l) hm zero22]
 unfold gP
 rw [getM_map]
 split <;> rfl
theorem reached_filter (h : RI g roots S [] fun _ => False) (hs : g.Pairwise rlLt) : reached g roots = g.filter fun r => seen S r.key := by
 unfold reached
 refine List.filter_congr fun r hr => ?_
 have hS : ∀ x ∈ S, x ∈ g := fun x hx => (h.sub x hx).mem
 rw [Bool.eq_iff_iff, @decide_eq_true_iff _ (Classical.propDecidable _), ← h.fin, seen_mem hs hS hr]
end Go.Proofs.YtnfeacnbgbggfaaGreatDoor
end

section
namespace Go.Proofs.YtnfeacnbgbggfaaGreatDoor
open Go.Eng
open Nat (reduceAdd reduceLT reduceLeDiff reduceMul reduceEqDiff reduceSub)
variable [Glob]
set_option maxHeartbeats 4000000
set_option maxRecDepth 100000
attribute [local irreducible] runM stepM valD stepOp stepD callF callS
theorem tri_slot {P : Program} {ρ : Option Nat} {n0 : Nat} {c : Code} {st : St} {Q : Exit → St → Prop} {v v' : V} (t : Nat) (h0 : st.fr[t]? = some v) (he : v = v') (h : Tri P ρ n0 c { fr := st.fr.set t v', mem := st.mem } Q) : Tri P ρ n0 c st Q := by
 subst he
 rwa [set_same h0] at h
theorem cloneRqs_live (l : List Rq) (hl : l.length ≤ 34359738368) : FnOkS Tryz.prog 23 [.slice (l.map encRq)] [] (.ms 0 1 0 l.length) [.rows 1 2 (l.map encRq)] := by
 have h1 := cloneRqs_ok_first l
 have hl' : (l.map encRq).length ≤ 34359738368 := by rw [List.length_map]; exact hl
 rw [← List.length_map (f := encRq)]
 generalize l.map encRq = rows at h1 hl'
 refine fns_ok tt_ok (fn := Tryz.f23) 1 (by simp) Tryz.func23 rfl Tryz.call23 ?_
 simp only [ltb,startSt,Tryz.ntmps23,List.length_cons,List.length_nil,reduceAdd,reduceSub,List.replicate_succ,List.replicate_zero]
 refine tri_seq_region tt_ok fun K hK => ?_
 simp only [go_sem,reduceIte,reduceAdd,reduceLT,reduceLeDiff,reduceMul,reduceEqDiff,reduceSub,reduceCtorEq]
 refine hK _ ?_
 refine tri_seq ?_
 refine tri_seq_region tt_ok fun K hK => ?_
 simp only [go_sem,reduceIte,reduceAdd,reduceLT,reduceLeDiff,reduceMul,reduceEqDiff,reduceSub,reduceCtorEq]
 intro b hb
 refine hK _ ?_
 cases b with
 | true =>
  have h0 : rows = [] := by
   cases rows with
   | nil => rfl
   | cons a r => have := hb (by simp); cases this
  subst h0
  refine tri_cond rfl ?_
  refine tri_seq_region tt_ok fun K hK => ?_
  simp only [go_sem,reduceIte,reduceAdd,reduceLT,reduceLeDiff,reduceMul,reduceEqDiff,reduceSub,reduceCtorEq]
  refine hK _ ?_
  refine tri_nilMs 2 1 2 rfl ?_
  exact tri_ret ⟨.inl rfl, rfl, rfl, rfl, rfl⟩
 | false =>
  refine tri_cond rfl (tri_skip ?_)
  show Tri _ _ _ _ _ _
  refine tri_seq_region tt_ok fun K hK => ?_
  simp only [h1,hl',go_sem,reduceIte,reduceAdd,reduceLT,reduceLeDiff,reduceMul,reduceEqDiff,reduceSub,reduceCtorEq]
  refine hK _ ?_
  refine tri_ret ⟨.inl rfl, ?_⟩
  simp [resOne, resL, resV, Tryz.f23, belowV, belowB, belowL]
theorem cloneRqs_at (l : List Rq) (hl : l.length ≤ 34359738368) (M : List Blk) : ∃ r_ m_, (fun r m => r = V.ms M.length 1 0 l.length ∧ m = M ++ [.rows 1 2 (l.map encRq)]) r_ m_ ∧ FnOkS Tryz.prog 23 [.slice (l.map encRq)] M r_ m_ := by
 have h2 := (cloneRqs_live l hl).ren M (fun j => M.length + j) 0 rfl rfl rfl (by simp [belowV]) rfl (Nat.zero_le _) (fun i B hi => by simp at hi) (fun i j hi => by omega) (fun j _ => by omega)
 exact ⟨_, _, ⟨rfl, rfl⟩, h2⟩
theorem good_mem {l : List Rl} {r : Rl} (h : r ∈ good l) : r ∈ l := by
 unfold good at h
 split at h
 ·exact h
 ·simp at h
theorem good_sorted (l : List Rl) : (good l).Pairwise rlLt := by
 unfold good
 split
 ·exact ix_sorted ‹_›
 ·exact List.Pairwise.nil
theorem ixFrom_ok : ∀ (l : List Rl) (b : Option Rl), ixFrom b l = 0 → ∀ r ∈ l, rlE r = 0
 | [], _, _, r, hr => by simp at hr
 | a :: t, b, h, r, hr => by
  rw [ixFrom_cons] at h
  by_cases h0 : rlE a = 0
  ·rcases List.mem_cons.1 hr with rfl | hr
   ·exact h0
   ·rw [if_neg (by simp [h0])] at h
    refine ixFrom_ok t (some a) ?_ r hr
    cases b with
    | none => exact h
    | some p =>
     dsimp only at h
     split at h
     ·omega
     ·split at h
      ·omega
      ·exact h
  ·rw [if_pos h0] at h; exact absurd h h0
theorem good_ok {l : List Rl} {r : Rl} (h : r ∈ good l) : rlE r = 0 := by
 unfold good at h
 split at h
 ·rename_i h0
  unfold ixE at h0
  split at h0
  ·omega
  ·exact ixFrom_ok l none h0 r h
 ·simp at h
theorem good_ver {l : List Rl} {r : Rl} (h : r ∈ good l) : r.ver.ok = true := by
 have h1 := good_ok h
 unfold rlE at h1
 split at h1
 ·omega
 ·split at h1
  ·omega
  ·rename_i h2
   revert h2
   cases r.ver.ok <;> simp
theorem good_reqs {l : List Rl} {r : Rl} (h : r ∈ good l) : r.reqs.length ≤ 16 := by
 have h1 := good_ok h
 unfold rlE at h1
 split at h1
 ·omega
 ·split at h1
  ·omega
  ·split at h1
   ·rename_i h2; exact absurd h1 h2
   ·rename_i h2
    simp only [ne_eq,Decidable.not_not] at h2
    unfold rqsE at h2
    split at h2 <;> omega
theorem good_len (l : List Rl) : (good l).length ≤ 256 := by
 unfold good
 split
 ·exact ix_len ‹_›
 ·simp
theorem todoN_good (l S : List Rl) : todoN (good l) S ≤ 4096 := by
 refine Nat.le_trans (todoN_le _ _) ?_
 have h1 : ∀ g : List Rl, (∀ r ∈ g, r.reqs.length ≤ 16) → (g.map fun r => r.reqs.length).sum ≤ 16 * g.length := fun g => by
  induction g with
  | nil => simp
  | cons a t ih =>
   intro h
   have := ih fun r hr => h r (by simp [hr])
   have := h a (by simp)
   simp only [List.map_cons,List.sum_cons,List.length_cons]; omega
 have := h1 (good l) fun r hr => good_reqs hr
 have := good_len l
 omega
end Go.Proofs.YtnfeacnbgbggfaaGreatDoor
end

section
namespace Go.Proofs.YtnfeacnbgbggfaaGreatDoor
open Go.Eng
open Nat (reduceAdd reduceLT reduceLeDiff reduceMul reduceEqDiff reduceSub)
variable [Glob]
set_option maxHeartbeats 4000000
set_option maxRecDepth 100000
attribute [local irreducible] runM stepM valD stepOp stepD callF callS stepTm callTm callRel appSQ
theorem reach_ok (hG : Glob.g = some 0) (l : List Rl) (I : List V) (hb : IxB l) (roots : List Rq) (hr : roots.length ≤ 1048576) (hrb : ∀ q ∈ roots, RqB q) : FnOk Tryz.prog 13 [encIx l I, encRqs roots] (encSels ((reached (good l) roots).map Rl.key)) := by
 refine fn_t tt_ok (fn := Tryz.f13) Tryz.func13 rfl Tryz.call13 ?_
 simp only [ltb,startSt,Tryz.ntmps13,List.length_cons,List.length_nil,reduceAdd,reduceSub,List.replicate_succ,List.replicate_zero]
 simp only [encIx,encRls,encRqs]
 have hlb := hb.1
 refine t_region_w tt_ok 79 [0,0,2,0,2] [] rfl rfl fun K hK => ?_
 simp only [ltb,go_sem,reduceLT]
 refine hK _ _ rfl ?_
 simp only [mwb,reduceAdd,reduceEqDiff]
 refine t_region_w tt_ok 79 [0,0,0,0,0,2,1,0,0,0,0,0,0,0,0,1,1,1,1,1] [] rfl rfl fun K hK => ?_
 refine runTm_cut 2 fun K1 hK1 => ?_
 simp only [ltb,go_sem,reduceAdd,reduceLT]
 refine .inl <| callF_w (by have h := newTable_at hG l I hb; simp only [encIx,encRls] at h; exact h _) ?_
 rintro _ _ ⟨rfl, rfl⟩
 try simp only [go_sem,reduceAdd]
 simp only [tbR,reduceAdd]
 refine hK1 _ ?_
 simp only [ltb,go_sem,reduceAdd,reduceLT,reduceEqDiff]
 refine hK _ _ rfl ?_
 simp only [mwb,reduceAdd,reduceEqDiff]
 refine t_region_w tt_ok 79 [0,0,0,0,0,0,0,2,0,0,0,0,0,0,0,0,0,0,0,0,1] [] rfl rfl fun K hK => ?_
 simp only [ltb,go_sem,reduceAdd,reduceLT]
 refine hK _ _ rfl ?_
 simp only [mwb,reduceAdd,reduceEqDiff]
 refine t_region_w tt_ok 79 (rp 8 0 (2::(rp 12 0 [1,1]))) [] rfl rfl fun K hK => ?_
 refine runTm_cut 2 fun K1 hK1 => ?_
 simp only [ltb,go_sem,reduceAdd,reduceLT]
 refine .inl <| callF_w (cloneRqs_at roots (by omega) _) ?_
 rintro _ _ ⟨rfl, rfl⟩
 try simp only [go_sem,reduceAdd]
 try simp only [ltb,List.length_cons,List.length_nil,reduceAdd]
 refine hK1 _ ?_
 simp only [ltb,go_sem,reduceAdd,reduceLT,reduceEqDiff]
 refine hK _ _ rfl ?_
 simp only [mwb,reduceAdd,reduceEqDiff]
 refine t_seq ?_
 refine t_block ?_
 refine t_loopF (fun a : List Rl × List Rq × Nat × Nat × List V => { fr := [.undef, .undef, .ptr 0 0, .undef, .undef, .ptr 5 0, .undef, .mp 6, .ms 7 a.2.2.1 a.2.2.2.1 a.2.1.length, .undef, .undef, .undef, .undef, .undef, .undef, .undef, .undef, .undef, .undef, .undef, .undef, .undef, .undef, .undef, .undef, .undef, .undef, .undef, .undef, .undef, .undef, .undef, .undef, .undef, .undef, .undef, .undef, .undef, .undef, .undef, .undef, .undef, .undef, .undef, .undef, .undef, .undef, .undef, .undef, .undef, .undef, .undef, .undef, .undef, .undef, .undef, .undef, .undef, .undef, .undef, .undef, .undef, .undef, .undef, .undef, .undef, .undef, .undef, .undef, .undef, .undef, .undef, .undef, .undef, .undef, .undef, .undef, .undef, .undef], mem := [.box [.slice (l.map encRl), .slice I], .box [.slice (l.map encRl), .slice I], .box [.mp 3, .mp 4], .map (mkM selVal 0 (gK (good l))) (gK (good l)).length, .map (mkM strVal 0 (gP (good l))) (pathsOf (good l)).length, .box [.mp 3, .mp 4], .map (mkM selVal 0 (gS a.1)) (gS a.1).length, .rows a.2.2.1 2 a.2.2.2.2] }) (fun a => a.2.1.length + todoN (good l) a.1) (fun a => RI (good l) roots a.1 a.2.1 (fun _ => False) ∧ a.2.2.2.2.drop a.2.2.2.1 = a.2.1.map encRq ∧ a.2.2.2.1 + a.2.1.length = a.2.2.2.2.length ∧ a.2.1.length + todoN (good l) a.1 ≤ roots.length + 4096) (([], roots, 1, 0, roots.map encRq)) 8 [false,false,true,false,false,true,false,true,true] (by omega) (by simp only [maskFr,belowV,reduceLT,mkb]) (by simp only [gK_below,gP_below,List.all_cons,List.all_nil,belowV,bB_box,bB_map,bB_rows,reduceLT,decide_true,Bool.and_self,List.take_succ_cons,List.take_nil]) (by simp only [maskFr,gS,List.map_nil,mkM,List.length_nil,mkb] <;> rfl) (⟨RI.start _ _, rfl, by simp, by have := todoN_good l []; dsimp only; omega⟩) ?_
 rintro ⟨S, P, v, o, rs⟩ ⟨hRI, hdr, hol, hW⟩
 dsimp only at hRI hdr hol hW ⊢
 refine t_seq ?_
 refine t_region_w tt_ok 79 (rp 23 0 [1,1,2]) [] rfl rfl fun K hK => ?_
 simp only [ltb,go_sem,reduceAdd,reduceLT,reduceEqDiff]
 refine hK _ _ rfl ?_
 simp only [mwb,reduceAdd,reduceEqDiff]
 refine t_if rfl (fun hc25 => ?_) (fun hc25 => ?_)
 ·obtain ⟨q, P, rfl⟩ : ∃ q P2, P = q :: P2 := by
   cases P with
   | nil => simp at hc25
   | cons q r => exact ⟨q, r, rfl⟩
  simp only [List.length_cons] at hc25 ⊢
  rw [hc25]
  obtain ⟨hRIp, hq⟩ := hRI.pop
  have hrow : rs[o]? = some (encRq q) := by
   have h := congrArg (fun x => x[0]?) hdr
   simpa using h
  have hdr1 : rs.drop (o + 1) = P.map encRq := by
   rw [← List.drop_drop, hdr]; rfl
  have hol1 : o + 1 + P.length = rs.length := by rw [List.length_cons] at hol; omega
  rw [List.length_cons] at hW
  have h0 : (0 : Int) < ((P.length + 1 : Nat) : Int) := by omega
  have h1 : (1 : Int) ≤ ((P.length + 1 : Nat) : Int) := by omega
  have hsub : (((P.length + 1 : Nat) : Int) - 1).toNat = P.length := by omega
  have hcut : ∀ mem : List Blk, mem[7]? = some (.rows v 2 rs) → cutAt mem 2 1 none (.ms 7 v o (P.length + 1)) = some (.ms 7 v (o + 1) P.length) := fun mem hm => by
   unfold cutAt
   simp [sizeOfBlk, hm] <;> omega
  have hqb : RqB q := by
   rcases hq with hq | ⟨a, ha, hq⟩
   ·exact hrb q hq
   ·exact (hb.2 a (good_mem (hRI.sub a ha).mem)).2.2 q hq
  refine t_skip ?_
  show Tri _ _ _ _ _ _
  refine t_block ?_
  refine t_region_w tt_ok 79 (rp 9 0 (2::(rp 16 0 [1,1,1]))) [] rfl rfl fun K hK => ?_
  try simp only [ltb]
  simp only [hrow,h0,List.length_cons,encRq,encSet,Nat.add_zero,Int.le_refl,Int.toNat_zero,go_sem,reduceAdd,reduceLT,reduceEqDiff]
  refine hK _ _ rfl ?_
  simp only [mwb,reduceAdd,reduceEqDiff]
  refine t_region_w tt_ok 79 (rp 8 0 (2::(rp 20 0 [1,1]))) [] rfl rfl fun K hK => ?_
  try simp only [ltb]
  simp only [hcut,List.length_cons,go_sem,reduceAdd,reduceLT,reduceEqDiff]
  refine hK _ _ rfl ?_
  simp only [mwb,reduceAdd,reduceEqDiff]
  by_cases hin : q.path ∈ pathsOf (good l)
  ·have hlk := fun (mem : List Blk) (b : Nat) hm => tb_path (good l) q.path (mem := mem) (b := b) hm
   simp only [if_pos hin,rowsP] at hlk
   refine t_region_w tt_ok 79 (rp 31 0 [1,1,1,1,2,2,2]) [] rfl rfl fun K hK => ?_
   try simp only [ltb]
   simp only [List.length_cons,Nat.add_zero,hlk,List.length_map,go_sem,reduceAdd,reduceLT,reduceEqDiff]
   refine hK _ _ rfl ?_
   simp only [mwb,reduceAdd,reduceEqDiff]
   refine t_block ?_
   refine t_loopF (fun b : List Rl × List Rq × Nat × Nat × List V × Nat => { fr := [.undef, .undef, .ptr 0 0, .undef, .undef, .ptr 5 0, .undef, .mp 6, .ms 7 b.2.2.1 b.2.2.2.1 b.2.1.length, .ptr 8 0, .undef, .undef, .undef, .undef, .undef, .undef, .undef, .undef, .undef, .undef, .undef, .undef, .undef, .undef, .undef, .undef, .undef, .undef, .undef, .undef, .undef, .undef, .undef, .undef, .undef, .slice ((atP (good l) q.path).map encRl), num (atP (good l) q.path).length, num b.2.2.2.2.2, .undef, .undef, .undef, .undef, .undef, .undef, .undef, .undef, .undef, .undef, .undef, .undef, .undef, .undef, .undef, .undef, .undef, .undef, .undef, .undef, .undef, .undef, .undef, .undef, .undef, .undef, .undef, .undef, .undef, .undef, .undef, .undef, .undef, .undef, .undef, .undef, .undef, .undef, .undef, .undef, .undef], mem := [.box [.slice (l.map encRl), .slice I], .box [.slice (l.map encRl), .slice I], .box [.mp 3, .mp 4], .map (mkM selVal 0 (gK (good l))) (gK (good l)).length, .map (mkM strVal 0 (gP (good l))) (pathsOf (good l)).length, .box [.mp 3, .mp 4], .map (mkM selVal 0 (gS b.1)) (gS b.1).length, .rows b.2.2.1 2 b.2.2.2.2.1, .box [str q.path, .slice (q.set.map encSpn)]] }) (fun b => (atP (good l) q.path).length - b.2.2.2.2.2) (fun b => RI (good l) roots b.1 b.2.1 (fun x => x = q) ∧ (q ∈ roots ∨ ∃ a ∈ b.1, q ∈ a.reqs) ∧ b.2.2.2.2.1.drop b.2.2.2.1 = b.2.1.map encRq ∧ b.2.2.2.1 + b.2.1.length = b.2.2.2.2.1.length ∧ b.2.1.length + todoN (good l) b.1 + 1 ≤ P.length + 1 + todoN (good l) S ∧ b.2.2.2.2.2 ≤ (atP (good l) q.path).length ∧ ∀ r ∈ (atP (good l) q.path).take b.2.2.2.2.2, has q.set r.ver.place = true → r ∈ b.1) ((S, P, v, o + 1, rs, 0)) 9 (false::false::true::false::false::true::false::true::true::true::(rp 25 false [true,true,true])) (by omega) (by simp only [maskFr,belowV,reduceLT,mkb]) (by simp only [gK_below,gP_below,gS_below,List.all_cons,List.all_nil,belowV,bB_box,bB_map,bB_rows,reduceLT,decide_true,Bool.and_self,List.take_succ_cons,List.take_nil]) (by simp only [maskFr,mkb] <;> rfl) (⟨hRIp, hq, hdr1, hol1, by dsimp only; omega, Nat.zero_le _, fun r hr => by simp at hr⟩) ?_
   rintro ⟨S1, P1, v1, o1, rs1, j⟩ ⟨hRI1, hq1, hdr1, hol1, hM1, hj, hdone⟩
   dsimp only at hRI1 hq1 hdr1 hol1 hM1 hj hdone ⊢
   refine t_region_w tt_ok 79 (rp 38 0 [2]) [] rfl rfl fun K hK => ?_
   try simp only [ltb]
   simp only [List.length_cons,go_sem,reduceAdd,reduceLT]
   refine hK _ _ rfl ?_
   simp only [mwb,reduceAdd]
   refine t_seq ?_
   refine t_if rfl (fun hc38 => ?_) (fun hc38 => ?_)
   ·have hlt : j < (atP (good l) q.path).length := by simpa using hc38
    have hn256 : (atP (good l) q.path).length ≤ 256 := Nat.le_trans (List.length_filter_le _ _) (good_len l)
    have hw := i64_succ j (by omega)
    obtain ⟨x, hx⟩ : ∃ x, (atP (good l) q.path)[j]? = some x := ⟨_, List.getElem?_eq_getElem hlt⟩
    have hxm := mem_atP.1 (List.mem_of_getElem? hx)
    have hpl : x.ver.pl = x.ver.place := by unfold Ver.pl; rw [if_pos (good_ver hxm.1)]
    have hsk := fun (mem : List Blk) (b : Nat) hm => seen_get S1 x.key (mem := mem) (b := b) hm
    simp only [selV] at hsk
    have htk : (atP (good l) q.path).take (j + 1) = (atP (good l) q.path).take j ++ [x] := take_snoc hx
    have hSg : ∀ r ∈ S1, r ∈ good l := fun r hr => (hRI1.sub r hr).mem
    refine t_skip ?_
    show Tri _ _ _ _ _ _
    refine t_seq ?_
    refine t_block ?_
    refine t_region_w tt_ok 79 (rp 11 0 (2::(rp 27 0 [1,1]))) [] rfl rfl fun K hK => ?_
    try simp only [ltb]
    simp only [List.length_cons,List.getElem?_map,hx,encRl,rlCells,encRqs,go_sem,reduceAdd,reduceLT,reduceEqDiff]
    refine hK _ _ rfl ?_
    simp only [mwb,reduceAdd,reduceEqDiff]
    refine t_mixed_w tt_ok mixed_ok 79 [0,0,0,0,0,0,0,0,0,0,0,0,0,0,0,0,0,0,0,0,0,0,0,0,0,0,0,0,0,0,0,0,0,0,0,0,0,0,0,0,0,1,1,1,1,1,1,1,1,1,1,1,2] (by kernel_rfl) [⟨.n, 0, [], [], []⟩, ⟨.r, 0, [], [], []⟩, ⟨.n, 0, [], [], []⟩, ⟨.r, 0, [], [], []⟩, ⟨.n, 0, [], [], []⟩, ⟨.n, 0, [], [], []⟩, ⟨.n, 0, [], [], []⟩, ⟨.r, 0, [], [], []⟩, ⟨.r, 0, [], [], []⟩, ⟨.n, 0, [], [], []⟩, ⟨.n, 0, [], [], []⟩, ⟨.n, 0, [], [], []⟩] 0 (by kernel_rfl) fun K hK => ?_
    try simp only [ltb,List.replicate_zero]
    refine runM_cut 3 (by simp) (by simp) fun K1 hK1 => ?_
    try simp only [ltb]
    simp only [List.length_cons,go_sem,reduceAdd,reduceLT,reduceEqDiff]
    refine callD_ex rfl (by have h := key_ok x; simp only [encRl,rlCells,encRqs,encSel] at h; exact h) ?_
    rintro _ rfl
    try simp only [go_sem]
    refine hK1 _ ?_
    refine runM_cut 3 (by simp) (by simp) fun K1 hK1 => ?_
    try simp only [ltb]
    simp only [List.length_cons,hsk,go_sem,reduceAdd,reduceLT,reduceEqDiff]
    refine hK1 _ ?_
    refine runM_case 46 (by rfl) fun b hb10_5 => ?_
    cases b
    ·have hsn : seen S1 x.key = true := by simpa using hb10_5
     let nv : List Rl × List Rq × Nat × Nat × List V × Nat := (S1, P1, v1, o1, rs1, j + 1)
     have hnv : RI (good l) roots S1 P1 (fun y => y = q) ∧ (q ∈ roots ∨ ∃ a ∈ S1, q ∈ a.reqs) ∧ rs1.drop o1 = P1.map encRq ∧ o1 + P1.length = rs1.length ∧ P1.length + todoN (good l) S1 + 1 ≤ P.length + 1 + todoN (good l) S ∧ j + 1 ≤ (atP (good l) q.path).length ∧ ∀ r ∈ (atP (good l) q.path).take (j + 1), has q.set r.ver.place = true → r ∈ S1 := by
      refine ⟨hRI1, hq1, hdr1, hol1, hM1, hlt, fun r hr hh => ?_⟩
      rw [htk] at hr
      rcases List.mem_append.1 hr with hr | hr
      ·exact hdone r hr hh
      ·rw [List.mem_singleton] at hr; subst hr
       refine (seen_mem (good_sorted l) hSg hxm.1).1 ?_
       first | exact hsn | (rw [hpl, hh] at hc52; cases hc52)
     try simp only [ltb]
     simp only [List.length_cons,go_sem,reduceAdd,reduceLT,reduceEqDiff]
     refine hK _ _ rfl ?_
     simp only [mwb,reduceAdd,reduceEqDiff]
     refine t_cond rfl ?_
     refine t_skip ?_
     show Tri _ _ _ _ _ _
     refine t_last_region_w tt_ok 79 (rp 37 0 (2::(rp 22 0 [2]))) [] (by kernel_rfl) rfl rfl fun K hK => ?_
     try simp only [ltb]
     simp only [List.length_cons,hw,go_sem,reduceAdd,reduceLT]
     refine hK _ _ rfl ?_
     simp only [mwb,reduceAdd,reduceEqDiff]
     refine ⟨nv, ?_, ?_, 9, (false::false::true::false::false::true::false::true::true::true::(rp 25 false [true,true,true])), by omega, by simp only [maskFr,belowV,reduceLT,mkb], by simp only [ltb,gK_below,gP_below,gS_below,List.all_cons,List.all_nil,belowV,bB_box,bB_map,bB_rows,reduceLT,decide_true,Bool.and_self], by (first | (simp only [nv,maskFr,mkb]; done) | (simp only [nv,hw,List.length_append,List.length_map,hlen0,maskFr,belowV,belowL,bB_box,bB_map,bB_rows,bB_frz,bB_dead,bB_hole,reduceLeDiff,reduceLT,mkb]; done))⟩
     ·exact hnv
     ·dsimp only [nv]; omega
    ·refine runM_cut 4 (by simp) (by simp) fun K1 hK1 => ?_
     try simp only [ltb]
     simp only [List.length_cons,go_sem,reduceAdd,reduceLT,reduceEqDiff]
     refine callD_ex rfl (by have h := place_ok x; simp only [encRl,rlCells,encRqs] at h; exact h) ?_
     rintro _ rfl
     try simp only [go_sem]
     refine hK1 _ ?_
     refine runM_cut 1 (by simp) (by simp) fun K1 hK1 => ?_
     try simp only [ltb]
     simp only [List.length_cons,go_sem,reduceAdd,reduceLT,reduceEqDiff]
     refine callD_ex rfl (by have h := has_ok q.set x.ver.pl hqb.2; simp only [encSet] at h; exact h) ?_
     rintro _ rfl
     try simp only [go_sem]
     refine hK1 _ ?_
     try simp only [ltb]
     simp only [List.length_cons,go_sem,reduceAdd,reduceLT,reduceEqDiff]
     refine hK _ _ rfl ?_
     simp only [mwb,reduceAdd,reduceEqDiff]
     refine t_if rfl (fun hc52 => ?_) (fun hc52 => ?_)
     ·have hsf : seen S1 x.key = false := by simpa using hb10_5
      have hhas : has q.set x.ver.place = true := by rw [← hpl]; simpa using hc52
      have hhit : hits q x = true := by unfold hits; rw [hhas, hxm.2]; simp
      have hRI2 := hRI1.see hq1 hxm.1 hhit
      have htd := todoN_see (good_sorted l) hxm.1 hsf
      have hrq := good_reqs hxm.1
      have hpu := fun (mem : List Blk) (b : Nat) hm => seen_put hsf (mem := mem) (b := b) hm
      simp only [selV] at hpu
      refine t_region_w tt_ok 79 (rp 53 0 [1,1,1]) [] rfl rfl fun K hK => ?_
      refine runTm_cut 3 fun K1 hK1 => ?_
      simp only [ltb]
      simp only [List.length_cons,go_sem,reduceAdd,reduceLT,reduceEqDiff]
      refine .inl <| callF_ex (by have h := key_ok x; simp only [encRl,rlCells,encRqs,encSel] at h; exact h) ?_
      rintro _ rfl
      try simp only [go_sem]
      refine hK1 _ ?_
      try simp only [ltb]
      simp only [List.length_cons,hpu,go_sem,reduceAdd,reduceLT,reduceEqDiff]
      refine hK _ _ rfl ?_
      simp only [mwb]
      rcases Nat.eq_zero_or_pos o1 with rfl | hop
      ·have hlen0 : rs1.length = P1.length := by omega
       have hfo := cloneRqs_ok_first x.reqs
       have hbd : P1.length + x.reqs.length ≤ 34359738368 := by omega
       have hd2 : (rs1 ++ x.reqs.map encRq).drop 0 = rs1.drop 0 ++ x.reqs.map encRq := rfl
       have hl2 : 0 + (P1.length + x.reqs.length) = (rs1 ++ x.reqs.map encRq).length := by rw [List.length_append, List.length_map, hlen0, Nat.zero_add]
       let nv : List Rl × List Rq × Nat × Nat × List V × Nat := (S1 ++ [x], P1 ++ x.reqs, v1 + 1, 0, (rs1 ++ x.reqs.map encRq), j + 1)
       have hnv : RI (good l) roots (S1 ++ [x]) (P1 ++ x.reqs) (fun y => y = q) ∧ (q ∈ roots ∨ ∃ a ∈ S1 ++ [x], q ∈ a.reqs) ∧ (rs1 ++ x.reqs.map encRq).drop 0 = (P1 ++ x.reqs).map encRq ∧ 0 + (P1 ++ x.reqs).length = (rs1 ++ x.reqs.map encRq).length ∧ (P1 ++ x.reqs).length + todoN (good l) (S1 ++ [x]) + 1 ≤ P.length + 1 + todoN (good l) S ∧ j + 1 ≤ (atP (good l) q.path).length ∧ ∀ r ∈ (atP (good l) q.path).take (j + 1), has q.set r.ver.place = true → r ∈ S1 ++ [x] := by
        refine ⟨hRI2, ?_, by rw [hd2, hdr1, List.map_append], by rw [List.length_append]; omega, by rw [List.length_append]; omega, hlt, fun r hr hh => ?_⟩
        ·rcases hq1 with h | ⟨a, ha, h⟩
         ·exact .inl h
         ·exact .inr ⟨a, List.mem_append_left _ ha, h⟩
        ·rw [htk] at hr
         rcases List.mem_append.1 hr with hr | hr
         ·exact List.mem_append_left _ (hdone r hr hh)
         ·exact List.mem_append_right _ hr
       refine t_last_region_w tt_ok 79 (rp 8 0 (2::(rp 47 0 [2,2,2,2]))) [] (by kernel_rfl) rfl rfl fun K hK => ?_
       try simp only [ltb]
       simp only [List.length_cons,hlen0,hfo,hbd,List.length_map,go_sem,reduceAdd,reduceLT,reduceLeDiff,reduceEqDiff]
       refine hK _ _ rfl ?_
       simp only [mwb,reduceAdd,reduceEqDiff]
       show Tri _ _ _ _ _ _
       refine t_last_region_w tt_ok 79 (rp 37 0 (2::(rp 22 0 [2]))) [] (by kernel_rfl) rfl rfl fun K hK => ?_
       try simp only [ltb]
       simp only [List.length_cons,hw,go_sem,reduceAdd,reduceLT]
       refine hK _ _ rfl ?_
       simp only [mwb,reduceAdd,reduceEqDiff]
       refine ⟨nv, ?_, ?_, 9, (false::false::true::false::false::true::false::true::true::true::(rp 25 false [true,true,true])), by omega, by simp only [maskFr,belowV,reduceLT,mkb], by simp only [ltb,gK_below,gP_below,gS_below,List.all_cons,List.all_nil,belowV,bB_box,bB_map,bB_rows,reduceLT,decide_true,Bool.and_self], by (first | (simp only [nv,List.length_append,List.length_map,maskFr,mkb]; done) | (simp only [nv,List.length_append,List.length_map,hlen0,maskFr,mkb]; done))⟩
       ·exact hnv
       ·dsimp only [nv]; omega
      ·obtain ⟨o0, rfl⟩ : ∃ k, o1 = k + 1 := ⟨o1 - 1, by omega⟩
       have hfo := cloneRqs_ok_first x.reqs
       have hbd : P1.length + x.reqs.length ≤ 34359738368 := by omega
       refine t_last_region_w tt_ok 79 (rp 8 0 (2::(rp 47 0 [2,2,2,2]))) [] (by kernel_rfl) rfl rfl fun K hK => ?_
       refine runTm_cut 4 fun K1 hK1 => ?_
       simp only [ltb]
       simp only [List.length_cons,hol1,hfo,hbd,List.length_map,go_sem,reduceAdd,reduceLT,reduceLeDiff,reduceEqDiff]
       intro o2 rs2 hd2 hl2
       try rw [List.length_map] at hl2
       let nv : List Rl × List Rq × Nat × Nat × List V × Nat := (S1 ++ [x], P1 ++ x.reqs, v1 + 1, o2, rs2, j + 1)
       have hnv : RI (good l) roots (S1 ++ [x]) (P1 ++ x.reqs) (fun y => y = q) ∧ (q ∈ roots ∨ ∃ a ∈ S1 ++ [x], q ∈ a.reqs) ∧ rs2.drop o2 = (P1 ++ x.reqs).map encRq ∧ o2 + (P1 ++ x.reqs).length = rs2.length ∧ (P1 ++ x.reqs).length + todoN (good l) (S1 ++ [x]) + 1 ≤ P.length + 1 + todoN (good l) S ∧ j + 1 ≤ (atP (good l) q.path).length ∧ ∀ r ∈ (atP (good l) q.path).take (j + 1), has q.set r.ver.place = true → r ∈ S1 ++ [x] := by
        refine ⟨hRI2, ?_, by rw [hd2, hdr1, List.map_append], by rw [List.length_append]; omega, by rw [List.length_append]; omega, hlt, fun r hr hh => ?_⟩
        ·rcases hq1 with h | ⟨a, ha, h⟩
         ·exact .inl h
         ·exact .inr ⟨a, List.mem_append_left _ ha, h⟩
        ·rw [htk] at hr
         rcases List.mem_append.1 hr with hr | hr
         ·exact List.mem_append_left _ (hdone r hr hh)
         ·exact List.mem_append_right _ hr
       refine hK1 _ ?_
       try simp only [ltb]
       simp only [List.length_cons,go_sem,reduceAdd,reduceLT,reduceEqDiff]
       refine hK _ _ rfl ?_
       simp only [mwb,reduceAdd,reduceEqDiff]
       show Tri _ _ _ _ _ _
       refine t_last_region_w tt_ok 79 (rp 37 0 (2::(rp 22 0 [2]))) [] (by kernel_rfl) rfl rfl fun K hK => ?_
       try simp only [ltb]
       simp only [List.length_cons,hw,go_sem,reduceAdd,reduceLT]
       refine hK _ _ rfl ?_
       simp only [mwb,reduceAdd,reduceEqDiff]
       refine ⟨nv, ?_, ?_, 9, (false::false::true::false::false::true::false::true::true::true::(rp 25 false [true,true,true])), by omega, by simp only [maskFr,belowV,reduceLT,mkb], by simp only [ltb,gK_below,gP_below,gS_below,List.all_cons,List.all_nil,belowV,bB_box,bB_map,bB_rows,reduceLT,decide_true,Bool.and_self], by (first | (simp only [nv,List.length_append,maskFr,mkb]; done) | (simp only [nv,hw,List.length_append,List.length_map,hlen0,maskFr,belowV,belowL,bB_box,bB_map,bB_rows,bB_frz,bB_dead,bB_hole,reduceLeDiff,reduceLT,mkb]; done))⟩
       ·exact hnv
       ·dsimp only [nv]; omega
     ·let nv : List Rl × List Rq × Nat × Nat × List V × Nat := (S1, P1, v1, o1, rs1, j + 1)
      have hnv : RI (good l) roots S1 P1 (fun y => y = q) ∧ (q ∈ roots ∨ ∃ a ∈ S1, q ∈ a.reqs) ∧ rs1.drop o1 = P1.map encRq ∧ o1 + P1.length = rs1.length ∧ P1.length + todoN (good l) S1 + 1 ≤ P.length + 1 + todoN (good l) S ∧ j + 1 ≤ (atP (good l) q.path).length ∧ ∀ r ∈ (atP (good l) q.path).take (j + 1), has q.set r.ver.place = true → r ∈ S1 := by
       refine ⟨hRI1, hq1, hdr1, hol1, hM1, hlt, fun r hr hh => ?_⟩
       rw [htk] at hr
       rcases List.mem_append.1 hr with hr | hr
       ·exact hdone r hr hh
       ·rw [List.mem_singleton] at hr; subst hr
        refine (seen_mem (good_sorted l) hSg hxm.1).1 ?_
        first | exact hsn | (rw [hpl, hh] at hc52; cases hc52)
      refine t_skip ?_
      show Tri _ _ _ _ _ _
      refine t_last_region_w tt_ok 79 (rp 37 0 (2::(rp 22 0 [2]))) [] (by kernel_rfl) rfl rfl fun K hK => ?_
      try simp only [ltb]
      simp only [List.length_cons,hw,go_sem,reduceAdd,reduceLT]
      refine hK _ _ rfl ?_
      simp only [mwb,reduceAdd,reduceEqDiff]
      refine ⟨nv, ?_, ?_, 9, (false::false::true::false::false::true::false::true::true::true::(rp 25 false [true,true,true])), by omega, by simp only [maskFr,belowV,reduceLT,mkb], by simp only [ltb,gK_below,gP_below,gS_below,List.all_cons,List.all_nil,belowV,bB_box,bB_map,bB_rows,reduceLT,decide_true,Bool.and_self], by (first | (simp only [nv,maskFr,mkb]; done) | (simp only [nv,hw,List.length_append,List.length_map,hlen0,maskFr,belowV,belowL,bB_box,bB_map,bB_rows,bB_frz,bB_dead,bB_hole,reduceLeDiff,reduceLT,mkb]; done))⟩
      ·exact hnv
      ·dsimp only [nv]; omega
   ·have hge : ¬ j < (atP (good l) q.path).length := by simpa using hc38
    have hRI2 := hRI1.close fun r hr hh => hdone r (by rw [List.take_of_length_le (by omega)]; exact mem_atP.2 ⟨hr, (hits_path hh).symm⟩) (by unfold hits at hh; simp at hh; exact hh.2)
    refine t_exit ?_
    refine ⟨(S1, P1, v1, o1, rs1), ?_, ?_, 8, [false,false,true,false,false,true,false,true,true], by omega, by simp only [maskFr,belowV,reduceLT,mkb], by simp only [ltb,gK_below,gP_below,gS_below,List.all_cons,List.all_nil,belowV,bB_box,bB_map,bB_rows,reduceLT,decide_true,Bool.and_self], by (simp only [maskFr,mkb])⟩
    ·exact ⟨hRI2, hdr1, hol1, by dsimp only; omega⟩
    ·dsimp only; omega
  ·have hlk := fun (mem : List Blk) (b : Nat) hm => tb_path (good l) q.path (mem := mem) (b := b) hm
   simp only [if_neg hin] at hlk
   refine t_region_w tt_ok 79 (rp 31 0 [1,1,1,1,2,2,2]) [] rfl rfl fun K hK => ?_
   try simp only [ltb]
   simp only [List.length_cons,Nat.add_zero,hlk,go_sem,reduceAdd,reduceLT,reduceEqDiff]
   refine hK _ _ rfl ?_
   simp only [mwb,reduceAdd,reduceEqDiff]
   have hat0 : atP (good l) q.path = [] := by have h := rowsP_none hin; unfold rowsP at h; simpa using h
   refine tri_frz (v' := .slice ((atP (good l) q.path).map encRl)) 35 rfl (by rw [hat0]; rfl) ?_
   simp only [ref1,refCell,frzAll,List.foldl_nil,List.set_cons_zero,List.set_cons_succ]
   refine tri_slot (v' := num ((atP (good l) q.path).length : Int)) 36 rfl (by rw [hat0]; rfl) ?_
   simp only [List.set_cons_zero,List.set_cons_succ]
   refine t_block ?_
   refine t_loopF (fun b : List Rl × List Rq × Nat × Nat × List V × Nat => { fr := [.undef, .undef, .ptr 0 0, .undef, .undef, .ptr 5 0, .undef, .mp 6, .ms 7 b.2.2.1 b.2.2.2.1 b.2.1.length, .ptr 8 0, .undef, .undef, .undef, .undef, .undef, .undef, .undef, .undef, .undef, .undef, .undef, .undef, .undef, .undef, .undef, .undef, .undef, .undef, .undef, .undef, .undef, .undef, .undef, .undef, .undef, .slice ((atP (good l) q.path).map encRl), num (atP (good l) q.path).length, num b.2.2.2.2.2, .undef, .undef, .undef, .undef, .undef, .undef, .undef, .undef, .undef, .undef, .undef, .undef, .undef, .undef, .undef, .undef, .undef, .undef, .undef, .undef, .undef, .undef, .undef, .undef, .undef, .undef, .undef, .undef, .undef, .undef, .undef, .undef, .undef, .undef, .undef, .undef, .undef, .undef, .undef, .undef, .undef], mem := [.box [.slice (l.map encRl), .slice I], .box [.slice (l.map encRl), .slice I], .box [.mp 3, .mp 4], .map (mkM selVal 0 (gK (good l))) (gK (good l)).length, .map (mkM strVal 0 (gP (good l))) (pathsOf (good l)).length, .box [.mp 3, .mp 4], .map (mkM selVal 0 (gS b.1)) (gS b.1).length, .rows b.2.2.1 2 b.2.2.2.2.1, .box [str q.path, .slice (q.set.map encSpn)]] }) (fun b => (atP (good l) q.path).length - b.2.2.2.2.2) (fun b => RI (good l) roots b.1 b.2.1 (fun x => x = q) ∧ (q ∈ roots ∨ ∃ a ∈ b.1, q ∈ a.reqs) ∧ b.2.2.2.2.1.drop b.2.2.2.1 = b.2.1.map encRq ∧ b.2.2.2.1 + b.2.1.length = b.2.2.2.2.1.length ∧ b.2.1.length + todoN (good l) b.1 + 1 ≤ P.length + 1 + todoN (good l) S ∧ b.2.2.2.2.2 ≤ (atP (good l) q.path).length ∧ ∀ r ∈ (atP (good l) q.path).take b.2.2.2.2.2, has q.set r.ver.place = true → r ∈ b.1) ((S, P, v, o + 1, rs, 0)) 9 (false::false::true::false::false::true::false::true::true::true::(rp 25 false [true,true,true])) (by omega) (by simp only [maskFr,belowV,reduceLT,mkb]) (by simp only [gK_below,gP_below,gS_below,List.all_cons,List.all_nil,belowV,bB_box,bB_map,bB_rows,reduceLT,decide_true,Bool.and_self,List.take_succ_cons,List.take_nil]) (by simp only [maskFr,mkb] <;> rfl) (⟨hRIp, hq, hdr1, hol1, by dsimp only; omega, Nat.zero_le _, fun r hr => by simp at hr⟩) ?_
   rintro ⟨S1, P1, v1, o1, rs1, j⟩ ⟨hRI1, hq1, hdr1, hol1, hM1, hj, hdone⟩
   dsimp only at hRI1 hq1 hdr1 hol1 hM1 hj hdone ⊢
   refine t_region_w tt_ok 79 (rp 38 0 [2]) [] rfl rfl fun K hK => ?_
   try simp only [ltb]
   simp only [List.length_cons,go_sem,reduceAdd,reduceLT]
   refine hK _ _ rfl ?_
   simp only [mwb,reduceAdd]
   refine t_seq ?_
   refine t_if rfl (fun hc38 => ?_) (fun hc38 => ?_)
   ·have hlt : j < (atP (good l) q.path).length := by simpa using hc38
    have hn256 : (atP (good l) q.path).length ≤ 256 := Nat.le_trans (List.length_filter_le _ _) (good_len l)
    have hw := i64_succ j (by omega)
    obtain ⟨x, hx⟩ : ∃ x, (atP (good l) q.path)[j]? = some x := ⟨_, List.getElem?_eq_getElem hlt⟩
    have hxm := mem_atP.1 (List.mem_of_getElem? hx)
    have hpl : x.ver.pl = x.ver.place := by unfold Ver.pl; rw [if_pos (good_ver hxm.1)]
    have hsk := fun (mem : List Blk) (b : Nat) hm => seen_get S1 x.key (mem := mem) (b := b) hm
    simp only [selV] at hsk
    have htk : (atP (good l) q.path).take (j + 1) = (atP (good l) q.path).take j ++ [x] := take_snoc hx
    have hSg : ∀ r ∈ S1, r ∈ good l := fun r hr => (hRI1.sub r hr).mem
    refine t_skip ?_
    show Tri _ _ _ _ _ _
    refine t_seq ?_
    refine t_block ?_
    refine t_region_w tt_ok 79 (rp 11 0 (2::(rp 27 0 [1,1]))) [] rfl rfl fun K hK => ?_
    try simp only [ltb]
    simp only [List.length_cons,List.getElem?_map,hx,encRl,rlCells,encRqs,go_sem,reduceAdd,reduceLT,reduceEqDiff]
    refine hK _ _ rfl ?_
    simp only [mwb,reduceAdd,reduceEqDiff]
    refine t_mixed_w tt_ok mixed_ok 79 [0,0,0,0,0,0,0,0,0,0,0,0,0,0,0,0,0,0,0,0,0,0,0,0,0,0,0,0,0,0,0,0,0,0,0,0,0,0,0,0,0,1,1,1,1,1,1,1,1,1,1,1,2] (by kernel_rfl) [⟨.n, 0, [], [], []⟩, ⟨.r, 0, [], [], []⟩, ⟨.n, 0, [], [], []⟩, ⟨.r, 0, [], [], []⟩, ⟨.n, 0, [], [], []⟩, ⟨.n, 0, [], [], []⟩, ⟨.n, 0, [], [], []⟩, ⟨.r, 0, [], [], []⟩, ⟨.r, 0, [], [], []⟩, ⟨.n, 0, [], [], []⟩, ⟨.n, 0, [], [], []⟩, ⟨.n, 0, [], [], []⟩] 0 (by kernel_rfl) fun K hK => ?_
    try simp only [ltb,List.replicate_zero]
    refine runM_cut 3 (by simp) (by simp) fun K1 hK1 => ?_
    try simp only [ltb]
    simp only [List.length_cons,go_sem,reduceAdd,reduceLT,reduceEqDiff]
    refine callD_ex rfl (by have h := key_ok x; simp only [encRl,rlCells,encRqs,encSel] at h; exact h) ?_
    rintro _ rfl
    try simp only [go_sem]
    refine hK1 _ ?_
    refine runM_cut 3 (by simp) (by simp) fun K1 hK1 => ?_
    try simp only [ltb]
    simp only [List.length_cons,hsk,go_sem,reduceAdd,reduceLT,reduceEqDiff]
    refine hK1 _ ?_
    refine runM_case 46 (by rfl) fun b hb10_5 => ?_
    cases b
    ·have hsn : seen S1 x.key = true := by simpa using hb10_5
     let nv : List Rl × List Rq × Nat × Nat × List V × Nat := (S1, P1, v1, o1, rs1, j + 1)
     have hnv : RI (good l) roots S1 P1 (fun y => y = q) ∧ (q ∈ roots ∨ ∃ a ∈ S1, q ∈ a.reqs) ∧ rs1.drop o1 = P1.map encRq ∧ o1 + P1.length = rs1.length ∧ P1.length + todoN (good l) S1 + 1 ≤ P.length + 1 + todoN (good l) S ∧ j + 1 ≤ (atP (good l) q.path).length ∧ ∀ r ∈ (atP (good l) q.path).take (j + 1), has q.set r.ver.place = true → r ∈ S1 := by
      refine ⟨hRI1, hq1, hdr1, hol1, hM1, hlt, fun r hr hh => ?_⟩
      rw [htk] at hr
      rcases List.mem_append.1 hr with hr | hr
      ·exact hdone r hr hh
      ·rw [List.mem_singleton] at hr; subst hr
       refine (seen_mem (good_sorted l) hSg hxm.1).1 ?_
       first | exact hsn | (rw [hpl, hh] at hc52; cases hc52)
     try simp only [ltb]
     simp only [List.length_cons,go_sem,reduceAdd,reduceLT,reduceEqDiff]
     refine hK _ _ rfl ?_
     simp only [mwb,reduceAdd,reduceEqDiff]
     refine t_cond rfl ?_
     refine t_skip ?_
     show Tri _ _ _ _ _ _
     refine t_last_region_w tt_ok 79 (rp 37 0 (2::(rp 22 0 [2]))) [] (by kernel_rfl) rfl rfl fun K hK => ?_
     try simp only [ltb]
     simp only [List.length_cons,hw,go_sem,reduceAdd,reduceLT]
     refine hK _ _ rfl ?_
     simp only [mwb,reduceAdd,reduceEqDiff]
     refine ⟨nv, ?_, ?_, 9, (false::false::true::false::false::true::false::true::true::true::(rp 25 false [true,true,true])), by omega, by simp only [maskFr,belowV,reduceLT,mkb], by simp only [ltb,gK_below,gP_below,gS_below,List.all_cons,List.all_nil,belowV,bB_box,bB_map,bB_rows,reduceLT,decide_true,Bool.and_self], by (first | (simp only [nv,maskFr,mkb]; done) | (simp only [nv,hw,List.length_append,List.length_map,hlen0,maskFr,belowV,belowL,bB_box,bB_map,bB_rows,bB_frz,bB_dead,bB_hole,reduceLeDiff,reduceLT,mkb]; done))⟩
     ·exact hnv
     ·dsimp only [nv]; omega
    ·refine runM_cut 4 (by simp) (by simp) fun K1 hK1 => ?_
     try simp only [ltb]
     simp only [List.length_cons,go_sem,reduceAdd,reduceLT,reduceEqDiff]
     refine callD_ex rfl (by have h := place_ok x; simp only [encRl,rlCells,encRqs] at h; exact h) ?_
     rintro _ rfl
     try simp only [go_sem]
     refine hK1 _ ?_
     refine runM_cut 1 (by simp) (by simp) fun K1 hK1 => ?_
     try simp only [ltb]
     simp only [List.length_cons,go_sem,reduceAdd,reduceLT,reduceEqDiff]
     refine callD_ex rfl (by have h := has_ok q.set x.ver.pl hqb.2; simp only [encSet] at h; exact h) ?_
     rintro _ rfl
     try simp only [go_sem]
     refine hK1 _ ?_
     try simp only [ltb]
     simp only [List.length_cons,go_sem,reduceAdd,reduceLT,reduceEqDiff]
     refine hK _ _ rfl ?_
     simp only [mwb,reduceAdd,reduceEqDiff]
     refine t_if rfl (fun hc52 => ?_) (fun hc52 => ?_)
     ·have hsf : seen S1 x.key = false := by simpa using hb10_5
      have hhas : has q.set x.ver.place = true := by rw [← hpl]; simpa using hc52
      have hhit : hits q x = true := by unfold hits; rw [hhas, hxm.2]; simp
      have hRI2 := hRI1.see hq1 hxm.1 hhit
      have htd := todoN_see (good_sorted l) hxm.1 hsf
      have hrq := good_reqs hxm.1
      have hpu := fun (mem : List Blk) (b : Nat) hm => seen_put hsf (mem := mem) (b := b) hm
      simp only [selV] at hpu
      refine t_region_w tt_ok 79 (rp 53 0 [1,1,1]) [] rfl rfl fun K hK => ?_
      refine runTm_cut 3 fun K1 hK1 => ?_
      simp only [ltb]
      simp only [List.length_cons,go_sem,reduceAdd,reduceLT,reduceEqDiff]
      refine .inl <| callF_ex (by have h := key_ok x; simp only [encRl,rlCells,encRqs,encSel] at h; exact h) ?_
      rintro _ rfl
      try simp only [go_sem]
      refine hK1 _ ?_
      try simp only [ltb]
      simp only [List.length_cons,hpu,go_sem,reduceAdd,reduceLT,reduceEqDiff]
      refine hK _ _ rfl ?_
      simp only [mwb]
      rcases Nat.eq_zero_or_pos o1 with rfl | hop
      ·have hlen0 : rs1.length = P1.length := by omega
       have hfo := cloneRqs_ok_first x.reqs
       have hbd : P1.length + x.reqs.length ≤ 34359738368 := by omega
       have hd2 : (rs1 ++ x.reqs.map encRq).drop 0 = rs1.drop 0 ++ x.reqs.map encRq := rfl
       have hl2 : 0 + (P1.length + x.reqs.length) = (rs1 ++ x.reqs.map encRq).length := by rw [List.length_append, List.length_map, hlen0, Nat.zero_add]
       let nv : List Rl × List Rq × Nat × Nat × List V × Nat := (S1 ++ [x], P1 ++ x.reqs, v1 + 1, 0, (rs1 ++ x.reqs.map encRq), j + 1)
       have hnv : RI (good l) roots (S1 ++ [x]) (P1 ++ x.reqs) (fun y => y = q) ∧ (q ∈ roots ∨ ∃ a ∈ S1 ++ [x], q ∈ a.reqs) ∧ (rs1 ++ x.reqs.map encRq).drop 0 = (P1 ++ x.reqs).map encRq ∧ 0 + (P1 ++ x.reqs).length = (rs1 ++ x.reqs.map encRq).length ∧ (P1 ++ x.reqs).length + todoN (good l) (S1 ++ [x]) + 1 ≤ P.length + 1 + todoN (good l) S ∧ j + 1 ≤ (atP (good l) q.path).length ∧ ∀ r ∈ (atP (good l) q.path).take (j + 1), has q.set r.ver.place = true → r ∈ S1 ++ [x] := by
        refine ⟨hRI2, ?_, by rw [hd2, hdr1, List.map_append], by rw [List.length_append]; omega, by rw [List.length_append]; omega, hlt, fun r hr hh => ?_⟩
        ·rcases hq1 with h | ⟨a, ha, h⟩
         ·exact .inl h
         ·exact .inr ⟨a, List.mem_append_left _ ha, h⟩
        ·rw [htk] at hr
         rcases List.mem_append.1 hr with hr | hr
         ·exact List.mem_append_left _ (hdone r hr hh)
         ·exact List.mem_append_right _ hr
       refine t_last_region_w tt_ok 79 (rp 8 0 (2::(rp 47 0 [2,2,2,2]))) [] (by kernel_rfl) rfl rfl fun K hK => ?_
       try simp only [ltb]
       simp only [List.length_cons,hlen0,hfo,hbd,List.length_map,go_sem,reduceAdd,reduceLT,reduceLeDiff,reduceEqDiff]
       refine hK _ _ rfl ?_
       simp only [mwb,reduceAdd,reduceEqDiff]
       show Tri _ _ _ _ _ _
       refine t_last_region_w tt_ok 79 (rp 37 0 (2::(rp 22 0 [2]))) [] (by kernel_rfl) rfl rfl fun K hK => ?_
       try simp only [ltb]
       simp only [List.length_cons,hw,go_sem,reduceAdd,reduceLT]
       refine hK _ _ rfl ?_
       simp only [mwb,reduceAdd,reduceEqDiff]
       refine ⟨nv, ?_, ?_, 9, (false::false::true::false::false::true::false::true::true::true::(rp 25 false [true,true,true])), by omega, by simp only [maskFr,belowV,reduceLT,mkb], by simp only [ltb,gK_below,gP_below,gS_below,List.all_cons,List.all_nil,belowV,bB_box,bB_map,bB_rows,reduceLT,decide_true,Bool.and_self], by (first | (simp only [nv,List.length_append,List.length_map,maskFr,mkb]; done) | (simp only [nv,List.length_append,List.length_map,hlen0,maskFr,mkb]; done))⟩
       ·exact hnv
       ·dsimp only [nv]; omega
      ·obtain ⟨o0, rfl⟩ : ∃ k, o1 = k + 1 := ⟨o1 - 1, by omega⟩
       have hfo := cloneRqs_ok_first x.reqs
       have hbd : P1.length + x.reqs.length ≤ 34359738368 := by omega
       refine t_last_region_w tt_ok 79 (rp 8 0 (2::(rp 47 0 [2,2,2,2]))) [] (by kernel_rfl) rfl rfl fun K hK => ?_
       refine runTm_cut 4 fun K1 hK1 => ?_
       simp only [ltb]
       simp only [List.length_cons,hol1,hfo,hbd,List.length_map,go_sem,reduceAdd,reduceLT,reduceLeDiff,reduceEqDiff]
       intro o2 rs2 hd2 hl2
       try rw [List.length_map] at hl2
       let nv : List Rl × List Rq × Nat × Nat × List V × Nat := (S1 ++ [x], P1 ++ x.reqs, v1 + 1, o2, rs2, j + 1)
       have hnv : RI (good l) roots (S1 ++ [x]) (P1 ++ x.reqs) (fun y => y = q) ∧ (q ∈ roots ∨ ∃ a ∈ S1 ++ [x], q ∈ a.reqs) ∧ rs2.drop o2 = (P1 ++ x.reqs).map encRq ∧ o2 + (P1 ++ x.reqs).length = rs2.length ∧ (P1 ++ x.reqs).length + todoN (good l) (S1 ++ [x]) + 1 ≤ P.length + 1 + todoN (good l) S ∧ j + 1 ≤ (atP (good l) q.path).length ∧ ∀ r ∈ (atP (good l) q.path).take (j + 1), has q.set r.ver.place = true → r ∈ S1 ++ [x] := by
        refine ⟨hRI2, ?_, by rw [hd2, hdr1, List.map_append], by rw [List.length_append]; omega, by rw [List.length_append]; omega, hlt, fun r hr hh => ?_⟩
        ·rcases hq1 with h | ⟨a, ha, h⟩
         ·exact .inl h
         ·exact .inr ⟨a, List.mem_append_left _ ha, h⟩
        ·rw [htk] at hr
         rcases List.mem_append.1 hr with hr | hr
         ·exact List.mem_append_left _ (hdone r hr hh)
         ·exact List.mem_append_right _ hr
       refine hK1 _ ?_
       try simp only [ltb]
       simp only [List.length_cons,go_sem,reduceAdd,reduceLT,reduceEqDiff]
       refine hK _ _ rfl ?_
       simp only [mwb,reduceAdd,reduceEqDiff]
       show Tri _ _ _ _ _ _
       refine t_last_region_w tt_ok 79 (rp 37 0 (2::(rp 22 0 [2]))) [] (by kernel_rfl) rfl rfl fun K hK => ?_
       try simp only [ltb]
       simp only [List.length_cons,hw,go_sem,reduceAdd,reduceLT]
       refine hK _ _ rfl ?_
       simp only [mwb,reduceAdd,reduceEqDiff]
       refine ⟨nv, ?_, ?_, 9, (false::false::true::false::false::true::false::true::true::true::(rp 25 false [true,true,true])), by omega, by simp only [maskFr,belowV,reduceLT,mkb], by simp only [ltb,gK_below,gP_below,gS_below,List.all_cons,List.all_nil,belowV,bB_box,bB_map,bB_rows,reduceLT,decide_true,Bool.and_self], by (first | (simp only [nv,List.length_append,maskFr,mkb]; done) | (simp only [nv,hw,List.length_append,List.length_map,hlen0,maskFr,belowV,belowL,bB_box,bB_map,bB_rows,bB_frz,bB_dead,bB_hole,reduceLeDiff,reduceLT,mkb]; done))⟩
       ·exact hnv
       ·dsimp only [nv]; omega
     ·let nv : List Rl × List Rq × Nat × Nat × List V × Nat := (S1, P1, v1, o1, rs1, j + 1)
      have hnv : RI (good l) roots S1 P1 (fun y => y = q) ∧ (q ∈ roots ∨ ∃ a ∈ S1, q ∈ a.reqs) ∧ rs1.drop o1 = P1.map encRq ∧ o1 + P1.length = rs1.length ∧ P1.length + todoN (good l) S1 + 1 ≤ P.length + 1 + todoN (good l) S ∧ j + 1 ≤ (atP (good l) q.path).length ∧ ∀ r ∈ (atP (good l) q.path).take (j + 1), has q.set r.ver.place = true → r ∈ S1 := by
       refine ⟨hRI1, hq1, hdr1, hol1, hM1, hlt, fun r hr hh => ?_⟩
       rw [htk] at hr
       rcases List.mem_append.1 hr with hr | hr
       ·exact hdone r hr hh
       ·rw [List.mem_singleton] at hr; subst hr
        refine (seen_mem (good_sorted l) hSg hxm.1).1 ?_
        first | exact hsn | (rw [hpl, hh] at hc52; cases hc52)
      refine t_skip ?_
      show Tri _ _ _ _ _ _
      refine t_last_region_w tt_ok 79 (rp 37 0 (2::(rp 22 0 [2]))) [] (by kernel_rfl) rfl rfl fun K hK => ?_
      try simp only [ltb]
      simp only [List.length_cons,hw,go_sem,reduceAdd,reduceLT]
      refine hK _ _ rfl ?_
      simp only [mwb,reduceAdd,reduceEqDiff]
      refine ⟨nv, ?_, ?_, 9, (false::false::true::false::false::true::false::true::true::true::(rp 25 false [true,true,true])), by omega, by simp only [maskFr,belowV,reduceLT,mkb], by simp only [ltb,gK_below,gP_below,gS_below,List.all_cons,List.all_nil,belowV,bB_box,bB_map,bB_rows,reduceLT,decide_true,Bool.and_self], by (first | (simp only [nv,maskFr,mkb]; done) | (simp only [nv,hw,List.length_append,List.length_map,hlen0,maskFr,belowV,belowL,bB_box,bB_map,bB_rows,bB_frz,bB_dead,bB_hole,reduceLeDiff,reduceLT,mkb]; done))⟩
      ·exact hnv
      ·dsimp only [nv]; omega
   ·have hge : ¬ j < (atP (good l) q.path).length := by simpa using hc38
    have hRI2 := hRI1.close fun r hr hh => hdone r (by rw [List.take_of_length_le (by omega)]; exact mem_atP.2 ⟨hr, (hits_path hh).symm⟩) (by unfold hits at hh; simp at hh; exact hh.2)
    refine t_exit ?_
    refine ⟨(S1, P1, v1, o1, rs1), ?_, ?_, 8, [false,false,true,false,false,true,false,true,true], by omega, by simp only [maskFr,belowV,reduceLT,mkb], by simp only [ltb,gK_below,gP_below,gS_below,List.all_cons,List.all_nil,belowV,bB_box,bB_map,bB_rows,reduceLT,decide_true,Bool.and_self], by (simp only [maskFr,mkb])⟩
    ·exact ⟨hRI2, hdr1, hol1, by dsimp only; omega⟩
    ·dsimp only; omega
 ·obtain rfl : P = [] := by
   cases P with
   | nil => rfl
   | cons q r => simp at hc25
  obtain ⟨ks, hks⟩ : ∃ ks : Nat → List Sel, ks = fun i => ((l.take i).filter fun r => seen S r.key).map Rl.key := ⟨_, rfl⟩
  have hks0 : ks 0 = [] := by rw [hks]; rfl
  refine t_exit ?_
  show Tri _ _ _ _ _ _
  refine t_region_w tt_ok 79 (rp 12 0 [2]) [] rfl rfl fun K hK => ?_
  simp only [ltb,go_sem,reduceAdd]
  refine hK _ _ rfl ?_
  simp only [mwb,reduceAdd]
  refine t_seq ?_
  refine t_region_w tt_ok 79 (rp 61 0 [1,2,2,2]) [] rfl rfl fun K hK => ?_
  try simp only [ltb]
  simp only [List.length_map,go_sem,reduceAdd,reduceLT,reduceEqDiff]
  refine hK _ _ rfl ?_
  simp only [mwb,reduceAdd,reduceEqDiff]
  refine t_block ?_
  refine tri_nilMs 12 0 4 rfl ?_
  simp only [ltb,List.set_cons_zero,List.set_cons_succ,List.length_cons,List.length_nil,reduceAdd]
  refine t_loopF (fun i : Nat => { fr := [.undef, .undef, .undef, .undef, .undef, .undef, .undef, .mp 6, .undef, .undef, .undef, .undef, .ms 8 (ks i).length 0 (ks i).length, .undef, .undef, .undef, .undef, .undef, .undef, .undef, .undef, .undef, .undef, .undef, .undef, .undef, .undef, .undef, .undef, .undef, .undef, .undef, .undef, .undef, .undef, .undef, .undef, .undef, .undef, .undef, .undef, .undef, .undef, .undef, .undef, .undef, .undef, .undef, .undef, .undef, .undef, .undef, .undef, .undef, .undef, .undef, .undef, .undef, .undef, .undef, .undef, .undef, .slice (l.map encRl), num l.length, num i, .undef, .undef, .undef, .undef, .undef, .undef, .undef, .undef, .undef, .undef, .undef, .undef, .undef, .undef], mem := [.box [.slice (l.map encRl), .slice I], .box [.slice (l.map encRl), .slice I], .box [.mp 3, .mp 4], .map (mkM selVal 0 (gK (good l))) (gK (good l)).length, .map (mkM strVal 0 (gP (good l))) (pathsOf (good l)).length, .box [.mp 3, .mp 4], .map (mkM selVal 0 (gS S)) (gS S).length, .rows v 2 rs, .rows (ks i).length 4 ((ks i).map encSel)] }) (fun i => l.length - i) (fun i => i ≤ l.length) (0) 9 (false::false::false::false::false::false::false::true::false::false::false::false::true::(rp 49 false [true,true,true])) (by omega) (by simp only [maskFr,belowV,reduceLT,mkb]) (by simp only [gK_below,gP_below,gS_below,List.all_cons,List.all_nil,belowV,bB_box,bB_map,bB_rows,reduceLT,decide_true,Bool.and_self,List.take_succ_cons,List.take_nil]) (by simp only [maskFr,hks0,List.map_nil,List.length_nil,mkb] <;> rfl) (Nat.zero_le _) ?_
  intro i hi
  dsimp only at hi ⊢
  refine t_region_w tt_ok 79 (rp 65 0 [2]) [] rfl rfl fun K hK => ?_
  simp only [ltb,go_sem,reduceAdd,reduceLT]
  refine hK _ _ rfl ?_
  simp only [mwb,reduceAdd]
  refine t_seq ?_
  refine t_if rfl (fun hc65 => ?_) (fun hc65 => ?_)
  ·have hlt : i < l.length := by simpa using hc65
   have hw := i64_succ i (by omega)
   obtain ⟨x, hx⟩ : ∃ x, l[i]? = some x := ⟨_, List.getElem?_eq_getElem hlt⟩
   have hks1 : ks (i + 1) = ks i ++ (if seen S x.key = true then [x.key] else []) := by
    rw [hks]
    dsimp only
    rw [take_snoc hx, List.filter_append, List.map_append]
    by_cases hsx : seen S x.key = true <;> simp [hsx]
   have hsk := fun (mem : List Blk) (b : Nat) hm => seen_get S x.key (mem := mem) (b := b) hm
   simp only [selV] at hsk
   have hkl : (ks i).length ≤ 1048576 := by
    rw [hks]
    dsimp only
    rw [List.length_map]
    exact Nat.le_trans (List.length_filter_le _ _) (by rw [List.length_take]; have := hb.1; omega)
   have hkb : (ks i).length + 1 ≤ 34359738368 := by omega
   refine t_skip ?_
   show Tri _ _ _ _ _ _
   refine t_seq ?_
   refine t_block ?_
   refine t_region_w tt_ok 79 (rp 14 0 (2::(rp 51 0 [1,1]))) [] rfl rfl fun K hK => ?_
   try simp only [ltb]
   simp only [List.getElem?_map,hx,encRl,rlCells,encRqs,List.length_cons,List.length_nil,Nat.zero_add,go_sem,reduceAdd,reduceLT,reduceEqDiff]
   refine hK _ _ rfl ?_
   simp only [mwb,reduceAdd,reduceEqDiff]
   refine t_region_w tt_ok 79 (rp 68 0 [1,1,1,2]) [] rfl rfl fun K hK => ?_
   refine runTm_cut 3 fun K1 hK1 => ?_
   simp only [ltb]
   simp only [List.length_cons,List.length_nil,Nat.zero_add,go_sem,reduceAdd,reduceLT,reduceEqDiff]
   refine .inl <| callF_ex (by have h := key_ok x; simp only [encRl,rlCells,encRqs,encSel] at h; exact h) ?_
   rintro _ rfl
   try simp only [go_sem]
   refine hK1 _ ?_
   try simp only [ltb]
   simp only [hsk,List.length_cons,List.length_nil,Nat.zero_add,go_sem,reduceAdd,reduceLT,reduceEqDiff]
   refine hK _ _ rfl ?_
   simp only [mwb,reduceAdd,reduceEqDiff]
   refine t_if rfl (fun hc71 => ?_) (fun hc71 => ?_)
   ·rw [if_pos (by simpa using hc71)] at hks1
    have hfo : firstOk [V.agg [str x.key.path, num x.key.ver.mj, num x.key.ver.mn, num x.key.ver.pt]] 0 4 = true := rfl
    refine t_last_region_w tt_ok 79 (rp 12 0 (2::(rp 59 0 [2,2,2,2,2]))) [] (by kernel_rfl) rfl rfl fun K hK => ?_
    refine runTm_cut 3 fun K1 hK1 => ?_
    simp only [ltb]
    simp only [List.length_cons,List.length_nil,Nat.zero_add,go_sem,reduceAdd,reduceLT,reduceEqDiff]
    refine .inl <| callF_ex (by have h := key_ok x; simp only [encRl,rlCells,encRqs,encSel] at h; exact h) ?_
    rintro _ rfl
    try simp only [go_sem]
    refine hK1 _ ?_
    try simp only [ltb]
    simp only [hkb,List.length_cons,List.length_nil,Nat.zero_add,List.length_map,go_sem,reduceAdd,reduceLT,reduceLeDiff,reduceMul,reduceEqDiff]
    refine hK _ _ rfl ?_
    simp only [mwb,reduceAdd,reduceEqDiff]
    show Tri _ _ _ _ _ _
    refine t_last_region_w tt_ok 79 (rp 64 0 (2::(rp 12 0 [2]))) [] (by kernel_rfl) rfl rfl fun K hK => ?_
    try simp only [ltb]
    simp only [hw,List.length_cons,List.length_nil,Nat.zero_add,go_sem,reduceAdd,reduceLT]
    refine hK _ _ rfl ?_
    simp only [mwb,reduceAdd,reduceEqDiff]
    refine ⟨i + 1, ?_, ?_, 9, (false::false::false::false::false::false::false::true::false::false::false::false::true::(rp 49 false [true,true,true])), by omega, by simp only [maskFr,belowV,reduceLT,mkb], by simp only [ltb,gK_below,gP_below,gS_below,List.all_cons,List.all_nil,belowV,bB_box,bB_map,bB_rows,reduceLT,decide_true,Bool.and_self], by (simp only [hks1,List.map_append,List.map_cons,List.map_nil,List.length_append,List.length_map,List.length_cons,List.length_nil,Nat.zero_add,encSel,maskFr,mkb])⟩
    ·exact hlt
    ·omega
   ·rw [if_neg (by simpa using hc71), List.append_nil] at hks1
    refine t_skip ?_
    show Tri _ _ _ _ _ _
    refine t_last_region_w tt_ok 79 (rp 64 0 (2::(rp 12 0 [2]))) [] (by kernel_rfl) rfl rfl fun K hK => ?_
    try simp only [ltb]
    simp only [hw,List.length_cons,List.length_nil,Nat.zero_add,go_sem,reduceAdd,reduceLT]
    refine hK _ _ rfl ?_
    simp only [mwb,reduceAdd,reduceEqDiff]
    refine ⟨i + 1, ?_, ?_, 9, (false::false::false::false::false::false::false::true::false::false::false::false::true::(rp 49 false [true,true,true])), by omega, by simp only [maskFr,belowV,reduceLT,mkb], by simp only [ltb,gK_below,gP_below,gS_below,List.all_cons,List.all_nil,belowV,bB_box,bB_map,bB_rows,reduceLT,decide_true,Bool.and_self], by (simp only [hks1,maskFr,mkb])⟩
    ·exact hlt
    ·omega
  ·have hge : ¬ i < l.length := by simpa using hc65
   have hil : i = l.length := by omega
   subst hil
   have hres : ks l.length = (reached (good l) roots).map Rl.key := by
    rw [hks]
    dsimp only
    rw [List.take_length, reached_filter hRI (good_sorted l)]
    unfold good
    split
    ·rfl
    ·rename_i hbad
     have hS0 : S = [] := by
      cases S with
      | nil => rfl
      | cons a t => have h := (hRI.sub a (by simp)).mem; unfold good at h; rw [if_neg hbad] at h; simp at h
     subst hS0
     simp [seen]
   refine t_exit ?_
   show Tri _ _ _ _ _ _
   refine t_region_w tt_ok 79 (0::0::0::0::2::(rp 73 0 [1])) [] rfl rfl fun K hK => ?_
   simp only [ltb,go_sem,reduceAdd,reduceLT]
   refine hK _ _ rfl ?_
   simp only [mwb,reduceAdd,reduceEqDiff]
   refine t_ret ?_
   refine ⟨.inl rfl, ?_⟩
   simp only [retV,Tryz.f13,resL,resV,pur,List.length_map,← hres,encSels,go_sem]
   simp []
   exact List.take_of_length_le (by simp)
end Go.Proofs.YtnfeacnbgbggfaaGreatDoor
end

section
namespace Go.Proofs.YtnfeacnbgbggfaaGreatDoor
open Go.Eng
open Nat (reduceAdd reduceLT reduceLeDiff reduceMul reduceEqDiff reduceSub)
variable [Glob]
set_option maxHeartbeats 4000000
set_option maxRecDepth 100000
attribute [local irreducible] runM stepM valD stepOp stepD callF callS
def fewQ1 (q : Rq) : Bool := !(decide (100 < q.path.size) || decide (8 < q.set.length))
def fewQ (l : List Rq) : Bool := l.all fewQ1 && decide (l.length ≤ 20)
def fewR1 (r : Rl) : Bool := !(decide (100 < r.path.size) || decide (100 < r.ar.size) || decide (100 < r.itf.size) || decide (100 < r.ce.size) || !fewQ r.reqs)
def fewR (l : List Rl) (n : Nat) : Bool := l.all fewR1 && decide (l.length ≤ n)
theorem few_no {α : Type} {l : List α} {p : α → Bool} {i : Nat} {x : α} (h : l[i]? = some x) (hx : p x = false) : l.all p = false := by
 rw [List.all_eq_false]
 exact ⟨x, List.mem_of_getElem? h, by simp [hx]⟩
theorem few_yes {α : Type} {l : List α} {p : α → Bool} {i : Nat} (hi : ¬ i < l.length) (h : ∀ j < i, ∀ x, l[j]? = some x → p x = true) : l.all p = true := by
 rw [List.all_eq_true]
 intro x hx
 obtain ⟨j, hj, rfl⟩ := List.getElem_of_mem hx
 exact h j (by omega) _ (List.getElem?_eq_getElem hj)
theorem fewQ_ok (l : List Rq) (hl : l.length ≤ 1048576) : ∃ r_, (fun w => w = bl (fewQ l)) r_ ∧ FnOk Tryz.prog 11 [encRqs l] r_ := by
 refine fn_ex tt_ok (fn := Tryz.f11) Tryz.func11 rfl Tryz.call11 ?_
 simp only [ltb,startSt,Tryz.ntmps11,List.length_cons,List.length_nil,reduceAdd,reduceSub,List.replicate_succ,List.replicate_zero]
 have hT9 : Tryz.prog.underlying 9 = some .string := by kernel_rfl
 have sl : ∀ (a : ByteArray) (ty : TypeId), liftL Tryz.prog (Builtin.len_ #[9] ty) [.sc (.string a)] = some (num a.size) := fun a ty => ev_slen (P := Tryz.prog) (tt := tt) (T := 9) a hT9 ty
 simp only [encRqs]
 refine ex_region_w tt_ok 29 [0,0,2] [] rfl rfl fun K hK => ?_
 simp only [ltb,go_sem]
 refine hK _ _ rfl ?_
 simp only [mwb,reduceAdd]
 refine ex_seq ?_
 refine ex_region_w tt_ok 29 [0,0,0,2] [] rfl rfl fun K hK => ?_
 simp only [ltb,go_sem]
 refine hK _ _ rfl ?_
 simp only [mwb,reduceAdd]
 refine ex_block ?_
 refine ex_loopK [3] [num 0] 0 [true,false,true,true] (fun vs => ((l.length : Int) - Go.Eng.intOf (vs.headD .undef)).toNat) (fun vs => ∃ i : Nat, vs = [num i] ∧ i ≤ l.length ∧ ∀ j < i, ∀ x, l[j]? = some x → fewQ1 x = true) (by omega) (by simp only [maskFr,belowV,mkb]) (by simp only [List.all_nil,List.take_nil]) (by rfl) (⟨0, rfl, Nat.zero_le _, fun j hj => absurd hj (Nat.not_lt_zero j)⟩) fun vs hI => ?_
 obtain ⟨i, rfl, hi, hall⟩ := hI
 simp only [maskFr,putAll,List.set_cons_zero,List.set_cons_succ,mkb]
 refine ex_seq ?_
 refine ex_region_w tt_ok 29 [0,0,0,0,1,1,1,2] [] rfl rfl fun K hK => ?_
 try simp only [ltb]
 simp only [List.length_map,go_sem,reduceLT,reduceEqDiff,reduceCtorEq]
 refine hK _ _ rfl ?_
 simp only [mwb,reduceAdd,reduceEqDiff]
 refine ex_if rfl (fun hc7 => ?_) (fun hc7 => ?_)
 ·have hlt : i < l.length := by simpa using hc7
  have hw := i64_succ i (by omega)
  obtain ⟨x, hx⟩ : ∃ x, l[i]? = some x := ⟨_, List.getElem?_eq_getElem hlt⟩
  refine ex_skip ?_
  show Go.Eng.Ex _ _ _ _ _ _
  refine ex_seq ?_
  refine ex_block ?_
  refine ex_region_w tt_ok 29 (rp 10 0 (rp 15 1 [2])) [(7, 17)] rfl rfl fun K hK => ?_
  refine runX_cut 8 fun K1 hK1 => ?_
  simp only [ltb]
  simp only [List.getElem?_map,hx,encRq,encSet,sl,go_sem,reduceAdd,reduceLT,reduceEqDiff]
  refine hK1 _ ?_
  refine runX_case 17 (by rfl) fun b hb4_7 => ?_
  cases b
  ·try simp only [ltb]
   simp only [List.getElem?_map,hx,encRq,encSet,List.length_map,go_sem,reduceAdd,reduceLT,reduceEqDiff,reduceCtorEq]
   refine hK _ _ rfl ?_
   simp only [mwb,reduceAdd,reduceEqDiff]
   refine ex_if rfl (fun hc25 => ?_) (fun hc25 => ?_)
   ·have hp1 : fewQ1 x = false := by unfold fewQ1; simp_all <;> omega
    have hres : false = fewQ l := by unfold fewQ; rw [few_no hx hp1]; rfl
    refine ex_region_w tt_ok 29 [0,0,2] [] rfl rfl fun K hK => ?_
    simp only [ltb,go_sem]
    refine hK _ _ rfl ?_
    simp only [mwb,reduceAdd]
    exact ex_ret ⟨.inl rfl, _, congrArg bl hres, rfl⟩
   ·refine ex_skip ?_
    show Go.Eng.Ex _ _ _ _ _ _
    refine ex_last_region_w tt_ok 29 [0,0,0,2,0,0,0,0,2,2] [] (by kernel_rfl) rfl rfl fun K hK => ?_
    try simp only [ltb]
    simp only [hw,go_sem,reduceLT,reduceEqDiff]
    refine hK _ _ rfl ?_
    simp only [mwb,reduceAdd,reduceEqDiff]
    refine ⟨[_], ?_, ?_, 0, [true,false,true,true], by omega, by simp only [maskFr,belowV,mkb], by simp only [List.all_nil,List.take_nil], by simp only [maskFr,putAll,List.set_cons_zero,List.set_cons_succ,mkb]; rfl⟩
    ·refine ⟨i + 1, rfl, hlt, fun j hj => ?_⟩
     rcases Nat.lt_or_ge j i with h | h
     ·exact hall j h
     ·obtain rfl : j = i := by omega
      intro y hy
      rw [hx] at hy; cases hy; unfold fewQ1; simp_all <;> omega
    ·simp only [Go.Eng.intOf,List.headD_cons]; omega
  ·simp only [ltb,go_sem,reduceLT,reduceEqDiff]
   refine hK _ _ rfl ?_
   simp only [mwb,reduceAdd,reduceEqDiff]
   refine ex_cond rfl ?_
   have hp1 : fewQ1 x = false := by unfold fewQ1; simp_all <;> omega
   have hres : false = fewQ l := by unfold fewQ; rw [few_no hx hp1]; rfl
   refine ex_region_w tt_ok 29 [0,0,2] [] rfl rfl fun K hK => ?_
   simp only [ltb,go_sem]
   refine hK _ _ rfl ?_
   simp only [mwb,reduceAdd]
   exact ex_ret ⟨.inl rfl, _, congrArg bl hres, rfl⟩
 ·have hge : ¬ i < l.length := by simpa using hc7
  have hlen : decide ((l.length : Int) ≤ 20) = decide (l.length ≤ 20) := by rw [Bool.eq_iff_iff, decide_eq_true_eq, decide_eq_true_eq]; omega
  have hres : decide ((l.length : Int) ≤ 20) = fewQ l := by rw [hlen]; unfold fewQ; rw [few_yes hge hall]; rfl
  refine ex_exit ?_
  show Go.Eng.Ex _ _ _ _ _ _
  refine ex_region_w tt_ok 29 (0::0::2::(rp 23 0 [1,1,1])) [] rfl rfl fun K hK => ?_
  try simp only [ltb]
  simp only [List.length_map,go_sem,reduceLT,reduceEqDiff]
  refine hK _ _ rfl ?_
  simp only [mwb,reduceAdd,reduceEqDiff]
  exact ex_ret ⟨.inl rfl, _, congrArg bl hres, rfl⟩
theorem fewR_ok (l : List Rl) (n : Nat) (hb : IxB l) : ∃ r_, (fun w => w = bl (fewR l n)) r_ ∧ FnOk Tryz.prog 10 [encRls l, num (n : Nat)] r_ := by
 refine fn_ex tt_ok (fn := Tryz.f10) Tryz.func10 rfl Tryz.call10 ?_
 simp only [ltb,startSt,Tryz.ntmps10,List.length_cons,List.length_nil,reduceAdd,reduceSub,List.replicate_succ,List.replicate_zero]
 have hlb := hb.1
 have hT9 : Tryz.prog.underlying 9 = some .string := by kernel_rfl
 have sl : ∀ (a : ByteArray) (ty : TypeId), liftL Tryz.prog (Builtin.len_ #[9] ty) [.sc (.string a)] = some (num a.size) := fun a ty => ev_slen (P := Tryz.prog) (tt := tt) (T := 9) a hT9 ty
 simp only [encRls]
 refine ex_region_w tt_ok 59 [0,0,0,0,2] [] rfl rfl fun K hK => ?_
 simp only [ltb,go_sem]
 refine hK _ _ rfl ?_
 simp only [mwb,reduceAdd]
 refine ex_seq ?_
 refine ex_region_w tt_ok 59 [0,0,0,0,0,2] [] rfl rfl fun K hK => ?_
 simp only [ltb,go_sem]
 refine hK _ _ rfl ?_
 simp only [mwb,reduceAdd]
 refine ex_block ?_
 refine ex_loopK [5] [num 0] 0 [true,true,false,false,true,true] (fun vs => ((l.length : Int) - Go.Eng.intOf (vs.headD .undef)).toNat) (fun vs => ∃ i : Nat, vs = [num i] ∧ i ≤ l.length ∧ ∀ j < i, ∀ x, l[j]? = some x → fewR1 x = true) (by omega) (by simp only [maskFr,belowV,mkb]) (by simp only [List.all_nil,List.take_nil]) (by rfl) (⟨0, rfl, Nat.zero_le _, fun j hj => absurd hj (Nat.not_lt_zero j)⟩) fun vs hI => ?_
 obtain ⟨i, rfl, hi, hall⟩ := hI
 simp only [maskFr,putAll,List.set_cons_zero,List.set_cons_succ,mkb]
 refine ex_seq ?_
 refine ex_region_w tt_ok 59 [0,0,0,0,0,0,1,1,1,2] [] rfl rfl fun K hK => ?_
 try simp only [ltb]
 simp only [List.length_map,go_sem,reduceLT,reduceEqDiff,reduceCtorEq]
 refine hK _ _ rfl ?_
 simp only [mwb,reduceAdd,reduceEqDiff]
 refine ex_if rfl (fun hc9 => ?_) (fun hc9 => ?_)
 ·have hlt : i < l.length := by simpa using hc9
  have hw := i64_succ i (by omega)
  obtain ⟨x, hx⟩ : ∃ x, l[i]? = some x := ⟨_, List.getElem?_eq_getElem hlt⟩
  refine ex_skip ?_
  show Go.Eng.Ex _ _ _ _ _ _
  refine ex_seq ?_
  refine ex_block ?_
  refine ex_region_w tt_ok 59 (rp 12 0 (rp 42 1 [2])) [(7, 19), (16, 28), (25, 37), (34, 46)] rfl rfl fun K hK => ?_
  refine runX_cut 8 fun K1 hK1 => ?_
  simp only [ltb]
  simp only [List.getElem?_map,hx,encRl,rlCells,encRqs,sl,go_sem,reduceAdd,reduceLT,reduceEqDiff]
  refine hK1 _ ?_
  refine runX_case 19 (by rfl) fun b hb4_7 => ?_
  cases b
  ·refine runX_cut 8 fun K1 hK1 => ?_
   simp only [ltb]
   simp only [List.getElem?_map,hx,encRl,rlCells,encRqs,sl,go_sem,reduceAdd,reduceLT,reduceEqDiff,reduceCtorEq]
   refine hK1 _ ?_
   refine runX_cut 1 fun K1 hK1 => ?_
   simp only [ltb,go_sem,reduceLT,reduceEqDiff]
   refine hK1 _ ?_
   refine runX_case 28 (by rfl) fun b hb4_16 => ?_
   cases b
   ·refine runX_cut 8 fun K1 hK1 => ?_
    simp only [ltb]
    simp only [List.getElem?_map,hx,encRl,rlCells,encRqs,sl,go_sem,reduceAdd,reduceLT,reduceEqDiff,reduceCtorEq]
    refine hK1 _ ?_
    refine runX_cut 1 fun K1 hK1 => ?_
    simp only [ltb,go_sem,reduceLT,reduceEqDiff]
    refine hK1 _ ?_
    refine runX_case 37 (by rfl) fun b hb4_25 => ?_
    cases b
    ·refine runX_cut 8 fun K1 hK1 => ?_
     simp only [ltb]
     simp only [List.getElem?_map,hx,encRl,rlCells,encRqs,sl,go_sem,reduceAdd,reduceLT,reduceEqDiff,reduceCtorEq]
     refine hK1 _ ?_
     refine runX_cut 1 fun K1 hK1 => ?_
     simp only [ltb,go_sem,reduceLT,reduceEqDiff]
     refine hK1 _ ?_
     refine runX_case 46 (by rfl) fun b hb4_34 => ?_
     cases b
     ·refine runX_cut 6 fun K1 hK1 => ?_
      simp only [ltb]
      simp only [List.getElem?_map,hx,encRl,rlCells,encRqs,go_sem,reduceAdd,reduceLT,reduceEqDiff,reduceCtorEq]
      refine callF_ex (by have h := fewQ_ok x.reqs (hb.2 x (List.mem_of_getElem? hx)).2.1; simp only [encRqs] at h; exact h) ?_
      rintro _ rfl
      try simp only [go_sem]
      refine hK1 _ ?_
      simp only [ltb,go_sem,reduceLT,reduceEqDiff]
      refine hK _ _ rfl ?_
      simp only [mwb,reduceAdd,reduceEqDiff]
      refine ex_if rfl (fun hc54 => ?_) (fun hc54 => ?_)
      ·have hp1 : fewR1 x = false := by unfold fewR1; simp_all <;> omega
       have hres : false = fewR l n := by unfold fewR; rw [few_no hx hp1]; rfl
       refine ex_region_w tt_ok 59 [0,0,0,0,2] [] rfl rfl fun K hK => ?_
       simp only [ltb,go_sem]
       refine hK _ _ rfl ?_
       simp only [mwb,reduceAdd]
       exact ex_ret ⟨.inl rfl, _, congrArg bl hres, rfl⟩
      ·refine ex_skip ?_
       show Go.Eng.Ex _ _ _ _ _ _
       refine ex_last_region_w tt_ok 59 [0,0,0,0,0,2,0,0,0,0,2,2] [] (by kernel_rfl) rfl rfl fun K hK => ?_
       try simp only [ltb]
       simp only [hw,go_sem,reduceLT,reduceEqDiff]
       refine hK _ _ rfl ?_
       simp only [mwb,reduceAdd,reduceEqDiff]
       refine ⟨[_], ?_, ?_, 0, [true,true,false,false,true,true], by omega, by simp only [maskFr,belowV,mkb], by simp only [List.all_nil,List.take_nil], by simp only [maskFr,putAll,List.set_cons_zero,List.set_cons_succ,mkb]; rfl⟩
       ·refine ⟨i + 1, rfl, hlt, fun j hj => ?_⟩
        rcases Nat.lt_or_ge j i with h | h
        ·exact hall j h
        ·obtain rfl : j = i := by omega
         intro y hy
         rw [hx] at hy; cases hy; unfold fewR1; simp_all <;> omega
       ·simp only [Go.Eng.intOf,List.headD_cons]; omega
     ·simp only [ltb,go_sem,reduceLT,reduceEqDiff]
      refine hK _ _ rfl ?_
      simp only [mwb,reduceAdd,reduceEqDiff]
      refine ex_cond rfl ?_
      have hp1 : fewR1 x = false := by unfold fewR1; simp_all <;> omega
      have hres : false = fewR l n := by unfold fewR; rw [few_no hx hp1]; rfl
      refine ex_region_w tt_ok 59 [0,0,0,0,2] [] rfl rfl fun K hK => ?_
      simp only [ltb,go_sem]
      refine hK _ _ rfl ?_
      simp only [mwb,reduceAdd]
      exact ex_ret ⟨.inl rfl, _, congrArg bl hres, rfl⟩
    ·refine runX_cut 8 fun K1 hK1 => ?_
     simp only [ltb,go_sem,reduceLT,reduceEqDiff]
     refine hK1 _ ?_
     refine runX_cut 8 fun K1 hK1 => ?_
     simp only [ltb,go_sem,reduceLT,reduceEqDiff]
     refine hK1 _ ?_
     simp only [ltb,go_sem,reduceLT,reduceEqDiff]
     refine hK _ _ rfl ?_
     simp only [mwb,reduceAdd,reduceEqDiff]
     refine ex_cond rfl ?_
     have hp1 : fewR1 x = false := by unfold fewR1; simp_all <;> omega
     have hres : false = fewR l n := by unfold fewR; rw [few_no hx hp1]; rfl
     refine ex_region_w tt_ok 59 [0,0,0,0,2] [] rfl rfl fun K hK => ?_
     simp only [ltb,go_sem]
     refine hK _ _ rfl ?_
     simp only [mwb,reduceAdd]
     exact ex_ret ⟨.inl rfl, _, congrArg bl hres, rfl⟩
   ·refine runX_cut 8 fun K1 hK1 => ?_
    simp only [ltb,go_sem,reduceLT,reduceEqDiff]
    refine hK1 _ ?_
    refine runX_cut 8 fun K1 hK1 => ?_
    simp only [ltb,go_sem,reduceLT,reduceEqDiff]
    refine hK1 _ ?_
    refine runX_cut 8 fun K1 hK1 => ?_
    simp only [ltb,go_sem,reduceLT,reduceEqDiff]
    refine hK1 _ ?_
    simp only [ltb,go_sem,reduceLT,reduceEqDiff]
    refine hK _ _ rfl ?_
    simp only [mwb,reduceAdd,reduceEqDiff]
    refine ex_cond rfl ?_
    have hp1 : fewR1 x = false := by unfold fewR1; simp_all <;> omega
    have hres : false = fewR l n := by unfold fewR; rw [few_no hx hp1]; rfl
    refine ex_region_w tt_ok 59 [0,0,0,0,2] [] rfl rfl fun K hK => ?_
    simp only [ltb,go_sem]
    refine hK _ _ rfl ?_
    simp only [mwb,reduceAdd]
    exact ex_ret ⟨.inl rfl, _, congrArg bl hres, rfl⟩
  ·refine runX_cut 8 fun K1 hK1 => ?_
   simp only [ltb,go_sem,reduceLT,reduceEqDiff]
   refine hK1 _ ?_
   refine runX_cut 8 fun K1 hK1 => ?_
   simp only [ltb,go_sem,reduceLT,reduceEqDiff]
   refine hK1 _ ?_
   refine runX_cut 8 fun K1 hK1 => ?_
   simp only [ltb,go_sem,reduceLT,reduceEqDiff]
   refine hK1 _ ?_
   refine runX_cut 8 fun K1 hK1 => ?_
   simp only [ltb,go_sem,reduceLT,reduceEqDiff]
   refine hK1 _ ?_
   simp only [ltb,go_sem,reduceLT,reduceEqDiff]
   refine hK _ _ rfl ?_
   simp only [mwb,reduceAdd,reduceEqDiff]
   refine ex_cond rfl ?_
   have hp1 : fewR1 x = false := by unfold fewR1; simp_all <;> omega
   have hres : false = fewR l n := by unfold fewR; rw [few_no hx hp1]; rfl
   refine ex_region_w tt_ok 59 [0,0,0,0,2] [] rfl rfl fun K hK => ?_
   simp only [ltb,go_sem]
   refine hK _ _ rfl ?_
   simp only [mwb,reduceAdd]
   exact ex_ret ⟨.inl rfl, _, congrArg bl hres, rfl⟩
 ·have hge : ¬ i < l.length := by simpa using hc9
  have hlen : decide ((l.length : Int) ≤ (n : Int)) = decide (l.length ≤ n) := by rw [Bool.eq_iff_iff, decide_eq_true_eq, decide_eq_true_eq]; omega
  have hres : decide ((l.length : Int) ≤ (n : Int)) = fewR l n := by rw [hlen]; unfold fewR; rw [few_yes hge hall]; rfl
  refine ex_exit ?_
  show Go.Eng.Ex _ _ _ _ _ _
  refine ex_region_w tt_ok 59 (0::0::0::0::2::(rp 50 0 [1,1,1,1])) [] rfl rfl fun K hK => ?_
  try simp only [ltb]
  simp only [List.length_map,go_sem,reduceLT,reduceEqDiff]
  refine hK _ _ rfl ?_
  simp only [mwb,reduceAdd,reduceEqDiff]
  exact ex_ret ⟨.inl rfl, _, congrArg bl hres, rfl⟩
theorem sidx_ok (s : List Sel) (k : Sel) (hl : s.length ≤ 1048576) : ∃ r_, (fun w => ∃ n : Int, w = num n ∧ (0 ≤ n ↔ k ∈ s)) r_ ∧ FnOk Tryz.prog 82 [encSels s, encSel k] r_ := by
 refine fn_ex tt_ok (fn := Tryz.f82) Tryz.func82 rfl Tryz.call82 ?_
 simp only [ltb,startSt,Tryz.ntmps82,List.length_cons,List.length_nil,reduceAdd,reduceSub,List.replicate_succ,List.replicate_zero]
 simp only [encSels,encSel]
 refine ex_region_w tt_ok 19 [0,0,0,2,2] [] rfl rfl fun K hK => ?_
 simp only [ltb,go_sem,reduceLT]
 refine hK _ _ rfl ?_
 simp only [mwb,reduceAdd,reduceEqDiff]
 refine ex_seq ?_
 refine ex_region_w tt_ok 19 [0,0,0,0,0,0,1,2,2] [] rfl rfl fun K hK => ?_
 try simp only [ltb]
 simp only [List.length_map,go_sem,reduceLT]
 refine hK _ _ rfl ?_
 simp only [mwb,reduceAdd,reduceEqDiff]
 refine ex_block ?_
 refine ex_loopK [8] [num 0] 1 [true,false,false,true,true,false,false,true,true] (fun vs => ((s.length : Int) - Go.Eng.intOf (vs.headD .undef)).toNat) (fun vs => ∃ i : Nat, vs = [num i] ∧ i ≤ s.length ∧ ∀ j < i, s[j]? ≠ some k) (by omega) (by simp only [maskFr,belowV,reduceLT,mkb]) (by simp only [List.all_cons,List.all_nil,belowV,belowB,Bool.and_self,List.take_succ_cons,List.take_nil]) (by rfl) (⟨0, rfl, Nat.zero_le _, fun j hj => absurd hj (Nat.not_lt_zero j)⟩) fun vs hI => ?_
 obtain ⟨i, rfl, hi, hall⟩ := hI
 simp only [maskFr,putAll,List.set_cons_zero,List.set_cons_succ,mkb]
 refine ex_region_w tt_ok 19 (rp 9 0 [2]) [] rfl rfl fun K hK => ?_
 simp only [ltb,go_sem,reduceLT]
 refine hK _ _ rfl ?_
 simp only [mwb,reduceAdd]
 refine ex_seq ?_
 refine ex_if rfl (fun hc9 => ?_) (fun hc9 => ?_)
 ·have hlt : i < s.length := by simpa using hc9
  have hw := i64_succ i (by omega)
  obtain ⟨x, hx⟩ : ∃ x, s[i]? = some x := ⟨_, List.getElem?_eq_getElem hlt⟩
  have hek := fun a b => ev_eql54 a b k x
  refine ex_skip ?_
  show Go.Eng.Ex _ _ _ _ _ _
  refine ex_seq ?_
  refine ex_block ?_
  refine ex_region_w tt_ok 19 [0,0,0,0,0,2,0,0,0,0,1] [] rfl rfl fun K hK => ?_
  simp only [ltb,go_sem,reduceLT]
  refine hK _ _ rfl ?_
  simp only [mwb,reduceAdd,reduceEqDiff]
  refine ex_mixed_w tt_ok mixed_ok 19 [0,0,0,0,0,0,0,0,0,0,0,1,1,1,1,1,2] (by kernel_rfl) [⟨.r, 0, [], [], []⟩, ⟨.n, 0, [], [], []⟩, ⟨.n, 0, [], [], []⟩, ⟨.r, 0, [], [], []⟩, ⟨.r, 0, [], [], []⟩, ⟨.n, 0, [], [], []⟩] 0 (by kernel_rfl) fun K hK => ?_
  try simp only [ltb,List.replicate_zero]
  try simp only [ltb]
  simp only [List.getElem?_map,hx,encSel,hek,go_sem,reduceAdd,reduceLT,reduceEqDiff,reduceCtorEq]
  refine hK _ _ rfl ?_
  simp only [mwb,reduceAdd,reduceEqDiff]
  refine ex_if rfl (fun hc16 => ?_) (fun hc16 => ?_)
  ·have hkx : k = x := by simpa using hc16
   have hres : (0 : Int) ≤ (i : Int) ↔ k ∈ s := ⟨fun _ => hkx ▸ List.mem_of_getElem? hx, fun _ => by omega⟩
   refine ex_region_w tt_ok 19 (0::0::0::0::2::(rp 12 0 [1])) [] rfl rfl fun K hK => ?_
   simp only [ltb,go_sem,reduceLT]
   refine hK _ _ rfl ?_
   simp only [mwb,reduceAdd,reduceEqDiff]
   exact ex_ret ⟨.inl rfl, _, ⟨_, rfl, hres⟩, rfl⟩
  ·refine ex_skip ?_
   show Go.Eng.Ex _ _ _ _ _ _
   refine ex_last_region_w tt_ok 19 (rp 8 0 (2::(rp 9 0 [2]))) [] (by kernel_rfl) rfl rfl fun K hK => ?_
   try simp only [ltb]
   simp only [hw,go_sem,reduceLT]
   refine hK _ _ rfl ?_
   simp only [mwb,reduceAdd,reduceEqDiff]
   refine ⟨[_], ?_, ?_, 1, [true,false,false,true,true,false,false,true,true], by omega, by simp only [maskFr,belowV,reduceLT,mkb], by simp only [List.all_cons,List.all_nil,belowV,belowB,Bool.and_self,List.take_succ_cons,List.take_nil], by simp only [maskFr,putAll,List.set_cons_zero,List.set_cons_succ,mkb]; rfl⟩
   ·refine ⟨i + 1, rfl, hlt, fun j hj => ?_⟩
    rcases Nat.lt_or_ge j i with h | h
    ·exact hall j h
    ·obtain rfl : j = i := by omega
     rw [hx]; intro e; cases e; simp at hc16
   ·simp only [Go.Eng.intOf,List.headD_cons]; omega
 ·have hge : ¬ i < s.length := by simpa using hc9
  have hres : (0 : Int) ≤ -1 ↔ k ∈ s := ⟨fun h => by omega, fun h => by
   obtain ⟨j, hj, he⟩ := List.getElem_of_mem h
   exact absurd (by rw [List.getElem?_eq_getElem hj, he]) (hall j (by omega))⟩
  refine ex_exit ?_
  show Go.Eng.Ex _ _ _ _ _ _
  refine ex_region_w tt_ok 19 [0,0,0,0,2] [] rfl rfl fun K hK => ?_
  simp only [ltb,go_sem]
  refine hK _ _ rfl ?_
  simp only [mwb,reduceAdd]
  exact ex_ret ⟨.inl rfl, _, ⟨_, rfl, hres⟩, rfl⟩
theorem scont_ok (s : List Sel) (k : Sel) (hl : s.length ≤ 1048576) : ∃ r_, (fun w => w = bl (decide (k ∈ s))) r_ ∧ FnOk Tryz.prog 29 [encSels s, encSel k] r_ := by
 refine fn_ex tt_ok (fn := Tryz.f29) Tryz.func29 rfl Tryz.call29 ?_
 simp only [ltb,startSt,Tryz.ntmps29,List.length_cons,List.length_nil,reduceAdd,reduceSub,List.replicate_succ,List.replicate_zero]
 simp only [encSels,encSel]
 refine ex_region_w tt_ok 9 [0,0,0,2,2] [] rfl rfl fun K hK => ?_
 simp only [ltb,go_sem,reduceLT]
 refine hK _ _ rfl ?_
 simp only [mwb,reduceAdd,reduceEqDiff]
 refine ex_region_w tt_ok 9 [0,0,0,0,2,1,1,1,1] [] rfl rfl fun K hK => ?_
 refine runX_cut 3 fun K1 hK1 => ?_
 simp only [ltb,go_sem,reduceAdd,reduceLT,reduceEqDiff]
 refine callF_ex (by have h := sidx_ok s k hl; simp only [encSels,encSel] at h; exact h) ?_
 rintro _ ⟨n, rfl, hn⟩
 try simp only [go_sem]
 refine hK1 _ ?_
 simp only [ltb,go_sem,reduceLT,reduceEqDiff]
 refine hK _ _ rfl ?_
 simp only [mwb,reduceAdd,reduceEqDiff]
 exact ex_ret ⟨.inl rfl, _, congrArg bl (by rw [Bool.eq_iff_iff]; simpa using hn), rfl⟩
end Go.Proofs.YtnfeacnbgbggfaaGreatDoor
end

section
namespace Go.Proofs.YtnfeacnbgbggfaaGreatDoor
open Go.Eng
variable [Glob]
set_option maxHeartbeats 4000000
set_option maxRecDepth 100000
attribute [local irreducible] runM stepM valD stepOp stepD callF callS
theorem fewQ_bd {l : List Rq} (h : fewQ l = true) : l.length ≤ 20 ∧ ∀ q ∈ l, q.path.size ≤ 100 ∧ q.set.length ≤ 8 := by
 unfold fewQ at h
 rw [Bool.and_eq_true, decide_eq_true_eq, List.all_eq_true] at h
 refine ⟨h.2, fun q hq => ?_⟩
 have := h.1 q hq
 unfold fewQ1 at this
 simp only [Bool.not_eq_true',Bool.or_eq_false_iff,decide_eq_false_iff_not] at this
 omega
theorem fewR_bd {l : List Rl} {n : Nat} (h : fewR l n = true) : l.length ≤ n ∧ ∀ r ∈ l, r.path.size ≤ 100 ∧ r.ar.size ≤ 100 ∧ r.itf.size ≤ 100 ∧ r.ce.size ≤ 100 ∧ fewQ r.reqs = true := by
 unfold fewR at h
 rw [Bool.and_eq_true, decide_eq_true_eq, List.all_eq_true] at h
 refine ⟨h.2, fun r hr => ?_⟩
 have := h.1 r hr
 unfold fewR1 at this
 simp only [Bool.not_eq_true',Bool.or_eq_false_iff,decide_eq_false_iff_not,Bool.not_eq_false'] at this
 refine ⟨by omega, by omega, by omega, by omega, by simpa using this.2⟩
theorem eT_len2 (t : ByteArray) (k : Nat) (h : t.size ≤ k) (hk : k ≤ 1048576) : (eT t).length ≤ k + 10 := by
 unfold eT; rw [List.length_append, bytesL_length]
 have := uv_len10 (n := t.size) (by omega)
 omega
theorem man_len {r : Rl} (hw : RlW r) (h : fewR [r] 1 = true) : (manB r).length ≤ 10000 := by
 obtain ⟨h1, h2, h3, h4, h5⟩ := (fewR_bd h).2 r (by simp)
 obtain ⟨h6, h7⟩ := fewQ_bd h5
 have hv := ver_bds hw.ver
 have a1 := eT_len2 r.path 100 h1 (by decide)
 have a2 := eT_len2 r.ar 100 h2 (by decide)
 have a3 := eT_len2 r.itf 100 h3 (by decide)
 have a4 := eT_len2 r.ce 100 h4 (by decide)
 have a5 := uvI_len (n := r.ver.mn) (by omega) (by omega)
 have a6 := uvI_len (n := r.ver.pt) (by omega) (by omega)
 have a7 := uvI_len (n := ykN r) (by have := ykN_bd r; omega) (by have := ykN_bd r; omega)
 have a8 := uvI_len (n := (r.reqs.length : Int)) (by omega) (by omega)
 have a9 := flat_len (g := rqB) (l := r.reqs) (k := 280) fun q hq => by
  obtain ⟨b1, b2⟩ := h7 q hq
  have c1 := eT_len2 q.path 100 b1 (by decide)
  have c2 := uvI_len (n := (q.set.length : Int)) (by omega) (by omega)
  have c3 := set_len (canon_of_w (hw.reqs q hq))
  unfold rqB
  simp only [List.length_append]
  omega
 unfold manB hdB
 simp only [List.length_append]
 omega
theorem manV_ok {r : Rl} (h : ixE [r] = 0) : manV r = .tup [str (bs (manB r)), num 0] := if_pos h
end Go.Proofs.YtnfeacnbgbggfaaGreatDoor
end

section
namespace Go.Proofs.YtnfeacnbgbggfaaGreatDoor
open Go.Eng
open Nat (reduceAdd reduceLT reduceLeDiff reduceMul reduceEqDiff reduceSub)
variable [Glob]
set_option maxHeartbeats 4000000
set_option maxRecDepth 100000
attribute [local irreducible] runM stepM valD stepOp stepD callF callS stepTm callTm callRel appSQ
def sp1 (r : Rl) : Spn := ⟨r.ver.pl, r.ver.pl + 1⟩
def avL (t : List Rl) : List Spn := (t.filter fun r => !r.yk).map sp1
theorem avL_snoc {G : List Rl} {i : Nat} {x : Rl} (h : G[i]? = some x) : avL (G.take (i + 1)) = avL (G.take i) ++ (if x.yk = true then [] else [sp1 x]) := by
 unfold avL
 rw [List.take_add_one, h, List.filter_append, List.map_append]
 cases hx : x.yk <;> simp [hx]
theorem pl_bd (v : Ver) : 0 ≤ v.pl ∧ v.pl < 1000000 := by
 unfold Ver.pl
 split
 ·rename_i h; exact ⟨(wrap_place h).2.2.1, (wrap_place h).2.2.2⟩
 ·omega
theorem avail_ok (hG : Glob.g = some 0) (l : List Rl) (I : List V) (hb : IxB l) (p : ByteArray) : FnOk Tryz.prog 43 [encIx l I, str p] (encSet (canon (avL (atP (good l) p)))) := by
 refine fn_t tt_ok (fn := Tryz.f43) Tryz.func43 rfl Tryz.call43 ?_
 simp only [ltb,startSt,Tryz.ntmps43,List.length_cons,List.length_nil,reduceAdd,reduceSub,List.replicate_succ,List.replicate_zero]
 simp only [encIx,encRls]
 have hlb := hb.1
 refine t_region_w tt_ok 39 [0,0,2,0,2] [] rfl rfl fun K hK => ?_
 simp only [ltb,go_sem,reduceLT]
 refine hK _ _ rfl ?_
 simp only [mwb,reduceAdd,reduceEqDiff]
 refine t_region_w tt_ok 39 [0,0,0,0,0,2,1,0,0,0,1,1,1,1,1] [] rfl rfl fun K hK => ?_
 refine runTm_cut 2 fun K1 hK1 => ?_
 simp only [ltb,go_sem,reduceAdd,reduceLT]
 refine .inl <| callF_w (by have h := newTable_at hG l I hb; simp only [encIx,encRls] at h; exact h _) ?_
 rintro _ _ ⟨rfl, rfl⟩
 try simp only [go_sem,reduceAdd]
 try simp only [tbR,reduceAdd]
 refine hK1 _ ?_
 simp only [ltb,go_sem,reduceAdd,reduceLT,reduceEqDiff]
 refine hK _ _ rfl ?_
 simp only [mwb,reduceAdd,reduceEqDiff]
 refine t_region_w tt_ok 39 [0,0,0,0,0,0,0,2] [] rfl rfl fun K hK => ?_
 simp only [ltb,go_sem,reduceAdd]
 refine hK _ _ rfl ?_
 simp only [mwb,reduceAdd]
 refine t_seq ?_
 by_cases hin : p ∈ pathsOf (good l)
 ·have hlk := fun (mem : List Blk) (b : Nat) hm => tb_path (good l) p (mem := mem) (b := b) hm
  simp only [if_pos hin,rowsP] at hlk
  refine t_region_w tt_ok 39 (rp 15 0 [1,1,1,2,2,2]) [] rfl rfl fun K hK => ?_
  try simp only [ltb]
  simp only [hlk,List.length_map,go_sem,reduceAdd,reduceLT,reduceEqDiff]
  refine hK _ _ rfl ?_
  simp only [mwb,reduceAdd,reduceEqDiff]
  refine t_block ?_
  refine tri_nilMs 7 0 2 rfl ?_
  simp only [ltb,List.set_cons_zero,List.set_cons_succ,List.length_cons,List.length_nil,reduceAdd]
  refine t_loopF (fun a : Nat × List Spn => { fr := [.undef, .undef, .undef, .undef, .undef, .undef, .undef, .ms 6 a.2.length 0 a.2.length, .undef, .undef, .undef, .undef, .undef, .undef, .undef, .undef, .undef, .undef, .slice ((atP (good l) p).map encRl), num (atP (good l) p).length, num a.1, .undef, .undef, .undef, .undef, .undef, .undef, .undef, .undef, .undef, .undef, .undef, .undef, .undef, .undef, .undef, .undef, .undef, .undef], mem := [.box [.slice (l.map encRl), .slice I], .box [.slice (l.map encRl), .slice I], .box [.mp 3, .mp 4], .map (mkM selVal 0 (gK (good l))) (gK (good l)).length, .map (mkM strVal 0 (gP (good l))) (pathsOf (good l)).length, .box [.mp 3, .mp 4], .rows a.2.length 2 (a.2.map encSpn)] }) (fun a => (atP (good l) p).length - a.1) (fun a => a.1 ≤ (atP (good l) p).length ∧ a.2 = avL ((atP (good l) p).take a.1)) ((0, [])) 7 (false::false::false::false::false::false::false::true::(rp 10 false [true,true,true])) (by omega) (by simp only [maskFr,belowV,reduceLT,mkb]) (by simp only [gK_below,gP_below,List.all_cons,List.all_nil,belowV,bB_box,bB_map,bB_rows,reduceLT,decide_true,Bool.and_self,List.take_succ_cons,List.take_nil]) (by simp only [maskFr,List.map_nil,List.length_nil,mkb] <;> rfl) (⟨Nat.zero_le _, rfl⟩) ?_
  rintro ⟨i, L⟩ ⟨hi, hL⟩
  dsimp only at hi hL ⊢
  refine t_region_w tt_ok 39 (rp 21 0 [2]) [] rfl rfl fun K hK => ?_
  simp only [ltb,go_sem,reduceAdd,reduceLT]
  refine hK _ _ rfl ?_
  simp only [mwb,reduceAdd]
  refine t_seq ?_
  refine t_if rfl (fun hc21 => ?_) (fun hc21 => ?_)
  ·have hlt : i < (atP (good l) p).length := by simpa using hc21
   have hn256 : (atP (good l) p).length ≤ 256 := Nat.le_trans (List.length_filter_le _ _) (good_len l)
   have hw := i64_succ i (by omega)
   obtain ⟨x, hx⟩ : ∃ x, (atP (good l) p)[i]? = some x := ⟨_, List.getElem?_eq_getElem hlt⟩
   have hsn := avL_snoc hx
   have hpb := pl_bd x.ver
   have hwp : IntKind.i64.wrap (x.ver.pl + 1) = x.ver.pl + 1 := IntWalk.i64_in _ (by omega)
   have hfo : ∀ a b : Int, firstOk [V.agg [num a, num b]] 0 2 = true := fun _ _ => rfl
   have hLl : L.length ≤ 256 := by
    rw [hL]; unfold avL
    rw [List.length_map]
    exact Nat.le_trans (List.length_filter_le _ _) (by rw [List.length_take]; omega)
   have hbd : L.length + 1 ≤ 34359738368 := by omega
   refine t_skip ?_
   show Tri _ _ _ _ _ _
   refine t_seq ?_
   refine t_block ?_
   refine t_region_w tt_ok 39 (rp 9 0 (2::(rp 12 0 [1,1]))) [] rfl rfl fun K hK => ?_
   try simp only [ltb]
   simp only [List.getElem?_map,hx,encRl,rlCells,encRqs,Option.map_some,go_sem,reduceAdd,reduceLT,reduceEqDiff]
   refine hK _ _ rfl ?_
   simp only [mwb,reduceAdd,reduceEqDiff]
   refine t_region_w tt_ok 39 (rp 24 0 [1,1,2]) [] rfl rfl fun K hK => ?_
   simp only [ltb,go_sem,reduceAdd,reduceLT,reduceEqDiff]
   refine hK _ _ rfl ?_
   simp only [mwb,reduceAdd,reduceEqDiff]
   refine t_if rfl (fun hc26 => ?_) (fun hc26 => ?_)
   ·have hyk : x.yk = false := by simpa using hc26
    rw [if_neg (by simp [hyk])] at hsn
    let nv : Nat × List Spn := (i + 1, L ++ [sp1 x])
    have hL2 : L ++ [sp1 x] = avL ((atP (good l) p).take (i + 1)) := by rw [hsn, hL]
    refine t_last_mixed_w tt_ok mixed_ok 39 [0,0,0,0,0,0,0,2,0,0,0,0,0,0,0,0,0,0,0,0,0,0,0,0,0,0,0,2,2,2,2,2,2,2,2,2] (by kernel_rfl) (by kernel_rfl) [⟨.n, 0, [], [], []⟩, ⟨.r, 0, [], [], []⟩, ⟨.n, 0, [], [1], []⟩, ⟨.r, 0, [], [], []⟩, ⟨.n, 0, [], [1,2,3], []⟩, ⟨.n, 0, [], [1,2,3,4], []⟩, ⟨.n, 0, [], [1,2,3,4,5], []⟩, ⟨.n, 0, [], [1,2,3,4,5,6], []⟩, ⟨.w, 0, [], [0,1,2,3,4,5,6,7], []⟩, ⟨.n, 0, [], [0,1,2,3,4,5,6,7,8], []⟩] 1 (by kernel_rfl) fun K hK => ?_
    try simp only [ltb,List.replicate_zero,List.replicate_succ]
    refine runM_cut 3 (by simp) (by simp) fun K1 hK1 => ?_
    try simp only [ltb]
    simp only [List.length_cons,List.length_nil,Nat.zero_add,go_sem,reduceAdd,reduceLT,reduceEqDiff]
    refine callD_ex rfl (by have h := place_ok x; simp only [encRl,rlCells,encRqs] at h; exact h) ?_
    rintro _ rfl
    try simp only [go_sem]
    refine hK1 _ ?_
    refine runM_cut 2 (by simp) (by simp) fun K1 hK1 => ?_
    try simp only [ltb]
    simp only [List.length_cons,List.length_nil,Nat.zero_add,go_sem,reduceAdd,reduceLT,reduceEqDiff]
    refine callD_ex rfl (by have h := place_ok x; simp only [encRl,rlCells,encRqs] at h; exact h) ?_
    rintro _ rfl
    try simp only [go_sem]
    refine hK1 _ ?_
    try simp only [ltb]
    simp only [hwp,hfo,hbd,List.length_cons,List.length_nil,Nat.zero_add,List.length_map,go_sem,reduceAdd,reduceLT,reduceLeDiff,reduceMul,reduceEqDiff,reduceCtorEq]
    refine hK _ _ rfl ?_
    simp only [mwb,reduceAdd,reduceEqDiff]
    show Tri _ _ _ _ _ _
    refine t_last_region_w tt_ok 39 (rp 20 0 (2::(rp 15 0 [2]))) [] (by kernel_rfl) rfl rfl fun K hK => ?_
    try simp only [ltb]
    simp only [hw,List.length_cons,List.length_nil,Nat.zero_add,go_sem,reduceAdd,reduceLT]
    refine hK _ _ rfl ?_
    simp only [mwb,reduceAdd,reduceEqDiff]
    refine ⟨nv, ?_, ?_, 7, (false::false::false::false::false::false::false::true::(rp 10 false [true,true,true])), by omega, by simp only [maskFr,belowV,reduceLT,mkb], by simp only [ltb,gK_below,gP_below,List.all_cons,List.all_nil,belowV,bB_box,bB_map,bB_rows,reduceLT,decide_true,Bool.and_self], by (simp only [nv,List.map_append,List.map_cons,List.map_nil,List.length_append,List.length_map,List.length_cons,List.length_nil,Nat.zero_add,encSpn,sp1,maskFr,mkb])⟩
    ·exact ⟨hlt, hL2⟩
    ·dsimp only [nv]; omega
   ·have hyk : x.yk = true := by simpa using hc26
    rw [if_pos hyk] at hsn
    let nv : Nat × List Spn := (i + 1, L)
    have hL2 : L = avL ((atP (good l) p).take (i + 1)) := by rw [hsn, hL, List.append_nil]
    refine t_skip ?_
    show Tri _ _ _ _ _ _
    refine t_last_region_w tt_ok 39 (rp 20 0 (2::(rp 15 0 [2]))) [] (by kernel_rfl) rfl rfl fun K hK => ?_
    try simp only [ltb]
    simp only [hw,go_sem,reduceAdd,reduceLT]
    refine hK _ _ rfl ?_
    simp only [mwb,reduceAdd,reduceEqDiff]
    refine ⟨nv, ?_, ?_, 7, (false::false::false::false::false::false::false::true::(rp 10 false [true,true,true])), by omega, by simp only [maskFr,belowV,reduceLT,mkb], by simp only [ltb,gK_below,gP_below,List.all_cons,List.all_nil,belowV,bB_box,bB_map,bB_rows,reduceLT,decide_true,Bool.and_self], by (simp only [nv,maskFr,mkb])⟩
    ·exact ⟨hlt, hL2⟩
    ·dsimp only [nv]; omega
  ·have hge : ¬ i < (atP (good l) p).length := by simpa using hc21
   have hil : i = (atP (good l) p).length := by omega
   have hL3 : L = avL (atP (good l) p) := by rw [hL, hil, List.take_length]
   have hLl : L.length ≤ 1048576 := by
    rw [hL3]; unfold avL
    rw [List.length_map]
    exact Nat.le_trans (List.length_filter_le _ _) (Nat.le_trans (List.length_filter_le _ _) (by have := good_len l; omega))
   have htkL : List.take L.length (L.map encSpn) = L.map encSpn := List.take_of_length_le (by simp)
   have hLe : L.length ≤ (L.map encSpn).length := by simp
   refine t_exit ?_
   show Tri _ _ _ _ _ _
   have hfin : some (.slice ((canon L).map encSpn)) = some (encSet (canon (avL (atP (good l) p)))) := by rw [hL3]; rfl
   refine t_region_w tt_ok 39 (0::0::0::0::2::(rp 32 0 [1,1])) [] rfl rfl fun K hK => ?_
   refine runTm_cut 2 fun K1 hK1 => ?_
   simp only [ltb]
   simp only [htkL,List.length_map,go_sem,reduceAdd,reduceLT]
   refine .inl <| callF_ex (⟨_, rfl, by have h := canon_ok L (by omega); simp only [encSet] at h; exact h⟩) ?_
   rintro _ rfl
   try simp only [go_sem]
   refine hK1 _ ?_
   simp only [ltb,go_sem,reduceLT,reduceEqDiff]
   refine hK _ _ rfl ?_
   simp only [mwb,reduceAdd,reduceEqDiff]
   refine t_ret ?_
   exact ⟨.inl rfl, hfin⟩
 ·have hlk := fun (mem : List Blk) (b : Nat) hm => tb_path (good l) p (mem := mem) (b := b) hm
  simp only [if_neg hin] at hlk
  refine t_region_w tt_ok 39 (rp 15 0 [1,1,1,2,2,2]) [] rfl rfl fun K hK => ?_
  try simp only [ltb]
  simp only [hlk,go_sem,reduceAdd,reduceLT,reduceEqDiff]
  refine hK _ _ rfl ?_
  simp only [mwb,reduceAdd,reduceEqDiff]
  have hat0 : atP (good l) p = [] := by have h := rowsP_none hin; unfold rowsP at h; simpa using h
  refine tri_frz (v' := .slice ((atP (good l) p).map encRl)) 18 rfl (by rw [hat0]; rfl) ?_
  simp only [ref1,refCell,frzAll,List.foldl_nil,List.set_cons_zero,List.set_cons_succ]
  refine tri_slot (v' := num ((atP (good l) p).length : Int)) 19 rfl (by rw [hat0]; rfl) ?_
  simp only [List.set_cons_zero,List.set_cons_succ]
  refine t_block ?_
  refine tri_nilMs 7 0 2 rfl ?_
  simp only [ltb,List.set_cons_zero,List.set_cons_succ,List.length_cons,List.length_nil,reduceAdd]
  refine t_loopF (fun a : Nat × List Spn => { fr := [.undef, .undef, .undef, .undef, .undef, .undef, .undef, .ms 6 a.2.length 0 a.2.length, .undef, .undef, .undef, .undef, .undef, .undef, .undef, .undef, .undef, .undef, .slice ((atP (good l) p).map encRl), num (atP (good l) p).length, num a.1, .undef, .undef, .undef, .undef, .undef, .undef, .undef, .undef, .undef, .undef, .undef, .undef, .undef, .undef, .undef, .undef, .undef, .undef], mem := [.box [.slice (l.map encRl), .slice I], .box [.slice (l.map encRl), .slice I], .box [.mp 3, .mp 4], .map (mkM selVal 0 (gK (good l))) (gK (good l)).length, .map (mkM strVal 0 (gP (good l))) (pathsOf (good l)).length, .box [.mp 3, .mp 4], .rows a.2.length 2 (a.2.map encSpn)] }) (fun a => (atP (good l) p).length - a.1) (fun a => a.1 ≤ (atP (good l) p).length ∧ a.2 = avL ((atP (good l) p).take a.1)) ((0, [])) 7 (false::false::false::false::false::false::false::true::(rp 10 false [true,true,true])) (by omega) (by simp only [maskFr,belowV,reduceLT,mkb]) (by simp only [gK_below,gP_below,List.all_cons,List.all_nil,belowV,bB_box,bB_map,bB_rows,reduceLT,decide_true,Bool.and_self,List.take_succ_cons,List.take_nil]) (by simp only [maskFr,List.map_nil,List.length_nil,mkb] <;> rfl) (⟨Nat.zero_le _, rfl⟩) ?_
  rintro ⟨i, L⟩ ⟨hi, hL⟩
  dsimp only at hi hL ⊢
  refine t_region_w tt_ok 39 (rp 21 0 [2]) [] rfl rfl fun K hK => ?_
  simp only [ltb,go_sem,reduceAdd,reduceLT]
  refine hK _ _ rfl ?_
  simp only [mwb,reduceAdd]
  refine t_seq ?_
  refine t_if rfl (fun hc21 => ?_) (fun hc21 => ?_)
  ·have hlt : i < (atP (good l) p).length := by simpa using hc21
   have hn256 : (atP (good l) p).length ≤ 256 := Nat.le_trans (List.length_filter_le _ _) (good_len l)
   have hw := i64_succ i (by omega)
   obtain ⟨x, hx⟩ : ∃ x, (atP (good l) p)[i]? = some x := ⟨_, List.getElem?_eq_getElem hlt⟩
   have hsn := avL_snoc hx
   have hpb := pl_bd x.ver
   have hwp : IntKind.i64.wrap (x.ver.pl + 1) = x.ver.pl + 1 := IntWalk.i64_in _ (by omega)
   have hfo : ∀ a b : Int, firstOk [V.agg [num a, num b]] 0 2 = true := fun _ _ => rfl
   have hLl : L.length ≤ 256 := by
    rw [hL]; unfold avL
    rw [List.length_map]
    exact Nat.le_trans (List.length_filter_le _ _) (by rw [List.length_take]; omega)
   have hbd : L.length + 1 ≤ 34359738368 := by omega
   refine t_skip ?_
   show Tri _ _ _ _ _ _
   refine t_seq ?_
   refine t_block ?_
   refine t_region_w tt_ok 39 (rp 9 0 (2::(rp 12 0 [1,1]))) [] rfl rfl fun K hK => ?_
   try simp only [ltb]
   simp only [List.getElem?_map,hx,encRl,rlCells,encRqs,Option.map_some,go_sem,reduceAdd,reduceLT,reduceEqDiff]
   refine hK _ _ rfl ?_
   simp only [mwb,reduceAdd,reduceEqDiff]
   refine t_region_w tt_ok 39 (rp 24 0 [1,1,2]) [] rfl rfl fun K hK => ?_
   simp only [ltb,go_sem,reduceAdd,reduceLT,reduceEqDiff]
   refine hK _ _ rfl ?_
   simp only [mwb,reduceAdd,reduceEqDiff]
   refine t_if rfl (fun hc26 => ?_) (fun hc26 => ?_)
   ·have hyk : x.yk = false := by simpa using hc26
    rw [if_neg (by simp [hyk])] at hsn
    let nv : Nat × List Spn := (i + 1, L ++ [sp1 x])
    have hL2 : L ++ [sp1 x] = avL ((atP (good l) p).take (i + 1)) := by rw [hsn, hL]
    refine t_last_mixed_w tt_ok mixed_ok 39 [0,0,0,0,0,0,0,2,0,0,0,0,0,0,0,0,0,0,0,0,0,0,0,0,0,0,0,2,2,2,2,2,2,2,2,2] (by kernel_rfl) (by kernel_rfl) [⟨.n, 0, [], [], []⟩, ⟨.r, 0, [], [], []⟩, ⟨.n, 0, [], [1], []⟩, ⟨.r, 0, [], [], []⟩, ⟨.n, 0, [], [1,2,3], []⟩, ⟨.n, 0, [], [1,2,3,4], []⟩, ⟨.n, 0, [], [1,2,3,4,5], []⟩, ⟨.n, 0, [], [1,2,3,4,5,6], []⟩, ⟨.w, 0, [], [0,1,2,3,4,5,6,7], []⟩, ⟨.n, 0, [], [0,1,2,3,4,5,6,7,8], []⟩] 1 (by kernel_rfl) fun K hK => ?_
    try simp only [ltb,List.replicate_zero,List.replicate_succ]
    refine runM_cut 3 (by simp) (by simp) fun K1 hK1 => ?_
    try simp only [ltb]
    simp only [List.length_cons,List.length_nil,Nat.zero_add,go_sem,reduceAdd,reduceLT,reduceEqDiff]
    refine callD_ex rfl (by have h := place_ok x; simp only [encRl,rlCells,encRqs] at h; exact h) ?_
    rintro _ rfl
    try simp only [go_sem]
    refine hK1 _ ?_
    refine runM_cut 2 (by simp) (by simp) fun K1 hK1 => ?_
    try simp only [ltb]
    simp only [List.length_cons,List.length_nil,Nat.zero_add,go_sem,reduceAdd,reduceLT,reduceEqDiff]
    refine callD_ex rfl (by have h := place_ok x; simp only [encRl,rlCells,encRqs] at h; exact h) ?_
    rintro _ rfl
    try simp only [go_sem]
    refine hK1 _ ?_
    try simp only [ltb]
    simp only [hwp,hfo,hbd,List.length_cons,List.length_nil,Nat.zero_add,List.length_map,go_sem,reduceAdd,reduceLT,reduceLeDiff,reduceMul,reduceEqDiff,reduceCtorEq]
    refine hK _ _ rfl ?_
    simp only [mwb,reduceAdd,reduceEqDiff]
    show Tri _ _ _ _ _ _
    refine t_last_region_w tt_ok 39 (rp 20 0 (2::(rp 15 0 [2]))) [] (by kernel_rfl) rfl rfl fun K hK => ?_
    try simp only [ltb]
    simp only [hw,List.length_cons,List.length_nil,Nat.zero_add,go_sem,reduceAdd,reduceLT]
    refine hK _ _ rfl ?_
    simp only [mwb,reduceAdd,reduceEqDiff]
    refine ⟨nv, ?_, ?_, 7, (false::false::false::false::false::false::false::true::(rp 10 false [true,true,true])), by omega, by simp only [maskFr,belowV,reduceLT,mkb], by simp only [ltb,gK_below,gP_below,List.all_cons,List.all_nil,belowV,bB_box,bB_map,bB_rows,reduceLT,decide_true,Bool.and_self], by (simp only [nv,List.map_append,List.map_cons,List.map_nil,List.length_append,List.length_map,List.length_cons,List.length_nil,Nat.zero_add,encSpn,sp1,maskFr,mkb])⟩
    ·exact ⟨hlt, hL2⟩
    ·dsimp only [nv]; omega
   ·have hyk : x.yk = true := by simpa using hc26
    rw [if_pos hyk] at hsn
    let nv : Nat × List Spn := (i + 1, L)
    have hL2 : L = avL ((atP (good l) p).take (i + 1)) := by rw [hsn, hL, List.append_nil]
    refine t_skip ?_
    show Tri _ _ _ _ _ _
    refine t_last_region_w tt_ok 39 (rp 20 0 (2::(rp 15 0 [2]))) [] (by kernel_rfl) rfl rfl fun K hK => ?_
    try simp only [ltb]
    simp only [hw,go_sem,reduceAdd,reduceLT]
    refine hK _ _ rfl ?_
    simp only [mwb,reduceAdd,reduceEqDiff]
    refine ⟨nv, ?_, ?_, 7, (false::false::false::false::false::false::false::true::(rp 10 false [true,true,true])), by omega, by simp only [maskFr,belowV,reduceLT,mkb], by simp only [ltb,gK_below,gP_below,List.all_cons,List.all_nil,belowV,bB_box,bB_map,bB_rows,reduceLT,decide_true,Bool.and_self], by (simp only [nv,maskFr,mkb])⟩
    ·exact ⟨hlt, hL2⟩
    ·dsimp only [nv]; omega
  ·have hge : ¬ i < (atP (good l) p).length := by simpa using hc21
   have hil : i = (atP (good l) p).length := by omega
   have hL3 : L = avL (atP (good l) p) := by rw [hL, hil, List.take_length]
   have hLl : L.length ≤ 1048576 := by
    rw [hL3]; unfold avL
    rw [List.length_map]
    exact Nat.le_trans (List.length_filter_le _ _) (Nat.le_trans (List.length_filter_le _ _) (by have := good_len l; omega))
   have htkL : List.take L.length (L.map encSpn) = L.map encSpn := List.take_of_length_le (by simp)
   have hLe : L.length ≤ (L.map encSpn).length := by simp
   refine t_exit ?_
   show Tri _ _ _ _ _ _
   have hfin : some (.slice ((canon L).map encSpn)) = some (encSet (canon (avL (atP (good l) p)))) := by rw [hL3]; rfl
   refine t_region_w tt_ok 39 (0::0::0::0::2::(rp 32 0 [1,1])) [] rfl rfl fun K hK => ?_
   refine runTm_cut 2 fun K1 hK1 => ?_
   simp only [ltb]
   simp only [htkL,List.length_map,go_sem,reduceAdd,reduceLT]
   refine .inl <| callF_ex (⟨_, rfl, by have h := canon_ok L (by omega); simp only [encSet] at h; exact h⟩) ?_
   rintro _ rfl
   try simp only [go_sem]
   refine hK1 _ ?_
   simp only [ltb,go_sem,reduceLT,reduceEqDiff]
   refine hK _ _ rfl ?_
   simp only [mwb,reduceAdd,reduceEqDiff]
   refine t_ret ?_
   exact ⟨.inl rfl, hfin⟩
end Go.Proofs.YtnfeacnbgbggfaaGreatDoor
end

section
namespace Go.Proofs.YtnfeacnbgbggfaaGreatDoor
open Go.Eng
open Nat (reduceAdd reduceLT reduceLeDiff reduceMul reduceEqDiff reduceSub)
variable [Glob]
set_option maxHeartbeats 4000000
set_option maxRecDepth 100000
attribute [local irreducible] runM stepM valD stepOp stepD callF callS
def incr (s : List Sel) : Bool := (List.range s.length).all fun i => match s[i]?, s[i + 1]? with | some a, some b => ltB a.path b.path | _, _ => true
theorem incr_iff (s : List Sel) : incr s = true ↔ ∀ (i : Nat) (a b : Sel), s[i]? = some a → s[i + 1]? = some b → ltB a.path b.path = true := by
 unfold incr
 rw [List.all_eq_true]
 constructor
 ·intro h i a b ha hb
  have h1 := h i (by rw [List.mem_range]; exact (List.getElem?_eq_some_iff.1 ha).1)
  rw [ha, hb] at h1
  exact h1
 ·intro h i hi
  split
  ·rename_i a b ha hb; exact h i a b ha hb
  ·rfl
def selM (l : List Rl) (s : List Sel) : Option (List Rl) := s.mapM (fnd l)
def slcV (l : List Rl) (s : List Sel) : V := if incr s = true then (match selM l s with | some m => .tup [.slice (m.map encRl), num 0] | none => .tup [.sc (.slice none 0 0), num 6]) else .tup [.sc (.slice none 0 0), num 1]
theorem selM_take {l : List Rl} {s : List Sel} {i : Nat} {y : Sel} {R : List Rl} {r : Rl} (h : selM l (s.take i) = some R) (hy : s[i]? = some y) (hf : fnd l y = some r) : selM l (s.take (i + 1)) = some (R ++ [r]) := by
 unfold selM at h ⊢
 rw [List.take_add_one, hy, List.mapM_append, h]
 simp [hf]
theorem selM_none {l : List Rl} {s : List Sel} {i : Nat} {y : Sel} (hy : s[i]? = some y) (hf : fnd l y = none) : selM l s = none := by
 unfold selM
 have hs : s = s.take i ++ y :: s.drop (i + 1) := by
  obtain ⟨h1, h2⟩ := List.getElem?_eq_some_iff.1 hy
  rw [← h2, List.getElem_cons_drop, List.take_append_drop]
 rw [hs, List.mapM_append]
 cases (s.take i).mapM (fnd l) with
 | none => rfl
 | some R => simp [hf]
theorem selM_length {l : List Rl} {s : List Sel} {R : List Rl} (h : selM l s = some R) : R.length = s.length := by
 unfold selM at h
 induction s generalizing R with
 | nil => simp at h; subst h; rfl
 | cons a t ih =>
  rw [List.mapM_cons] at h
  cases h1 : fnd l a with
  | none => rw [h1] at h; simp at h
  | some b =>
   rw [h1] at h
   cases h2 : t.mapM (fnd l) with
   | none => rw [h2] at h; simp at h
   | some r' =>
    rw [h2] at h
    simp at h
    subst h
    rw [List.length_cons, List.length_cons, ih h2]
theorem selected_ok (l : List Rl) (s : List Sel) (hs : s.length ≤ 1048576) : ∃ r_ m_, (fun r m => r = slcV l s ∧ m = [.map (mkM selVal 0 (gK (good l))) (gK (good l)).length, .map (mkM strVal 0 (gP (good l))) (pathsOf (good l)).length]) r_ m_ ∧ FnOkS Tryz.prog 51 [.agg [.mp 0, .mp 1], encSels s] ([.map (mkM selVal 0 (gK (good l))) (gK (good l)).length, .map (mkM strVal 0 (gP (good l))) (pathsOf (good l)).length]) r_ m_ := by
 refine fnw_ex tt_ok (fn := Tryz.f51) (2) (by simp) Tryz.func51 rfl Tryz.call51 ?_
 simp only [ltb,startSt,Tryz.ntmps51,List.length_cons,List.length_nil,reduceAdd,reduceSub,List.replicate_succ,List.replicate_zero]
 simp only [encSels]
 refine ex_region_w tt_ok 51 [0,0,2,0,2,2] [] rfl rfl fun K hK => ?_
 simp only [ltb,go_sem,reduceAdd,reduceLT]
 refine hK _ _ rfl ?_
 simp only [mwb,reduceAdd,reduceEqDiff]
 refine ex_seq ?_
 refine ex_region_w tt_ok 51 [0,0,0,0,0,0,2] [] rfl rfl fun K hK => ?_
 simp only [ltb,go_sem,reduceAdd]
 refine hK _ _ rfl ?_
 simp only [mwb,reduceAdd]
 refine ex_block ?_
 refine ex_loopK [6] [num 1] 3 [false,true,true,false,true,true,true] (fun vs => ((s.length : Int) - Go.Eng.intOf (vs.headD .undef)).toNat) (fun vs => ∃ i : Nat, vs = [num ((i + 1 : Nat) : Int)] ∧ (i = 0 ∨ i + 1 ≤ s.length) ∧ ∀ j < i, ∀ a b : Sel, s[j]? = some a → s[j + 1]? = some b → ltB a.path b.path = true) (by omega) (by simp only [maskFr,belowV,reduceLT,mkb]) (by simp only [gK_below,gP_below,List.all_cons,List.all_nil,belowV,bB_box,bB_map,reduceLT,decide_true,Bool.and_self,List.take_succ_cons,List.take_nil]) (by rfl) (⟨0, rfl, .inl rfl, fun j hj => absurd hj (Nat.not_lt_zero j)⟩) fun vs hI => ?_
 obtain ⟨i, rfl, hi, hall⟩ := hI
 simp only [maskFr,putAll,List.set_cons_zero,List.set_cons_succ,mkb]
 refine ex_seq ?_
 refine ex_region_w tt_ok 51 (rp 12 0 [1,1,1,2]) [] rfl rfl fun K hK => ?_
 try simp only [ltb]
 simp only [List.length_map,go_sem,reduceAdd,reduceLT,reduceEqDiff]
 refine hK _ _ rfl ?_
 simp only [mwb,reduceAdd,reduceEqDiff]
 refine ex_if rfl (fun hc15 => ?_) (fun hc15 => ?_)
 ·have hlt : i + 1 < s.length := by have := of_decide_eq_true hc15; omega
  obtain ⟨x, hx⟩ : ∃ x, s[i]? = some x := ⟨_, List.getElem?_eq_getElem (by omega)⟩
  obtain ⟨y, hy⟩ : ∃ y, s[i + 1]? = some y := ⟨_, List.getElem?_eq_getElem hlt⟩
  have hw := i64_succ (i + 1) (by omega)
  have hw1 : IntKind.i64.wrap (((i + 1 : Nat) : Int) - 1) = (i : Int) := by rw [IntWalk.i64_in _ (by omega)]; omega
  refine ex_skip ?_
  show Go.Eng.Ex _ _ _ _ _ _
  refine ex_seq ?_
  refine ex_block ?_
  refine ex_mixed_w tt_ok mixed_ok 51 [0,0,0,0,0,0,0,0,0,0,0,0,0,0,0,0,0,0,1,1,1,1,1,1,1,1,1,1,1,2] (by kernel_rfl) [⟨.n, 0, [], [], []⟩, ⟨.n, 0, [], [], []⟩, ⟨.n, 0, [], [], []⟩, ⟨.r, 0, [], [], []⟩, ⟨.n, 0, [], [], []⟩, ⟨.r, 0, [], [], []⟩, ⟨.n, 0, [], [], []⟩, ⟨.n, 0, [], [], []⟩, ⟨.r, 0, [], [], []⟩, ⟨.n, 0, [], [], []⟩, ⟨.r, 0, [], [], []⟩, ⟨.n, 0, [], [], []⟩] 0 (by kernel_rfl) fun K hK => ?_
  try simp only [ltb,List.replicate_zero]
  refine runM_cut 6 (by simp) (by simp) fun K1 hK1 => ?_
  try simp only [ltb]
  simp only [hw1,List.getElem?_map,hx,Option.map_some,encSel,go_sem,reduceAdd,reduceLT,reduceEqDiff]
  refine hK1 _ ?_
  try simp only [ltb]
  simp only [List.getElem?_map,hy,Option.map_some,encSel,ev_sgeq,go_sem,reduceAdd,reduceLT,reduceEqDiff]
  refine hK _ _ rfl ?_
  simp only [mwb,reduceAdd,reduceEqDiff]
  refine ex_if rfl (fun hc29 => ?_) (fun hc29 => ?_)
  ·have hninc : ¬ incr s = true := fun h => by
    have h1 := (incr_iff s).1 h i x y hx hy
    unfold ltB at h1
    rw [h1] at hc29; cases hc29
   have hV : slcV l s = .tup [.sc (.slice none 0 0), num 1] := by unfold slcV; rw [if_neg hninc]
   refine ex_region_w tt_ok 51 [0,0,0,0,2,2] [] rfl rfl fun K hK => ?_
   simp only [ltb,go_sem,reduceAdd]
   refine hK _ _ rfl ?_
   simp only [mwb,reduceAdd,reduceEqDiff]
   exact ex_ret ⟨.inl rfl, _, ⟨hV.symm, rfl⟩, rfl, by simp [belowV, belowL], by simp [bB_map, gK_below, gP_below]⟩
  ·refine ex_skip ?_
   show Go.Eng.Ex _ _ _ _ _ _
   refine ex_last_region_w tt_ok 51 [0,0,0,0,0,0,2,0,0,0,0,0,0,0,0,0,2,2] [] (by kernel_rfl) rfl rfl fun K hK => ?_
   try simp only [ltb]
   simp only [hw,go_sem,reduceAdd,reduceLT,reduceEqDiff]
   refine hK _ _ rfl ?_
   simp only [mwb,reduceAdd,reduceEqDiff]
   refine ⟨[_], ?_, ?_, 3, [false,true,true,false,true,true,true], by omega, by simp only [maskFr,belowV,reduceLT,mkb], by simp only [gK_below,gP_below,List.all_cons,List.all_nil,belowV,bB_box,bB_map,reduceLT,decide_true,Bool.and_self,List.take_succ_cons,List.take_nil], by simp only [maskFr,putAll,List.set_cons_zero,List.set_cons_succ,mkb]; rfl⟩
   ·refine ⟨i + 1, rfl, .inr (by omega), fun j hj a b ha hb => ?_⟩
    rcases Nat.lt_or_ge j i with h | h
    ·exact hall j h a b ha hb
    ·obtain rfl : j = i := by omega
     rw [hx] at ha; rw [hy] at hb; cases ha; cases hb
     unfold ltB; simpa using hc29
   ·simp only [Go.Eng.intOf,List.headD_cons]; omega
 ·have hge : ¬ i + 1 < s.length := by have := of_decide_eq_false hc15; omega
  have hinc : incr s = true := (incr_iff s).2 fun j a b ha hb => hall j (by have := (List.getElem?_eq_some_iff.1 hb).1; omega) a b ha hb
  refine ex_exit ?_
  show Go.Eng.Ex _ _ _ _ _ _
  refine ex_region_w tt_ok 51 [0,0,0,0,0,0,0,2] [] rfl rfl fun K hK => ?_
  simp only [ltb,go_sem,reduceAdd]
  refine hK _ _ rfl ?_
  simp only [mwb,reduceAdd]
  refine ex_seq ?_
  refine ex_region_w tt_ok 51 (rp 30 0 [2,2,2]) [] rfl rfl fun K hK => ?_
  try simp only [ltb]
  simp only [List.length_map,go_sem,reduceAdd,reduceLT]
  refine hK _ _ rfl ?_
  simp only [mwb,reduceAdd,reduceEqDiff]
  refine ex_block ?_
  refine ex_nilMs 7 0 9 rfl ?_
  simp only [ltb,List.set_cons_zero,List.set_cons_succ,List.length_cons,List.length_nil,reduceAdd]
  refine ex_loopF (fun b : Nat × List Rl => { fr := [.undef, .undef, .ptr 2 0, .undef, .undef, .undef, .undef, .ms 3 b.1 0 b.1, .undef, .undef, .undef, .undef, .undef, .undef, .undef, .undef, .undef, .undef, .undef, .undef, .undef, .undef, .undef, .undef, .undef, .undef, .undef, .undef, .undef, .undef, .slice (s.map encSel), num s.length, num b.1, .undef, .undef, .undef, .undef, .undef, .undef, .undef, .undef, .undef, .undef, .undef, .undef, .undef, .undef, .undef, .undef, .undef, .undef], mem := [.map (mkM selVal 0 (gK (good l))) (gK (good l)).length, .map (mkM strVal 0 (gP (good l))) (pathsOf (good l)).length, .box [.mp 0, .mp 1], .rows b.1 9 (b.2.map encRl)] }) (fun b => s.length - b.1) (fun b => b.1 ≤ s.length ∧ selM l (s.take b.1) = some b.2 ∧ b.2.length = b.1) ((0, [])) 4 (false::false::true::false::false::false::false::true::(rp 22 false [true,true,true])) (by omega) (by simp only [maskFr,belowV,reduceLT,mkb]) (by simp only [gK_below,gP_below,List.all_cons,List.all_nil,belowV,bB_box,bB_map,bB_rows,reduceLT,decide_true,Bool.and_self,List.take_succ_cons,List.take_nil]) (by simp only [maskFr,List.map_nil,mkb] <;> rfl) (⟨Nat.zero_le _, rfl, rfl⟩) ?_
  rintro ⟨i, R⟩ ⟨hi, hR, hRl⟩
  dsimp only at hi hR hRl ⊢
  refine ex_region_w tt_ok 51 (rp 33 0 [2]) [] rfl rfl fun K hK => ?_
  simp only [ltb,go_sem,reduceAdd,reduceLT]
  refine hK _ _ rfl ?_
  simp only [mwb,reduceAdd]
  refine ex_seq ?_
  refine ex_if rfl (fun hc33 => ?_) (fun hc33 => ?_)
  ·have hlt : i < s.length := by simpa using hc33
   have hw := i64_succ i (by omega)
   obtain ⟨x, hx⟩ : ∃ x, s[i]? = some x := ⟨_, List.getElem?_eq_getElem hlt⟩
   have hfo : ∀ q : Rl, firstOk [V.agg [str q.path, num q.ver.mj, num q.ver.mn, num q.ver.pt, V.slice (q.reqs.map encRq), str q.ar, str q.itf, str q.ce, bl q.yk]] 0 9 = true := fun q => rfl
   have hbd : i + 1 ≤ 34359738368 := by omega
   have hRm : (R.map encRl).length = i := by rw [List.length_map, hRl]
   refine ex_skip ?_
   show Go.Eng.Ex _ _ _ _ _ _
   refine ex_seq ?_
   refine ex_block ?_
   refine ex_region_w tt_ok 51 (rp 9 0 (2::(rp 24 0 [1,1]))) [] rfl rfl fun K hK => ?_
   try simp only [ltb]
   simp only [List.getElem?_map,hx,Option.map_some,encSel,List.length_cons,List.length_nil,Nat.zero_add,go_sem,reduceAdd,reduceLT,reduceEqDiff]
   refine hK _ _ rfl ?_
   simp only [mwb,reduceAdd,reduceEqDiff]
   rcases hf : fnd l x with _ | r
   ·have hlk := fun (mem : List Blk) (b : Nat) hm => tb_find0 hf (mem := mem) (b := b) hm
    simp only [selV] at hlk
    refine ex_region_w tt_ok 51 (rp 10 0 (2::2::(rp 24 0 [1,1,1,1,1,1,1]))) [] rfl rfl fun K hK => ?_
    refine runX_cut 8 fun K1 hK1 => ?_
    simp only [ltb]
    simp only [List.length_cons,List.length_nil,Nat.zero_add,hlk,go_sem,reduceAdd,reduceLT,reduceLeDiff,reduceEqDiff]
    refine hK1 _ ?_
    try simp only [ltb]
    simp only [List.length_cons,List.length_nil,Nat.zero_add,go_sem,reduceAdd,reduceLT,reduceEqDiff]
    refine hK _ _ rfl ?_
    simp only [mwb,reduceAdd,reduceEqDiff]
    refine ex_seq ?_
    refine ex_region_w tt_ok 51 (rp 43 0 [1,2]) [] rfl rfl fun K hK => ?_
    try simp only [ltb]
    simp only [List.length_cons,List.length_nil,Nat.zero_add,go_sem,reduceAdd,reduceLT]
    refine hK _ _ rfl ?_
    simp only [mwb,reduceAdd,reduceEqDiff]
    refine ex_if rfl (fun hc44 => ?_) (fun hc44 => ?_)
    ·have hV : slcV l s = .tup [.sc (.slice none 0 0), num 6] := by unfold slcV; rw [if_pos hinc, selM_none hx hf]
     refine ex_region_w tt_ok 51 [0,0,0,0,2,2] [] rfl rfl fun K hK => ?_
     try simp only [ltb]
     simp only [List.length_cons,List.length_nil,Nat.zero_add,go_sem,reduceAdd]
     refine hK _ _ rfl ?_
     simp only [mwb,reduceAdd,reduceEqDiff]
     exact ex_ret ⟨.inl rfl, _, ⟨hV.symm, rfl⟩, rfl, by simp [belowV, belowL], by simp [bB_map, gK_below, gP_below]⟩
    ·exact absurd hc44 (by simp)
   ·have hlk := fun (mem : List Blk) (b : Nat) hm => tb_find hf (mem := mem) (b := b) hm
    simp only [selV,encRl,rlCells,encRqs] at hlk
    refine ex_region_w tt_ok 51 (rp 10 0 (2::2::(rp 24 0 [1,1,1,1,1,1,1]))) [] rfl rfl fun K hK => ?_
    refine runX_cut 8 fun K1 hK1 => ?_
    simp only [ltb]
    simp only [List.length_cons,List.length_nil,Nat.zero_add,hlk,go_sem,reduceAdd,reduceLT,reduceLeDiff,reduceEqDiff]
    refine hK1 _ ?_
    try simp only [ltb]
    simp only [List.length_cons,List.length_nil,Nat.zero_add,go_sem,reduceAdd,reduceLT,reduceEqDiff]
    refine hK _ _ rfl ?_
    simp only [mwb,reduceAdd,reduceEqDiff]
    refine ex_seq ?_
    refine ex_region_w tt_ok 51 (rp 43 0 [1,2]) [] rfl rfl fun K hK => ?_
    try simp only [ltb]
    simp only [List.length_cons,List.length_nil,Nat.zero_add,go_sem,reduceAdd,reduceLT]
    refine hK _ _ rfl ?_
    simp only [mwb,reduceAdd,reduceEqDiff]
    refine ex_if rfl (fun hc44 => ?_) (fun hc44 => ?_)
    ·exact absurd hc44 (by simp)
    ·refine ex_skip ?_
     show Go.Eng.Ex _ _ _ _ _ _
     refine ex_last_region_w tt_ok 51 (0::0::0::0::0::0::0::2::(rp 37 0 [2,2,2,2])) [] (by kernel_rfl) rfl rfl fun K hK => ?_
     try simp only [ltb]
     simp only [hbd,hRm,List.length_append,List.length_cons,List.length_nil,Nat.zero_add,go_sem,reduceAdd,reduceLT,reduceLeDiff,reduceMul,reduceEqDiff]
     refine hK _ _ rfl ?_
     simp only [mwb,reduceAdd,reduceEqDiff]
     show Go.Eng.Ex _ _ _ _ _ _
     refine ex_last_region_w tt_ok 51 (rp 32 0 (2::(rp 16 0 [2]))) [] (by kernel_rfl) rfl rfl fun K hK => ?_
     try simp only [ltb]
     simp only [hw,List.length_cons,List.length_nil,Nat.zero_add,go_sem,reduceAdd,reduceLT]
     refine hK _ _ rfl ?_
     simp only [mwb,reduceAdd,reduceEqDiff]
     refine ⟨(i + 1, R ++ [r]), ?_, ?_, 4, (false::false::true::false::false::false::false::true::(rp 22 false [true,true,true])), by omega, by simp only [maskFr,belowV,reduceLT,mkb], by simp only [ltb,gK_below,gP_below,List.all_cons,List.all_nil,belowV,bB_box,bB_map,bB_rows,reduceLT,decide_true,Bool.and_self], by (simp only [List.map_append,List.map_cons,List.map_nil,encRl,rlCells,encRqs,maskFr,mkb])⟩
     ·exact ⟨hlt, selM_take hR hx hf, by dsimp only; rw [List.length_append, hRl]; rfl⟩
     ·dsimp only; omega
  ·have hge2 : ¬ i < s.length := by simpa using hc33
   have hil : i = s.length := by omega
   subst hil
   rw [List.take_length] at hR
   have hV : slcV l s = .tup [.slice (R.map encRl), num 0] := by unfold slcV; rw [if_pos hinc, hR]
   refine ex_frz (v' := .slice (R.map encRl)) 7 rfl (by simp [pur1, purCell, hRl, List.take_of_length_le]) ?_
   simp only [ref1,refCell,frzAll,frz1,List.foldl_cons,List.foldl_nil,List.getElem?_cons_succ,List.getElem?_cons_zero,if_true,List.set_cons_zero,List.set_cons_succ]
   refine ex_exit ?_
   show Go.Eng.Ex _ _ _ _ _ _
   refine ex_region_w tt_ok 51 (0::0::0::0::2::2::(rp 44 0 [1])) [] rfl rfl fun K hK => ?_
   simp only [ltb,go_sem,reduceAdd,reduceLT]
   refine hK _ _ rfl ?_
   simp only [mwb,reduceAdd,reduceEqDiff]
   exact ex_ret ⟨.inl rfl, _, ⟨hV.symm, rfl⟩, rfl, by simp [belowV, belowL], by simp [bB_map, gK_below, gP_below]⟩
end Go.Proofs.YtnfeacnbgbggfaaGreatDoor
end
