/-
  MAPS with keys of one kind: what reading and writing come to, as lists of keys and values.
  MAPS OF NAMES: what the set of an interface's names comes to.
  CONTRACTS: the names of an interface, put into a map.
-/
import Derived.Test.YtcajnfkkokeeeaaGreatDoorG3
set_option linter.all false
section
namespace Go.Proofs.YtcajnfkkokeeeaaGreatDoor
open Go.Eng
variable [Glob]
section
variable {α : Type} [DecidableEq α]
def mkM (kv : α → Value) : Nat → List (α × V) → List (Value × Nat × V)
 | _, [] => []
 | n, (k, v) :: r => (kv k, n, v) :: mkM kv (n + 1) r
theorem mkM_length (kv : α → Value) : ∀ (g : List (α × V)) (n : Nat), (mkM kv n g).length = g.length
 | [], _ => rfl
 | _ :: r, n => by simp [mkM, mkM_length kv r (n + 1)]
theorem mkM_get (kv : α → Value) : ∀ (g : List (α × V)) (n i : Nat), (mkM kv n g)[i]? = g[i]?.map fun e => (kv e.1, n + i, e.2)
 | [], _, _ => rfl
 | e :: r, n, 0 => rfl
 | e :: r, n, i + 1 => by
  show (mkM kv (n + 1) r)[i]? = _
  rw [mkM_get kv r (n + 1) i, show n + 1 + i = n + (i + 1) by omega]; rfl
theorem mkM_snoc (kv : α → Value) (k : α) (v : V) : ∀ (g : List (α × V)) (n : Nat), mkM kv n (g ++ [(k, v)]) = mkM kv n g ++ [(kv k, n + g.length, v)]
 | [], _ => rfl
 | e :: r, n => by
  show (kv e.1, n, e.2) :: mkM kv (n + 1) (r ++ [(k, v)]) = (kv e.1, n, e.2) :: (mkM kv (n + 1) r ++ _)
  rw [mkM_snoc kv k v r (n + 1), List.length_cons, show n + 1 + r.length = n + (r.length + 1) by omega]
theorem mkM_set (kv : α → Value) (k : α) (v : V) : ∀ (g : List (α × V)) (n i : Nat), i < g.length → mkM kv n (g.set i (k, v)) = (mkM kv n g).set i (kv k, n + i, v)
 | [], _, _, h => by simp at h
 | e :: r, n, 0, _ => rfl
 | e :: r, n, i + 1, h => by
  show (kv e.1, n, e.2) :: mkM kv (n + 1) (r.set i (k, v)) = (kv e.1, n, e.2) :: (mkM kv (n + 1) r).set i _
  rw [mkM_set kv k v r (n + 1) i (by simpa using h), show n + 1 + i = n + (i + 1) by omega]
theorem mkM_all (kv : α → Value) (p : V → Bool) : ∀ (g : List (α × V)) (n : Nat), ((mkM kv n g).all fun e => p e.2.2) = g.all fun e => p e.2
 | [], _ => rfl
 | _ :: r, n => by simp [mkM, mkM_all kv p r (n + 1)]
def findM (a : α) : List (α × V) → Nat → Option (Nat × V)
 | [], _ => none
 | e :: r, i => if e.1 = a then some (i, e.2) else findM a r (i + 1)
def getM (a : α) : List (α × V) → Option V
 | [] => none
 | e :: r => if e.1 = a then some e.2 else getM a r
theorem findM_val (a : α) : ∀ (g : List (α × V)) (i : Nat), (findM a g i).map (·.2) = getM a g
 | [], _ => rfl
 | e :: r, i => by
  unfold findM getM
  split
  ·rfl
  ·exact findM_val a r (i + 1)
theorem findM_at {a : α} : ∀ {g : List (α × V)} {n i : Nat} {v : V}, findM a g n = some (i, v) → n ≤ i ∧ g[i - n]? = some (a, v)
 | [], _, _, _, h => by simp [findM] at h
 | e :: r, n, i, v, h => by
  unfold findM at h
  split at h
  ·rename_i he; cases h; subst he; simp
  ·obtain ⟨h1, h2⟩ := findM_at h
   refine ⟨by omega, ?_⟩
   rw [show i - n = (i - (n + 1)) + 1 by omega]; simpa using h2
structure KT (P : Program) (T kt et : TypeId) (kv : α → Value) (ky : α → V) : Prop where
 map : mapDesc P T = some (kt, et)
 val : ∀ a, toVal (ky a) = some (kv a)
 ok : ∀ a, keyOk P kt (kv a) = true
 bits : ∀ a, Instr.sameBits 10000 (kv a) (kv a) = true
 find : ∀ (a : α) (g : List (α × V)), findV P kt (kv a) (mkM kv 0 g) = some (findM a g 0)
theorem KT.now {P : Program} {kt : TypeId} {kv : α → Value} {d : TypeDesc} (hd : P.underlying kt = some d) (h : ∀ a b, Instr.sameNow d (kv a) (kv b) = some (decide (b = a))) (a : α) (g : List (α × V)) : findV P kt (kv a) (mkM kv 0 g) = some (findM a g 0) := by
 have key : ∀ (g : List (α × V)) (n i : Nat), findNowV d (kv a) (mkM kv n g) i = some (findM a g i) := by
  intro g
  induction g with
  | nil => intro n i; rfl
  | cons e r ih =>
   intro n i
   obtain ⟨k, v⟩ := e
   simp only [mkM,findNowV,findM,h]
   by_cases hk : k = a
   ·simp [hk]
   ·rw [decide_eq_false hk, if_neg hk]; exact ih _ _
 unfold findV
 rw [hd]
 dsimp only
 rw [key]
section
variable {P : Program} {T kt et : TypeId} {kv : α → Value} {ky : α → V}
def putM (a : α) (v : V) (g : List (α × V)) : List (α × V) := match findM a g 0 with
 | none => g ++ [(a, v)]
 | some (i, _) => g.set i (a, v)
theorem KT.put (h : KT P T kt et kv ky) (a : α) (v : V) (g : List (α × V)) {mem : List Blk} {b : Nat} (hm : mem[b]? = some (.map (mkM kv 0 g) g.length)) :
  insertV P mem T (.mp b) (ky a) v = some (mem.set b (.map (mkM kv 0 (putM a v g)) (putM a v g).length)) := by
 unfold insertV
 rw [h.map]
 dsimp only
 rw [h.val]
 dsimp only
 rw [if_pos (h.ok a), hm]
 dsimp only
 unfold insertAt
 rw [h.find]
 unfold putM
 cases hf : findM a g 0 with
 | none =>
  dsimp only
  rw [mkM_snoc, Nat.zero_add, List.length_append, List.length_singleton]
 | some p =>
  obtain ⟨i, w⟩ := p
  obtain ⟨-, h2⟩ := findM_at hf
  rw [Nat.sub_zero] at h2
  dsimp only
  rw [mkM_get, h2]
  dsimp only [Option.map_some]
  rw [if_pos (h.bits a)]
  dsimp only
  rw [mkM_set _ _ _ _ _ _ (List.getElem?_eq_some_iff.1 h2).1, List.length_set]
theorem KT.get (h : KT P T kt et kv ky) (a : α) (g : List (α × V)) {mem : List Blk} {b : Nat} (hm : mem[b]? = some (.map (mkM kv 0 g) g.length)) {z : V} (hz : zeroV P et = some z) (ok : Bool) :
  lookupV P mem T (.mp b) (ky a) ok = some (okV ok (getM a g).isSome ((getM a g).getD z)) := by
 unfold lookupV
 rw [h.map]
 dsimp only
 rw [h.val]
 dsimp only
 rw [if_pos (h.ok a)]
 unfold lookupIn
 dsimp only
 rw [hm]
 dsimp only
 rw [h.find, ← findM_val a g 0]
 cases hf : findM a g 0 with
 | none => dsimp only; rw [hz]; rfl
 | some p => rfl
end
end
end Go.Proofs.YtcajnfkkokeeeaaGreatDoor
end

section
namespace Go.Proofs.YtcajnfkkokeeeaaGreatDoor
open Go.Eng
variable [Glob]
set_option maxHeartbeats 4000000
set_option maxRecDepth 100000
def strVal (s : ByteArray) : Value := .string s
theorem ktStr {T et : TypeId} (h : mapDesc Tryz.prog T = some (9, et)) : KT Tryz.prog T 9 et strVal str :=
 ⟨h, fun _ => rfl, fun a => by unfold keyOk; rw [Tryz.underlying9], fun a => (baBeq_iff a a).2 rfl,
  KT.now Tryz.underlying9 fun a b => by
   show some (a == b) = some (decide (b = a))
   congr 1
   rw [Bool.eq_iff_iff, baBeq_iff, decide_eq_true_eq]
   exact ⟨fun h => h.symm, fun h => h.symm⟩⟩
theorem map109 : mapDesc Tryz.prog 109 = some (9, 4) := by kernel_rfl
theorem kt109 : KT Tryz.prog 109 9 4 strVal str := ktStr map109
abbrev GN := List (ByteArray × V)
def addN (g : GN) (x : ByteArray) : GN := putM x (bl true) g
def addAll (g : GN) (l : List ByteArray) : GN := l.foldl addN g
theorem add_put (g : GN) (x : ByteArray) {mem : List Blk} {b : Nat} (hm : mem[b]? = some (.map (mkM strVal 0 g) g.length)) : insertV Tryz.prog mem 109 (.mp b) (str x) (bl true) = some (mem.set b (.map (mkM strVal 0 (addN g x)) (addN g x).length)) := kt109.put x (bl true) g hm
structure NG (g : GN) : Prop where
 vals : ∀ e ∈ g, e.2 = bl true
 nodup : (g.map fun e => e.1).Nodup
theorem findM_none {a : ByteArray} : ∀ {g : GN} {n : Nat}, findM a g n = none → ∀ e ∈ g, e.1 ≠ a
 | [], _, _, e, he => by cases he
 | c :: r, n, h, e, he => by
  unfold findM at h
  split at h
  ·cases h
  ·rename_i hne
   rcases List.mem_cons.1 he with rfl | he
   ·exact hne
   ·exact findM_none h e he
theorem NG.nil : NG [] := ⟨fun e he => (by cases he), List.nodup_nil⟩
theorem set_keys {g : GN} {i : Nat} {x : ByteArray} {v w : V} (h : g[i]? = some (x, v)) : (g.set i (x, w)).map (fun e => e.1) = g.map fun e => e.1 := by
 rw [List.map_set]
 apply List.ext_getElem?
 intro j
 rw [List.getElem?_set]
 split
 ·rename_i hij; subst hij
  have hlt := (List.getElem?_eq_some_iff.1 h).1
  rw [if_pos (by simpa using hlt), List.getElem?_map, h]; rfl
 ·rfl
theorem NG.add {g : GN} (h : NG g) (x : ByteArray) : NG (addN g x) ∧ (∀ k, k ∈ (addN g x).map (fun e => e.1) ↔ k = x ∨ k ∈ g.map fun e => e.1) ∧ (addN g x).length ≤ g.length + 1 := by
 unfold addN putM
 cases hf : findM x g 0 with
 | none =>
  dsimp only
  refine ⟨⟨fun e he => ?_, ?_⟩, fun k => ?_, by simp⟩
  ·rcases List.mem_append.1 he with he | he
   ·exact h.vals e he
   ·rw [List.mem_singleton] at he; subst he; rfl
  ·rw [List.map_append, List.nodup_append]
   refine ⟨h.nodup, by simp, fun a ha b hb => ?_⟩
   obtain ⟨e, he, rfl⟩ := List.mem_map.1 ha
   simp only [List.map_cons,List.map_nil,List.mem_singleton] at hb; subst hb
   exact findM_none hf e he
  ·rw [List.map_append, List.mem_append]
   simp only [List.map_cons,List.map_nil,List.mem_singleton]
   exact Or.comm
 | some p =>
  obtain ⟨i, v⟩ := p
  obtain ⟨-, h2⟩ := findM_at hf
  rw [Nat.sub_zero] at h2
  dsimp only
  refine ⟨⟨fun e he => ?_, ?_⟩, fun k => ?_, by simp⟩
  ·rcases List.mem_or_eq_of_mem_set he with he | rfl
   ·exact h.vals e he
   ·rfl
  ·rw [set_keys h2]; exact h.nodup
  ·rw [set_keys h2]
   constructor
   ·exact .inr
   ·rintro (rfl | h)
    ·exact List.mem_map.2 ⟨_, List.mem_of_getElem? h2, rfl⟩
    ·exact h
theorem NG.addAll : ∀ {l : List ByteArray} {g : GN}, NG g → NG (addAll g l) ∧ (∀ k, k ∈ (addAll g l).map (fun e => e.1) ↔ k ∈ l ∨ k ∈ g.map fun e => e.1) ∧ (addAll g l).length ≤ g.length + l.length
 | [], g, h => ⟨h, fun k => ⟨.inr, fun h => h.resolve_left (by simp)⟩, by simp [Go.Proofs.YtcajnfkkokeeeaaGreatDoor.addAll]⟩
 | x :: l, g, h => by
  obtain ⟨h1, h2, h3⟩ := h.add x
  obtain ⟨h4, h5, h6⟩ := NG.addAll (l := l) h1
  refine ⟨h4, fun k => ?_, by have : Go.Proofs.YtcajnfkkokeeeaaGreatDoor.addAll g (x :: l) = Go.Proofs.YtcajnfkkokeeeaaGreatDoor.addAll (addN g x) l := rfl; rw [this, List.length_cons]; omega⟩
  have : Go.Proofs.YtcajnfkkokeeeaaGreatDoor.addAll g (x :: l) = Go.Proofs.YtcajnfkkokeeeaaGreatDoor.addAll (addN g x) l := rfl
  rw [this, h5 k, h2 k, List.mem_cons]
  constructor
  ·rintro (h | h | h)
   ·exact .inl (.inr h)
   ·exact .inl (.inl h)
   ·exact .inr h
  ·rintro ((h | h) | h)
   ·exact .inr (.inl h)
   ·exact .inl h
   ·exact .inr (.inr h)
theorem addAll_take {α : Type} (f : α → ByteArray) (g : GN) {l : List α} {i : Nat} {x : α} (h : l[i]? = some x) : addAll g ((l.take (i + 1)).map f) = addN (addAll g ((l.take i).map f)) (f x) := by
 unfold addAll
 rw [List.take_add_one, h, List.map_append, List.foldl_append]; rfl
theorem renB_add (σ : Nat → Nat) {g : GN} (h : NG g) (c : Nat) : renB σ (.map (mkM strVal 0 g) c) = .map (mkM strVal 0 g) c := by
 have key : ∀ (g : GN) (n : Nat), (∀ e ∈ g, e.2 = bl true) → (mkM strVal n g).map (fun e => (e.1, e.2.1, renV σ e.2.2)) = mkM strVal n g := by
  intro g
  induction g with
  | nil => intro n _; rfl
  | cons e r ih =>
   intro n h
   obtain ⟨k, v⟩ := e
   obtain rfl : v = bl true := h _ (List.mem_cons_self ..)
   simp only [mkM,List.map_cons,ih (n + 1) fun e he => h e (List.mem_cons_of_mem _ he)]
   rfl
 simp only [renB]
 rw [key g 0 h.vals]
theorem NG.below {g : GN} (h : NG g) (n : Nat) : ((mkM strVal 0 g).all fun e => belowV n e.2.2) = true := by
 rw [mkM_all strVal (belowV n), List.all_eq_true]
 intro e he
 rw [h.vals e he]; rfl
def NGood (s : List (Value × Nat × V) × Nat) : Prop :=
 (∀ e ∈ s.1, (∃ a : ByteArray, e.1 = .string a ∧ a.size ≤ 1048576) ∧ e.2.2 = bl true ∧ e.2.1 < s.2) ∧ (s.1.map fun e => e.2.1).Nodup ∧ (s.1.map fun e => e.1).Nodup
theorem NG.good {g : GN} (h : NG g) (hs : ∀ e ∈ g, e.1.size ≤ 1048576) : NGood (mkM strVal 0 g, g.length) := by
 refine ⟨fun e he => ?_, ?_, ?_⟩
 ·obtain ⟨i, hi⟩ := List.mem_iff_getElem?.1 he
  rw [mkM_get] at hi
  obtain ⟨x, hx, rfl⟩ := Option.map_eq_some_iff.1 hi
  have hm := List.mem_of_getElem? hx
  exact ⟨⟨x.1, rfl, hs x hm⟩, h.vals x hm, by have := (List.getElem?_eq_some_iff.1 hx).1; dsimp only; omega⟩
 ·have : ∀ (g : GN) (n : Nat), (mkM strVal n g).map (fun e => e.2.1) = List.range' n g.length := by
   intro g
   induction g with
   | nil => intro n; rfl
   | cons e r ih => intro n; simp only [mkM,List.map_cons,ih,List.length_cons,List.range'_succ]
  dsimp only
  rw [this]; exact List.nodup_range'
 ·have : ∀ (g : GN) (n : Nat), (mkM strVal n g).map (fun e => e.1) = (g.map fun e => e.1).map strVal := by
   intro g
   induction g with
   | nil => intro n; rfl
   | cons e r ih => intro n; simp only [mkM,List.map_cons,ih]
  dsimp only
  rw [this]
  exact List.pairwise_map.2 (h.nodup.imp fun hne he => hne (by unfold strVal at he; injection he))
def keyB (e : Value × Nat × V) : List UInt8 := match e.1 with
 | .string a => a.data.toList
 | _ => []
def sortedN (s : List (Value × Nat × V)) : List ByteArray := ((s.map keyB).mergeSort (fun x y => decide (x ≤ y))).map fun l => (⟨l.toArray⟩ : ByteArray)
theorem sortedN_length (s : List (Value × Nat × V)) : (sortedN s).length = s.length := by simp [sortedN]
theorem sortedN_mem {s : List (Value × Nat × V) × Nat} (h : NGood s) (k : ByteArray) : k ∈ sortedN s.1 ↔ ∃ e ∈ s.1, e.1 = .string k := by
 unfold sortedN
 rw [List.mem_map]
 constructor
 ·rintro ⟨l, hl, rfl⟩
  rw [List.mem_mergeSort] at hl
  obtain ⟨e, he, rfl⟩ := List.mem_map.1 hl
  obtain ⟨⟨a, ha, -⟩, -, -⟩ := h.1 e he
  refine ⟨e, he, ?_⟩
  rw [ha]; unfold keyB; rw [ha]
 ·rintro ⟨e, he, hk⟩
  refine ⟨k.data.toList, ?_, by cases k; rfl⟩
  rw [List.mem_mergeSort]
  exact List.mem_map.2 ⟨e, he, by unfold keyB; rw [hk]⟩
theorem sortedN_asc {s : List (Value × Nat × V) × Nat} (h : NGood s) : Asc ltB (sortedN s.1) := by
 have hn : (s.1.map keyB).Nodup := by
  have e : s.1.map (fun e => e.1) = (s.1.map keyB).map fun l => Value.string ⟨l.toArray⟩ := by
   rw [List.map_map]
   refine List.map_congr_left fun e he => ?_
   obtain ⟨⟨a, ha, -⟩, -⟩ := h.1 e he
   simp only [Function.comp,keyB,ha]
  have h3 := h.2.2
  rw [e] at h3
  exact (List.pairwise_map.1 h3).imp fun hne he => hne (by rw [he])
 have tr : ∀ a b c : List UInt8, decide (a ≤ b) = true → decide (b ≤ c) = true → decide (a ≤ c) = true := fun a b c h1 h2 => by simp only [decide_eq_true_eq] at *; exact List.le_trans h1 h2
 have to : ∀ a b : List UInt8, (decide (a ≤ b) || decide (b ≤ a)) = true := fun a b => by simp only [Bool.or_eq_true,decide_eq_true_eq]; exact List.le_total a b
 have h1 := List.pairwise_mergeSort tr to (s.1.map keyB)
 have h2 : ((s.1.map keyB).mergeSort (fun x y => decide (x ≤ y))).Nodup := (List.mergeSort_perm _ _).nodup_iff.2 hn
 unfold sortedN Asc
 rw [List.pairwise_map]
 refine (h1.and h2).imp fun {a b} h => ?_
 simp only [decide_eq_true_eq] at h
 rw [ltB_eq]
 refine decide_eq_true ?_
 rcases Classical.em (a < b) with hlt | hlt
 ·exact hlt
 ·exact absurd (List.le_antisymm h.1 (List.not_lt.1 hlt)) h.2
def expT' (I : Ify) : GN := addAll [] (I.types.map Te.name)
def expV' (I : Ify) : GN := addAll (expT' I) (I.vals.map Ve.name)
def expM (I : Ify) : GN := addAll (expV' I) (I.als.map Al.name)
theorem expT'_ng (I : Ify) : NG (expT' I) := (NG.nil.addAll).1
theorem expV'_ng (I : Ify) : NG (expV' I) := ((expT'_ng I).addAll).1
theorem expM_ng (I : Ify) : NG (expM I) := ((expV'_ng I).addAll).1
def IfN (I : Ify) : Prop := (∀ e ∈ I.types, e.name.size ≤ 1048576) ∧ (∀ e ∈ I.vals, e.name.size ≤ 1048576) ∧ ∀ e ∈ I.als, e.name.size ≤ 1048576
theorem expM_keys (I : Ify) (k : ByteArray) : k ∈ (expM I).map (fun e => e.1) ↔ k ∈ I.als.map Al.name ∨ k ∈ I.vals.map Ve.name ∨ k ∈ I.types.map Te.name := by
 unfold expM
 rw [((expV'_ng I).addAll (l := I.als.map Al.name)).2.1 k]
 unfold expV'
 rw [((expT'_ng I).addAll (l := I.vals.map Ve.name)).2.1 k]
 unfold expT'
 rw [(NG.nil.addAll (l := I.types.map Te.name)).2.1 k]
 simp
theorem expM_length (I : Ify) : (expM I).length ≤ I.types.length + I.vals.length + I.als.length := by
 have h1 := ((expV'_ng I).addAll (l := I.als.map Al.name)).2.2
 have h2 := ((expT'_ng I).addAll (l := I.vals.map Ve.name)).2.2
 have h3 := (NG.nil.addAll (l := I.types.map Te.name)).2.2
 unfold expM
 simp only [List.length_map,List.length_nil] at h1 h2 h3
 unfold expV' expT' at *
 omega
theorem expM_good {I : Ify} (h : IfN I) : NGood (mkM strVal 0 (expM I), (expM I).length) := (expM_ng I).good fun e he => by
 rcases (expM_keys I e.1).1 (List.mem_map.2 ⟨e, he, rfl⟩) with h1 | h1 | h1
 ·obtain ⟨x, hx, hn⟩ := List.mem_map.1 h1; rw [← hn]; exact h.2.2 x hx
 ·obtain ⟨x, hx, hn⟩ := List.mem_map.1 h1; rw [← hn]; exact h.2.1 x hx
 ·obtain ⟨x, hx, hn⟩ := List.mem_map.1 h1; rw [← hn]; exact h.1 x hx
theorem exp_eq {I : Ify} (h : IfN I) : sortedN (mkM strVal 0 (expM I)) = expR I := by
 refine Asc.ext lin_str (sortedN_asc (expM_good h)) (insAll_asc lin_str (insAll_asc lin_str (insAll_asc lin_str List.Pairwise.nil))) fun x => ?_
 rw [sortedN_mem (expM_good h)]
 have hk : (∃ e ∈ mkM strVal 0 (expM I), e.1 = .string x) ↔ x ∈ (expM I).map fun e => e.1 := by
  constructor
  ·rintro ⟨e, he, hx⟩
   obtain ⟨i, hi⟩ := List.mem_iff_getElem?.1 he
   rw [mkM_get] at hi
   obtain ⟨y, hy, rfl⟩ := Option.map_eq_some_iff.1 hi
   dsimp only [strVal] at hx
   injection hx with hx
   exact List.mem_map.2 ⟨y, List.mem_of_getElem? hy, hx⟩
  ·intro hx
   obtain ⟨y, hy, rfl⟩ := List.mem_map.1 hx
   obtain ⟨i, hi⟩ := List.mem_iff_getElem?.1 hy
   exact ⟨_, List.mem_of_getElem? (by rw [mkM_get, hi]; rfl), rfl⟩
 dsimp only
 rw [hk, expM_keys]
 unfold expR expV expT
 rw [insAll_mem, insAll_mem, insAll_mem]
 constructor
 ·rintro (h | h | h)
  ·exact .inr h
  ·exact .inl (.inr h)
  ·exact .inl (.inl (.inr h))
 ·rintro (((h | h) | h) | h)
  ·cases h
  ·exact .inr (.inr h)
  ·exact .inr (.inl h)
  ·exact .inl h
end Go.Proofs.YtcajnfkkokeeeaaGreatDoor
end

section
namespace Go.Proofs.YtcajnfkkokeeeaaGreatDoor
open Go.Eng
open Nat renaming reduceAdd → zA, reduceLT → zB, reduceLeDiff → zC, reduceMul → zD, reduceEqDiff → zE, reduceSub → zF
variable [Glob]
set_option maxHeartbeats 4000000
set_option maxRecDepth 100000
def σ2 (k k2 n j : Nat) : Nat := if j = 0 then k else if j = 1 then k2 else n + (j - 2)
theorem fnOkS_at2' {P : Program} {f : FuncId} {vs : List V} {r : V} {B0 B1 B0' : Blk} (h : FnOkS P f vs [B0, B1] r [B0', B1]) (M : List Blk) (k k2 : Nat) (hv : vs.all (belowV 2) = true) (hm : [B0, B1].all (belowB 2) = true) (hr : belowV 2 r = true) (hm' : [B0', B1].all (belowB 2) = true)
  (hk : M[k]? = some (renB (σ2 k k2 M.length) B0)) (hk2 : M[k2]? = some (renB (σ2 k k2 M.length) B1)) (hne : k ≠ k2) :
  FnOkS P f (renL (σ2 k k2 M.length) vs) M (renV (σ2 k k2 M.length) r) (M.set k (renB (σ2 k k2 M.length) B0')) := by
 have h3 := h.ren M (σ2 k k2 M.length) 2 rfl hv hm hr hm' (by simp) (fun i B hi => by
  match i with
  | 0 => simp at hi; subst hi; exact hk
  | 1 => simp at hi; subst hi; exact hk2
  | i + 2 => simp at hi) (fun i j hi hj he => by
  match i, j with
  | 0, 0 => rfl
  | 1, 1 => rfl
  | 0, 1 => exact absurd (by simpa [σ2] using he) hne
  | 1, 0 => exact absurd (by simpa [σ2] using he.symm) hne
  | i + 2, _ => omega
  | _, j + 2 => omega) (fun j hj => by unfold σ2; rw [if_neg (by omega), if_neg (by omega)])
 have hM : putR (σ2 k k2 M.length) 2 [B0', B1] M = M.set k (renB (σ2 k k2 M.length) B0') := by
  unfold putR
  simp only [ltb,List.map_nil,List.append_nil,setAll]
  show (M.set k (renB _ B0')).set k2 (renB _ B1) = _
  exact set_same (by rw [List.getElem?_set_ne hne]; exact hk2)
 rwa [hM] at h3
theorem allT_ng (l : List ByteArray) : NG (addAll [] l) := (NG.nil.addAll).1
theorem allV_ng (I : Ify) (l : List ByteArray) : NG (addAll (expT' I) l) := ((expT'_ng I).addAll).1
theorem allA_ng (I : Ify) (l : List ByteArray) : NG (addAll (expV' I) l) := ((expV'_ng I).addAll).1
theorem allT_b (l : List ByteArray) (n : Nat) : ((mkM strVal 0 (addAll [] l)).all fun e => belowV n e.2.2) = true := (allT_ng l).below n
theorem allV_b (I : Ify) (l : List ByteArray) (n : Nat) : ((mkM strVal 0 (addAll (expT' I) l)).all fun e => belowV n e.2.2) = true := (allV_ng I l).below n
theorem allA_b (I : Ify) (l : List ByteArray) (n : Nat) : ((mkM strVal 0 (addAll (expV' I) l)).all fun e => belowV n e.2.2) = true := (allA_ng I l).below n
theorem addT_b (l : List ByteArray) (x : ByteArray) (n : Nat) : ((mkM strVal 0 (addN (addAll [] l) x)).all fun e => belowV n e.2.2) = true := ((allT_ng l).add x).1.below n
theorem addV_b (I : Ify) (l : List ByteArray) (x : ByteArray) (n : Nat) : ((mkM strVal 0 (addN (addAll (expT' I) l) x)).all fun e => belowV n e.2.2) = true := ((allV_ng I l).add x).1.below n
theorem addA_b (I : Ify) (l : List ByteArray) (x : ByteArray) (n : Nat) : ((mkM strVal 0 (addN (addAll (expV' I) l) x)).all fun e => belowV n e.2.2) = true := ((allA_ng I l).add x).1.below n
theorem expT_b (I : Ify) (n : Nat) : ((mkM strVal 0 (expT' I)).all fun e => belowV n e.2.2) = true := (expT'_ng I).below n
theorem expV_b (I : Ify) (n : Nat) : ((mkM strVal 0 (expV' I)).all fun e => belowV n e.2.2) = true := (expV'_ng I).below n
theorem expM_b (I : Ify) (n : Nat) : ((mkM strVal 0 (expM I)).all fun e => belowV n e.2.2) = true := (expM_ng I).below n
theorem add_ok0 {g : GN} (hg : NG g) (x : ByteArray) : ∃ r_ m_, (fun r m => r = .tup [] ∧ m = [.map (mkM strVal 0 (addN g x)) (addN g x).length, .box [.mp 0]]) r_ m_ ∧ FnOkS Tryz.prog 40 [str x, .ptr 1 0] ([.map (mkM strVal 0 g) g.length, .box [.mp 0]]) r_ m_ := by
 refine vfw tt_ok [] 5 [] (2) (by simp) (fn := Tryz.f40) Tryz.func40 rfl Tryz.call40 ⟨rfl, rfl, by simp⟩ fun K hK => ?_
 have hb1 := hg.below 2
 have hb2 := (hg.add x).1.below 2
 have hput := fun B1 => add_put g x (mem := [.map (mkM strVal 0 g) g.length, B1]) (b := 0) rfl
 simp only [hb1,hb2,hput,go_sem,reduceIte,zA,zB,zC,zD,zE,zF,reduceCtorEq]
 exact hK _ _ ⟨rfl, rfl⟩
theorem add_at {g : GN} (hg : NG g) (x : ByteArray) (M : List Blk) (h1 : M[1]? = some (.map (mkM strVal 0 g) g.length)) (h2 : M[2]? = some (.box [.mp 1])) :
  ∃ r_ m_, (fun r m => r = .tup [] ∧ m = M.set 1 (.map (mkM strVal 0 (addN g x)) (addN g x).length)) r_ m_ ∧ FnOkS Tryz.prog 40 [str x, .ptr 2 0] M r_ m_ := by
 obtain ⟨r, m, ⟨rfl, rfl⟩, h⟩ := add_ok0 hg x
 have hb : ∀ {g : GN}, NG g → ∀ n c, belowB n (.map (mkM strVal 0 g) c) = true := fun hg n c => hg.below n
 have h3 := fnOkS_at2' h M 1 2 (by simp [belowV]) (by simp [hb hg]; simp [belowB, belowV]) (by simp [belowV, belowL]) (by simp [hb (hg.add x).1]; simp [belowB, belowV]) (by rw [renB_add _ hg]; exact h1) (by simpa [renB, renL, renV, σ2] using h2) (by decide)
 rw [renB_add _ (hg.add x).1] at h3
 exact ⟨_, _, ⟨rfl, rfl⟩, by simpa [renL, renV, σ2] using h3⟩
theorem names_ok (I : Ify) (hb : I.types.length + I.vals.length + I.als.length ≤ 1048576) : ∃ r_ m_, (fun r m => r = .tup [] ∧ m = [.box [str I.path, .slice (I.types.map encTe), .slice (I.vals.map encVe), .slice (I.als.map encAl), .slice (I.deps.map encDp)], .map (mkM strVal 0 (expM I)) (expM I).length, .box [.mp 1]]) r_ m_ ∧ FnOkS Tryz.prog 39 [.agg [str I.path, .slice (I.types.map encTe), .slice (I.vals.map encVe), .slice (I.als.map encAl), .slice (I.deps.map encDp)], .clo (.func 40) [] [.ptr 2 0]] ([.box [str I.path, .slice (I.types.map encTe), .slice (I.vals.map encVe), .slice (I.als.map encAl), .slice (I.deps.map encDp)], .map (mkM strVal 0 (([] : GN))) (([] : GN)).length, .box [.mp 1]]) r_ m_ := by
 refine vfw tt_ok [] 46 [] (3) (by simp) (fn := Tryz.f39) Tryz.func39 rfl Tryz.call39 ⟨rfl, rfl, by simp⟩ fun K hK => ?_
 simp only [addT_b,addV_b,addA_b,allT_b,allV_b,allA_b,expT_b,expV_b,expM_b,List.length_map,go_sem,reduceIte,zA,zB,zC,zD,zE,zF,reduceCtorEq]
 refine xloop tt_ok [] (fun i : Nat => [(1, .clo (.func 40) [] [.ptr 2 0]), (2, .ptr 3 0), (11, .slice (I.types.map encTe)), (12, num I.types.length), (13, num i)]) (fun i : Nat => [.box [str I.path, .slice (I.types.map encTe), .slice (I.vals.map encVe), .slice (I.als.map encAl), .slice (I.deps.map encDp)], .map (mkM strVal 0 (addAll [] ((I.types.take i).map Te.name))) (addAll [] ((I.types.take i).map Te.name)).length, .box [.mp 1], .box [str I.path, .slice (I.types.map encTe), .slice (I.vals.map encVe), .slice (I.als.map encAl), .slice (I.deps.map encDp)]]) (fun i => I.types.length - i) (fun i => i ≤ I.types.length) (0) 4 (lies (by omega) (by simp only [addT_b,addV_b,addA_b,allT_b,allV_b,allA_b,expT_b,expV_b,expM_b,List.length_map,List.take_zero,List.map_nil,addAll,List.foldl_nil,Int.cast_ofNat_Int,go_sem,reduceIte,zA,zB,zC,zD,zE,zF,reduceCtorEq] <;> rfl)) (Nat.zero_le _) ?_
 intro i hi
 have hw := i64_succ i
 intro Z1 hZ1
 simp only [addT_b,addV_b,addA_b,allT_b,allV_b,allA_b,expT_b,expV_b,expM_b,List.length_map,go_sem,reduceIte,zA,zB,zC,zD,zE,zF,reduceCtorEq]
 refine gif (fun hc14 => ?_) (fun hc14 => ?_)
 ·have hlt : i < I.types.length := by simpa using hc14
  have hw2 := i64_succ i (by omega)
  obtain ⟨x, hx⟩ : ∃ x, I.types[i]? = some x := ⟨_, List.getElem?_eq_getElem hlt⟩
  have hft := addAll_take Te.name [] hx
  obtain ⟨xn, xp, ⟨k1, m1, n1, a1, b1⟩, ⟨k2, m2, n2, a2, b2⟩⟩ := x
  dsimp only at hft
  simp only [addT_b,addV_b,addA_b,allT_b,allV_b,allA_b,expT_b,expV_b,expM_b,List.getElem?_map,hx,encTe,tyCells,List.cons_append,List.nil_append,List.length_map,go_sem,reduceIte,zA,zB,zC,zD,zE,zF,reduceCtorEq]
  refine cW (add_at (allT_ng _) xn _ rfl rfl) ?_
  rintro _ _ ⟨rfl, rfl⟩
  simp only [addT_b,addV_b,addA_b,allT_b,allV_b,allA_b,expT_b,expV_b,expM_b,List.getElem?_map,hx,encTe,tyCells,List.cons_append,List.nil_append,List.length_map,go_sem,reduceIte,zA,zB,zC,zD,zE,zF,reduceCtorEq]
  refine hZ1 _ ⟨i + 1, ?_, ?_, lies (by omega) (by (simp only [hft,hw2,addT_b,addV_b,addA_b,allT_b,allV_b,allA_b,expT_b,expV_b,expM_b,go_sem,reduceIte,zA,zB,zC,zD,zE,zF,reduceCtorEq]))⟩
  ·exact hlt
  ·omega
 ·have hge : i = I.types.length := by have := of_decide_eq_false hc14; omega
  rw [hge, List.take_length]
  have hT : addAll [] (I.types.map Te.name) = expT' I := rfl
  rw [hT]
  simp only [addT_b,addV_b,addA_b,allT_b,allV_b,allA_b,expT_b,expV_b,expM_b,List.length_map,go_sem,reduceIte,zA,zB,zC,zD,zE,zF,reduceCtorEq]
  refine xloop tt_ok [] (fun i : Nat => [(1, .clo (.func 40) [] [.ptr 2 0]), (2, .ptr 3 0), (23, .slice (I.vals.map encVe)), (24, num I.vals.length), (25, num i)]) (fun i : Nat => [.box [str I.path, .slice (I.types.map encTe), .slice (I.vals.map encVe), .slice (I.als.map encAl), .slice (I.deps.map encDp)], .map (mkM strVal 0 (addAll (expT' I) ((I.vals.take i).map Ve.name))) (addAll (expT' I) ((I.vals.take i).map Ve.name)).length, .box [.mp 1], .box [str I.path, .slice (I.types.map encTe), .slice (I.vals.map encVe), .slice (I.als.map encAl), .slice (I.deps.map encDp)]]) (fun i => I.vals.length - i) (fun i => i ≤ I.vals.length) (0) 4 (lies (by omega) (by simp only [addT_b,addV_b,addA_b,allT_b,allV_b,allA_b,expT_b,expV_b,expM_b,List.length_map,List.take_zero,List.map_nil,addAll,List.foldl_nil,Int.cast_ofNat_Int,go_sem,reduceIte,zA,zB,zC,zD,zE,zF,reduceCtorEq] <;> rfl)) (Nat.zero_le _) ?_
  intro i hi
  have hw := i64_succ i
  intro Z2 hZ2
  simp only [addT_b,addV_b,addA_b,allT_b,allV_b,allA_b,expT_b,expV_b,expM_b,List.length_map,go_sem,reduceIte,zA,zB,zC,zD,zE,zF,reduceCtorEq]
  refine gif (fun hc26 => ?_) (fun hc26 => ?_)
  ·have hlt : i < I.vals.length := by simpa using hc26
   have hw2 := i64_succ i (by omega)
   obtain ⟨x, hx⟩ : ∃ x, I.vals[i]? = some x := ⟨_, List.getElem?_eq_getElem hlt⟩
   have hft := addAll_take Ve.name (expT' I) hx
   obtain ⟨xn, xp, ⟨k1, m1, n1, a1, b1⟩⟩ := x
   dsimp only at hft
   simp only [addT_b,addV_b,addA_b,allT_b,allV_b,allA_b,expT_b,expV_b,expM_b,List.getElem?_map,hx,encVe,tyCells,List.cons_append,List.nil_append,List.length_map,go_sem,reduceIte,zA,zB,zC,zD,zE,zF,reduceCtorEq]
   refine cW (add_at (allV_ng I _) xn _ rfl rfl) ?_
   rintro _ _ ⟨rfl, rfl⟩
   simp only [addT_b,addV_b,addA_b,allT_b,allV_b,allA_b,expT_b,expV_b,expM_b,List.getElem?_map,hx,encVe,tyCells,List.cons_append,List.nil_append,List.length_map,go_sem,reduceIte,zA,zB,zC,zD,zE,zF,reduceCtorEq]
   refine hZ2 _ ⟨i + 1, ?_, ?_, lies (by omega) (by (simp only [hft,hw2,addT_b,addV_b,addA_b,allT_b,allV_b,allA_b,expT_b,expV_b,expM_b,go_sem,reduceIte,zA,zB,zC,zD,zE,zF,reduceCtorEq]))⟩
   ·exact hlt
   ·omega
  ·have hge : i = I.vals.length := by have := of_decide_eq_false hc26; omega
   rw [hge, List.take_length]
   have hT : addAll (expT' I) (I.vals.map Ve.name) = expV' I := rfl
   rw [hT]
   simp only [addT_b,addV_b,addA_b,allT_b,allV_b,allA_b,expT_b,expV_b,expM_b,List.length_map,go_sem,reduceIte,zA,zB,zC,zD,zE,zF,reduceCtorEq]
   refine xloop tt_ok [] (fun i : Nat => [(1, .clo (.func 40) [] [.ptr 2 0]), (2, .ptr 3 0), (35, .slice (I.als.map encAl)), (36, num I.als.length), (37, num i)]) (fun i : Nat => [.box [str I.path, .slice (I.types.map encTe), .slice (I.vals.map encVe), .slice (I.als.map encAl), .slice (I.deps.map encDp)], .map (mkM strVal 0 (addAll (expV' I) ((I.als.take i).map Al.name))) (addAll (expV' I) ((I.als.take i).map Al.name)).length, .box [.mp 1], .box [str I.path, .slice (I.types.map encTe), .slice (I.vals.map encVe), .slice (I.als.map encAl), .slice (I.deps.map encDp)]]) (fun i => I.als.length - i) (fun i => i ≤ I.als.length) (0) 4 (lies (by omega) (by simp only [addT_b,addV_b,addA_b,allT_b,allV_b,allA_b,expT_b,expV_b,expM_b,List.length_map,List.take_zero,List.map_nil,addAll,List.foldl_nil,Int.cast_ofNat_Int,go_sem,reduceIte,zA,zB,zC,zD,zE,zF,reduceCtorEq] <;> rfl)) (Nat.zero_le _) ?_
   intro i hi
   have hw := i64_succ i
   intro Z3 hZ3
   simp only [addT_b,addV_b,addA_b,allT_b,allV_b,allA_b,expT_b,expV_b,expM_b,List.length_map,go_sem,reduceIte,zA,zB,zC,zD,zE,zF,reduceCtorEq]
   refine gif (fun hc38 => ?_) (fun hc38 => ?_)
   ·have hlt : i < I.als.length := by simpa using hc38
    have hw2 := i64_succ i (by omega)
    obtain ⟨x, hx⟩ : ∃ x, I.als[i]? = some x := ⟨_, List.getElem?_eq_getElem hlt⟩
    have hft := addAll_take Al.name (expV' I) hx
    obtain ⟨xn, xm, xt⟩ := x
    dsimp only at hft
    simp only [addT_b,addV_b,addA_b,allT_b,allV_b,allA_b,expT_b,expV_b,expM_b,List.getElem?_map,hx,encAl,tyCells,List.cons_append,List.nil_append,List.length_map,go_sem,reduceIte,zA,zB,zC,zD,zE,zF,reduceCtorEq]
    refine cW (add_at (allA_ng I _) xn _ rfl rfl) ?_
    rintro _ _ ⟨rfl, rfl⟩
    simp only [addT_b,addV_b,addA_b,allT_b,allV_b,allA_b,expT_b,expV_b,expM_b,List.getElem?_map,hx,encAl,tyCells,List.cons_append,List.nil_append,List.length_map,go_sem,reduceIte,zA,zB,zC,zD,zE,zF,reduceCtorEq]
    refine hZ3 _ ⟨i + 1, ?_, ?_, lies (by omega) (by (simp only [hft,hw2,addT_b,addV_b,addA_b,allT_b,allV_b,allA_b,expT_b,expV_b,expM_b,go_sem,reduceIte,zA,zB,zC,zD,zE,zF,reduceCtorEq]))⟩
    ·exact hlt
    ·omega
   ·have hge : i = I.als.length := by have := of_decide_eq_false hc38; omega
    rw [hge, List.take_length]
    have hT : addAll (expV' I) (I.als.map Al.name) = expM I := rfl
    rw [hT]
    simp only [addT_b,addV_b,addA_b,allT_b,allV_b,allA_b,expT_b,expV_b,expM_b,List.length_map,go_sem,reduceIte,zA,zB,zC,zD,zE,zF,reduceCtorEq]
    exact hK _ _ ⟨rfl, rfl⟩
end Go.Proofs.YtcajnfkkokeeeaaGreatDoor
end
