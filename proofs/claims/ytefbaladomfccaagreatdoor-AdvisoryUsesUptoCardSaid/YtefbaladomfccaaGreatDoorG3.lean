/-
  MAPS with keys of one kind: what reading and writing come to, as lists of keys and values.
  USES: their equality, their order, as keys of maps; insertion in order.
  CONTRACTS: the declarations of a program, by their modules and names.
  CONTRACTS: where a name leads, by the program.
  CONTRACTS: the values that an expression uses, by the program: the iterator with its recursive closure, and Collect.
  CONTRACTS: a range over the values that an expression uses; AppendSeq, Collect.
-/
import Derived.Test.YtefbaladomfccaaGreatDoorG2
set_option linter.all false
section
namespace Go.Proofs.YtefbaladomfccaaGreatDoor
open Go.Eng
variable [Glob]
section
variable {α : Type} [DecidableEq α]
def mkM (kv : α → Value) : Nat → List (α × V) → List (Value × Nat × V)
 | _, [] => []
 | n, (k, v) :: r => (kv k, n, v) :: mkM kv (n + 1) r
theorem mkM_length (kv : α → Value) : ∀ (g : List (α × V)) (n : Nat), (mkM kv n g).length = g.length
 | [], _ => rfl
 | _ :: r, n => by simp [mkM, mkM_length kv r (n + 1)]
theorem mkM_get (kv : α → Value) : ∀ (g : List (α × V)) (n i : Nat), (mkM kv n g)[i]? = g[i]?.map fun e => (kv e.1, n + i, e.2)
 | [], _, _ => rfl
 | e :: r, n, 0 => rfl
 | e :: r, n, i + 1 => by
  show (mkM kv (n + 1) r)[i]? = _
  rw [mkM_get kv r (n + 1) i, show n + 1 + i = n + (i + 1) by omega]; rfl
theorem mkM_snoc (kv : α → Value) (k : α) (v : V) : ∀ (g : List (α × V)) (n : Nat), mkM kv n (g ++ [(k, v)]) = mkM kv n g ++ [(kv k, n + g.length, v)]
 | [], _ => rfl
 | e :: r, n => by
  show (kv e.1, n, e.2) :: mkM kv (n + 1) (r ++ [(k, v)]) = (kv e.1, n, e.2) :: (mkM kv (n + 1) r ++ _)
  rw [mkM_snoc kv k v r (n + 1), List.length_cons, show n + 1 + r.length = n + (r.length + 1) by omega]
theorem mkM_set (kv : α → Value) (k : α) (v : V) : ∀ (g : List (α × V)) (n i : Nat), i < g.length → mkM kv n (g.set i (k, v)) = (mkM kv n g).set i (kv k, n + i, v)
 | [], _, _, h => by simp at h
 | e :: r, n, 0, _ => rfl
 | e :: r, n, i + 1, h => by
  show (kv e.1, n, e.2) :: mkM kv (n + 1) (r.set i (k, v)) = (kv e.1, n, e.2) :: (mkM kv (n + 1) r).set i _
  rw [mkM_set kv k v r (n + 1) i (by simpa using h), show n + 1 + i = n + (i + 1) by omega]
theorem mkM_all (kv : α → Value) (p : V → Bool) : ∀ (g : List (α × V)) (n : Nat), ((mkM kv n g).all fun e => p e.2.2) = g.all fun e => p e.2
 | [], _ => rfl
 | _ :: r, n => by simp [mkM, mkM_all kv p r (n + 1)]
def findM (a : α) : List (α × V) → Nat → Option (Nat × V)
 | [], _ => none
 | e :: r, i => if e.1 = a then some (i, e.2) else findM a r (i + 1)
def getM (a : α) : List (α × V) → Option V
 | [] => none
 | e :: r => if e.1 = a then some e.2 else getM a r
theorem findM_val (a : α) : ∀ (g : List (α × V)) (i : Nat), (findM a g i).map (·.2) = getM a g
 | [], _ => rfl
 | e :: r, i => by
  unfold findM getM
  split
  ·rfl
  ·exact findM_val a r (i + 1)
theorem findM_at {a : α} : ∀ {g : List (α × V)} {n i : Nat} {v : V}, findM a g n = some (i, v) → n ≤ i ∧ g[i - n]? = some (a, v)
 | [], _, _, _, h => by simp [findM] at h
 | e :: r, n, i, v, h => by
  unfold findM at h
  split at h
  ·rename_i he; cases h; subst he; simp
  ·obtain ⟨h1, h2⟩ := findM_at h
   refine ⟨by omega, ?_⟩
   rw [show i - n = (i - (n + 1)) + 1 by omega]; simpa using h2
structure KT (P : Program) (T kt et : TypeId) (kv : α → Value) (ky : α → V) : Prop where
 map : mapDesc P T = some (kt, et)
 val : ∀ a, toVal (ky a) = some (kv a)
 ok : ∀ a, keyOk P kt (kv a) = true
 bits : ∀ a, Instr.sameBits 10000 (kv a) (kv a) = true
 find : ∀ (a : α) (g : List (α × V)), findV P kt (kv a) (mkM kv 0 g) = some (findM a g 0)
theorem KT.now {P : Program} {kt : TypeId} {kv : α → Value} {d : TypeDesc} (hd : P.underlying kt = some d) (h : ∀ a b, Instr.sameNow d (kv a) (kv b) = some (decide (b = a))) (a : α) (g : List (α × V)) : findV P kt (kv a) (mkM kv 0 g) = some (findM a g 0) := by
 have key : ∀ (g : List (α × V)) (n i : Nat), findNowV d (kv a) (mkM kv n g) i = some (findM a g i) := by
  intro g
  induction g with
  | nil => intro n i; rfl
  | cons e r ih =>
   intro n i
   obtain ⟨k, v⟩ := e
   simp only [mkM,findNowV,findM,h]
   by_cases hk : k = a
   ·simp [hk]
   ·rw [decide_eq_false hk, if_neg hk]; exact ih _ _
 unfold findV
 rw [hd]
 dsimp only
 rw [key]
theorem KT.ask {P : Program} {kt : TypeId} {kv : α → Value} {d : TypeDesc} (hd : P.underlying kt = some d) (h0 : ∀ a b, Instr.sameNow d (kv a) (kv b) = none) (h : ∀ a b, scRunP P (Op.equal kt (kv a) (kv b)) = some (decide (a = b))) (a : α) (g : List (α × V)) : findV P kt (kv a) (mkM kv 0 g) = some (findM a g 0) := by
 have key : ∀ (g : List (α × V)) (n i : Nat), findAskV P kt (kv a) (mkM kv n g) i = some (findM a g i) := by
  intro g
  induction g with
  | nil => intro n i; rfl
  | cons e r ih =>
   intro n i
   obtain ⟨k, v⟩ := e
   simp only [mkM,findAskV,findM,h]
   by_cases hk : k = a
   ·simp [hk]
   ·rw [decide_eq_false (fun e => hk e.symm), if_neg hk]; exact ih _ _
 unfold findV
 rw [hd]
 dsimp only
 cases g with
 | nil => rfl
 | cons e r =>
  have : findNowV d (kv a) (mkM kv 0 (e :: r)) 0 = none := by
   obtain ⟨k, v⟩ := e
   simp only [mkM,findNowV,h0]
  rw [this]
  dsimp only
  exact key _ _ _
section
variable {P : Program} {T kt et : TypeId} {kv : α → Value} {ky : α → V}
def putM (a : α) (v : V) (g : List (α × V)) : List (α × V) := match findM a g 0 with
 | none => g ++ [(a, v)]
 | some (i, _) => g.set i (a, v)
theorem KT.put (h : KT P T kt et kv ky) (a : α) (v : V) (g : List (α × V)) {mem : List Blk} {b : Nat} (hm : mem[b]? = some (.map (mkM kv 0 g) g.length)) :
  insertV P mem T (.mp b) (ky a) v = some (mem.set b (.map (mkM kv 0 (putM a v g)) (putM a v g).length)) := by
 unfold insertV
 rw [h.map]
 dsimp only
 rw [h.val]
 dsimp only
 rw [if_pos (h.ok a), hm]
 dsimp only
 unfold insertAt
 rw [h.find]
 unfold putM
 cases hf : findM a g 0 with
 | none =>
  dsimp only
  rw [mkM_snoc, Nat.zero_add, List.length_append, List.length_singleton]
 | some p =>
  obtain ⟨i, w⟩ := p
  obtain ⟨-, h2⟩ := findM_at hf
  rw [Nat.sub_zero] at h2
  dsimp only
  rw [mkM_get, h2]
  dsimp only [Option.map_some]
  rw [if_pos (h.bits a)]
  dsimp only
  rw [mkM_set _ _ _ _ _ _ (List.getElem?_eq_some_iff.1 h2).1, List.length_set]
theorem KT.get (h : KT P T kt et kv ky) (a : α) (g : List (α × V)) {mem : List Blk} {b : Nat} (hm : mem[b]? = some (.map (mkM kv 0 g) g.length)) {z : V} (hz : zeroV P et = some z) (ok : Bool) :
  lookupV P mem T (.mp b) (ky a) ok = some (okV ok (getM a g).isSome ((getM a g).getD z)) := by
 unfold lookupV
 rw [h.map]
 dsimp only
 rw [h.val]
 dsimp only
 rw [if_pos (h.ok a)]
 unfold lookupIn
 dsimp only
 rw [hm]
 dsimp only
 rw [h.find, ← findM_val a g 0]
 cases hf : findM a g 0 with
 | none => dsimp only; rw [hz]; rfl
 | some p => rfl
end
end
end Go.Proofs.YtefbaladomfccaaGreatDoor
end

section
namespace Go.Proofs.YtefbaladomfccaaGreatDoor
open Go.Eng
variable [Glob]
set_option maxHeartbeats 4000000
set_option maxRecDepth 100000
structure Lin {α : Type} (lt : α → α → Bool) : Prop where
 irrefl : ∀ x, lt x x = false
 trans : ∀ x y z, lt x y = true → lt y z = true → lt x z = true
 tri : ∀ x y, lt x y = false → lt y x = false → x = y
section
variable {α : Type} [DecidableEq α] {lt : α → α → Bool}
theorem Lin.asymm (h : Lin lt) {x y : α} (hx : lt x y = true) : lt y x = false := by
 cases hy : lt y x with
 | false => rfl
 | true => have := h.trans x y x hx hy; rw [h.irrefl] at this; cases this
def insL (lt : α → α → Bool) : List α → α → List α
 | [], s => [s]
 | a :: r, s => if lt a s = true then a :: insL lt r s else if a = s then a :: r else s :: a :: r
def Asc (lt : α → α → Bool) (l : List α) : Prop := l.Pairwise fun a b => lt a b = true
theorem insL_mem {s : α} : ∀ {l : List α} {x : α}, x ∈ insL lt l s ↔ x = s ∨ x ∈ l
 | [], x => by simp [insL]
 | a :: r, x => by
  unfold insL
  split
  ·rw [List.mem_cons, insL_mem, List.mem_cons]
   constructor
   ·rintro (h | h | h)
    ·exact .inr (.inl h)
    ·exact .inl h
    ·exact .inr (.inr h)
   ·rintro (h | h | h)
    ·exact .inr (.inl h)
    ·exact .inl h
    ·exact .inr (.inr h)
  ·split
   ·rename_i h; subst h
    constructor
    ·exact .inr
    ·rintro (rfl | h)
     ·exact List.mem_cons_self ..
     ·exact h
   ·simp
theorem insL_asc (h : Lin lt) {s : α} : ∀ {l : List α}, Asc lt l → Asc lt (insL lt l s)
 | [], _ => by simp [insL, Asc]
 | a :: r, hl => by
  have h1 := List.pairwise_cons.1 hl
  unfold insL
  split
  ·rename_i ha
   refine List.pairwise_cons.2 ⟨fun b hb => ?_, insL_asc h h1.2⟩
   rcases insL_mem.1 hb with rfl | hb
   ·exact ha
   ·exact h1.1 b hb
  ·rename_i ha
   split
   ·exact hl
   ·rename_i he
    have hs : lt s a = true := by
     cases hsa : lt s a with
     | true => rfl
     | false => exact absurd (h.tri a s (by simpa using ha) hsa) he
    refine List.pairwise_cons.2 ⟨fun b hb => ?_, hl⟩
    rcases List.mem_cons.1 hb with rfl | hb
    ·exact hs
    ·exact h.trans _ _ _ hs (h1.1 b hb)
theorem Asc.ext (h : Lin lt) : ∀ {l m : List α}, Asc lt l → Asc lt m → (∀ x, x ∈ l ↔ x ∈ m) → l = m
 | [], [], _, _, _ => rfl
 | [], b :: r, _, _, he => by have := (he b).2 (List.mem_cons_self ..); simp at this
 | a :: r, [], _, _, he => by have := (he a).1 (List.mem_cons_self ..); simp at this
 | a :: r, b :: t, hl, hm, he => by
  have h1 := List.pairwise_cons.1 hl
  have h2 := List.pairwise_cons.1 hm
  have hab : a = b := by
   rcases List.mem_cons.1 ((he a).1 (List.mem_cons_self ..)) with e | ha
   ·exact e
   ·rcases List.mem_cons.1 ((he b).2 (List.mem_cons_self ..)) with e | hb
    ·exact e.symm
    ·have q1 := h2.1 a ha
     have q2 := h.asymm (h1.1 b hb)
     rw [q1] at q2; cases q2
  subst hab
  rw [Asc.ext h h1.2 h2.2 fun x => ?_]
  constructor
  ·intro hx
   rcases List.mem_cons.1 ((he x).1 (List.mem_cons_of_mem _ hx)) with rfl | hx'
   ·have := h1.1 x hx; rw [h.irrefl] at this; cases this
   ·exact hx'
  ·intro hx
   rcases List.mem_cons.1 ((he x).2 (List.mem_cons_of_mem _ hx)) with rfl | hx'
   ·have := h2.1 x hx; rw [h.irrefl] at this; cases this
   ·exact hx'
theorem insL_at {s : α} : ∀ {l : List α} {i : Nat}, (∀ j < i, ∀ b, l[j]? = some b → lt b s = true) → i ≤ l.length →
  (∀ b, l[i]? = some b → lt b s = false) → insL lt l s = if l[i]? = some s then l else l.take i ++ [s] ++ l.drop i
 | [], i, _, hi, _ => by
  have : i = 0 := by simpa using hi
  subst this; simp [insL]
 | a :: r, 0, _, _, hb => by
  have h0 := hb a rfl
  unfold insL
  rw [if_neg (by rw [h0]; simp)]
  by_cases he : a = s
  ·subst he; simp
  ·rw [if_neg he, if_neg (by simpa using he)]; simp
 | a :: r, i + 1, hj, hi, hb => by
  have h0 := hj 0 (by omega) a rfl
  have ih := insL_at (l := r) (i := i) (fun j hj' b hb' => hj (j + 1) (by omega) b (by simpa using hb')) (by simpa using hi) fun b hb' => hb b (by simpa using hb')
  unfold insL
  rw [if_pos h0, ih]
  simp only [List.getElem?_cons_succ,List.take_succ_cons,List.drop_succ_cons]
  split
  ·rfl
  ·rfl
def insAll (lt : α → α → Bool) (l m : List α) : List α := m.foldl (insL lt) l
theorem insAll_mem : ∀ {m l : List α} {x : α}, x ∈ insAll lt l m ↔ x ∈ l ∨ x ∈ m
 | [], l, x => by simp [insAll]
 | s :: m, l, x => by
  show x ∈ insAll lt (insL lt l s) m ↔ _
  rw [insAll_mem, insL_mem, List.mem_cons]
  constructor
  ·rintro ((h | h) | h)
   ·exact .inr (.inl h)
   ·exact .inl h
   ·exact .inr (.inr h)
  ·rintro (h | h | h)
   ·exact .inl (.inr h)
   ·exact .inl (.inl h)
   ·exact .inr h
theorem insAll_asc (h : Lin lt) : ∀ {m l : List α}, Asc lt l → Asc lt (insAll lt l m)
 | [], _, hl => hl
 | s :: m, l, hl => insAll_asc (m := m) (l := insL lt l s) h (insL_asc h hl)
end

theorem cutTo2 {α : Type} (l : List α) (f : α → V) (size : Nat) (hs : ∀ a, (f a).cells.length = size) (i : Nat) (hi : i ≤ l.length) (mem : List Blk) : cutAt mem size 0 (some (i : Int)) (.slice (l.map f)) = some (.slice ((l.take i).map f)) := by
 unfold cutAt
 have h1 : firstOk (l.map f) (0 : Int).toNat size = true := by
  unfold firstOk; split
  ·rename_i h; rw [List.getElem?_map, Option.map_eq_some_iff] at h; obtain ⟨t, -, rfl⟩ := h; simp [hs]
  ·rfl
 dsimp only
 rw [if_pos ⟨Int.le_refl _, by simp, by simpa using hi, h1⟩]
 simp [List.map_take]
theorem cutFrom2 {α : Type} (l : List α) (f : α → V) (size : Nat) (hs : ∀ a, (f a).cells.length = size) (i : Nat) (hi : i ≤ l.length) (mem : List Blk) : cutAt mem size (i : Int) none (.slice (l.map f)) = some (.slice ((l.drop i).map f)) := by
 unfold cutAt
 have h1 : firstOk (l.map f) (i : Int).toNat size = true := by
  unfold firstOk; split
  ·rename_i h; rw [List.getElem?_map, Option.map_eq_some_iff] at h; obtain ⟨t, -, rfl⟩ := h; simp [hs]
  ·rfl
 dsimp only
 rw [if_pos ⟨Int.natCast_nonneg _, by simpa using hi, by simp, h1⟩]
 congr 2
 rw [← List.map_drop, Int.toNat_natCast]
 refine List.take_of_length_le ?_
 simp only [Option.getD_none,List.length_map,List.length_drop]
 omega
theorem firstMap {α : Type} (l : List α) (f : α → V) (size : Nat) (hs : ∀ a, (f a).cells.length = size) : firstOk (l.map f) 0 size = true := by
 unfold firstOk; split
 ·rename_i h; rw [List.getElem?_map, Option.map_eq_some_iff] at h; obtain ⟨t, -, rfl⟩ := h; simp [hs]
 ·rfl
theorem lin_str : Lin ltB := by
 refine ⟨fun x => ?_, fun x y z h1 h2 => ?_, fun x y h1 h2 => ?_⟩
 ·rw [ltB_eq]; exact decide_eq_false (List.lt_irrefl _)
 ·rw [ltB_eq] at *
  exact decide_eq_true (List.lt_trans (of_decide_eq_true h1) (of_decide_eq_true h2))
 ·rw [ltB_eq] at h1 h2
  have h1 := of_decide_eq_false h1
  have h2 := of_decide_eq_false h2
  have := List.le_antisymm (List.not_lt.1 h2) (List.not_lt.1 h1)
  exact ByteArray.ext (Array.toList_inj.1 this)
abbrev Us := ByteArray × ByteArray
def encU (u : Us) : V := .agg [str u.1, str u.2]
theorem scRunP_seq2 {P : Program} {T : TypeId} (hT : P.underlying T = some .string) (d : Nat) (a b : ByteArray) : scRunP P (Op.equalIn (d + 1) T (.string a) (.string b)) = some (a == b) := by
 rw [Op.equalIn, scRunP_bind, scRunP_underlying hT]
 rfl
theorem eqUse (a b c d : ByteArray) : scRunP Tryz.prog (Op.equal 78 (.agg #[.string a, .string b]) (.agg #[.string c, .string d])) = some (a == c && b == d) := by
 show scRunP Tryz.prog (Op.equalIn (9999 + 1) 78 _ _) = _
 have h1 := scRunP_seq2 Tryz.underlying9 9998 a c
 have h2 := scRunP_seq2 Tryz.underlying9 9998 b d
 have hs : Tryz.prog.stoodInHeld 78 = false := by kernel_rfl
 have hp1 : ∀ x y, scRunP Tryz.prog (part 9 #[x, y] 0) = some x := fun x y => by kernel_rfl
 have hp2 : ∀ x y, scRunP Tryz.prog (part 9 #[x, y] 1) = some y := fun x y => by kernel_rfl
 rw [Op.equalIn, scRunP_bind, scRunP_underlying Tryz.underlying78]
 dsimp only [Option.bind_some]
 rw [scRunP_bind]
 show ((some Tryz.prog).bind _) = _
 rw [Option.bind_some, if_neg (by rw [hs]; simp)]
 rw [← Array.forIn_toList]
 have n1 : ("Module" ≠ "_") := by decide
 have n2 : ("Name" ≠ "_") := by decide
 have q1 : scRunP Tryz.prog (Op.equalIn 9999 9 (Value.string a) (Value.string c)) = some (a == c) := h1
 have q2 : scRunP Tryz.prog (Op.equalIn 9999 9 (Value.string b) (Value.string d)) = some (b == d) := h2
 have pr : ∀ {α : Type} (x : α), scRunP Tryz.prog (pure x : Sem α) = some x := fun x => rfl
 simp only [List.forIn_cons,List.forIn_nil,scRunP_bind,if_pos n1,if_pos n2,hp1,hp2,Option.bind_some,q1,pr]
 cases hac : (a == c)
 ·simp [pr, Option.bind_some]
 ·simp only [Bool.not_true,Bool.false_eq_true,if_false,pr,Option.bind_some,scRunP_bind,if_pos n2,hp2,q2,Bool.true_and]
  cases hbd : (b == d) <;> simp [pr, scRunP_bind]
theorem us_beq (u v : Us) : (u.1 == v.1 && u.2 == v.2) = decide (u = v) := by
 rw [Bool.eq_iff_iff, Bool.and_eq_true, baBeq_iff, baBeq_iff, decide_eq_true_eq, Prod.ext_iff]
theorem ev_usneq (x y : Operand) (u v : Us) : lift2 Tryz.prog (opB .neq 78 x y) (.agg [str u.1, str u.2]) (.agg [str v.1, str v.2]) = some (bl (!decide (u = v))) := by
 have : scRunP Tryz.prog (do eqGuard .neq 78 x y (.agg #[.string u.1, .string u.2]) (.agg #[.string v.1, .string v.2]); binOp .neq 78 (.agg #[.string u.1, .string u.2]) (.agg #[.string v.1, .string v.2])) = some (.bool (!decide (u = v))) := by
  have hg : scRunP Tryz.prog (eqGuard .neq 78 x y (.agg #[.string u.1, .string u.2]) (.agg #[.string v.1, .string v.2])) = some () := by kernel_rfl
  rw [scRunP_bind, hg, Option.bind_some]
  have hb : ∀ u v : Array Value, binOp .neq 78 (.agg u) (.agg v) = (Op.equal 78 (.agg u) (.agg v) >>= fun r => Pure.pure (Value.bool !r)) := fun u v => rfl
  rw [hb, scRunP_bind, eqUse, us_beq]; rfl
 simp only [lift2,toVal,allSc,opB]
 rw [this]; rfl
theorem ev_useql (x y : Operand) (u v : Us) : lift2 Tryz.prog (opB .eql 78 x y) (.agg [str u.1, str u.2]) (.agg [str v.1, str v.2]) = some (bl (decide (u = v))) := by
 have : scRunP Tryz.prog (do eqGuard .eql 78 x y (.agg #[.string u.1, .string u.2]) (.agg #[.string v.1, .string v.2]); binOp .eql 78 (.agg #[.string u.1, .string u.2]) (.agg #[.string v.1, .string v.2])) = some (.bool (decide (u = v))) := by
  have hg : scRunP Tryz.prog (eqGuard .eql 78 x y (.agg #[.string u.1, .string u.2]) (.agg #[.string v.1, .string v.2])) = some () := by kernel_rfl
  rw [scRunP_bind, hg, Option.bind_some]
  have hb : ∀ u v : Array Value, binOp .eql 78 (.agg u) (.agg v) = (Op.equal 78 (.agg u) (.agg v) >>= fun r => Pure.pure (Value.bool r)) := fun u v => rfl
  rw [hb, scRunP_bind, eqUse, us_beq]; rfl
 simp only [lift2,toVal,allSc,opB]
 rw [this]; rfl
def ltU (u v : Us) : Bool := ltB u.1 v.1 || decide (u.1 = v.1) && ltB u.2 v.2
theorem lin_us : Lin ltU := by
 have hl := lin_str
 refine ⟨fun x => ?_, fun x y z h1 h2 => ?_, fun x y h1 h2 => ?_⟩
 ·simp [ltU, hl.irrefl]
 ·unfold ltU at *
  rw [Bool.or_eq_true, Bool.and_eq_true, decide_eq_true_eq] at *
  rcases h1 with h1 | ⟨h1, h1'⟩
  ·rcases h2 with h2 | ⟨h2, h2'⟩
   ·exact .inl (hl.trans _ _ _ h1 h2)
   ·rw [← h2]; exact .inl h1
  ·rcases h2 with h2 | ⟨h2, h2'⟩
   ·rw [h1]; exact .inl h2
   ·exact .inr ⟨h1.trans h2, hl.trans _ _ _ h1' h2'⟩
 ·unfold ltU at h1 h2
  rw [Bool.or_eq_false_iff, Bool.and_eq_false_iff] at h1 h2
  have e1 : x.1 = y.1 := hl.tri _ _ h1.1 h2.1
  have a1 : ltB x.2 y.2 = false := h1.2.elim (fun h => absurd e1 (of_decide_eq_false h)) id
  have a2 : ltB y.2 x.2 = false := h2.2.elim (fun h => absurd e1.symm (of_decide_eq_false h)) id
  exact Prod.ext e1 (hl.tri _ _ a1 a2)
def usV (u : Us) : Value := .agg #[.string u.1, .string u.2]
theorem eqUs (u v : Us) : scRunP Tryz.prog (Op.equal 78 (usV u) (usV v)) = some (decide (u = v)) := by
 show scRunP Tryz.prog (Op.equal 78 (.agg #[.string u.1, .string u.2]) (.agg #[.string v.1, .string v.2])) = _
 rw [eqUse, us_beq]
theorem keyOk_us (u : Us) : keyOk Tryz.prog 78 (usV u) = true := by
 obtain ⟨a, b⟩ := u
 kernel_rfl
theorem bits_us (u : Us) : Instr.sameBits 10000 (usV u) (usV u) = true := by
 have h : ∀ s : ByteArray, Instr.sameBits 9999 (.string s) (.string s) = true := fun s => (baBeq_iff s s).2 rfl
 show Instr.sameBits (9999 + 1) (usV u) (usV u) = true
 unfold usV
 rw [Instr.sameBits]
 simp [h]
def strVal (s : ByteArray) : Value := .string s
theorem ktStr {T et : TypeId} (h : mapDesc Tryz.prog T = some (9, et)) : KT Tryz.prog T 9 et strVal str :=
 ⟨h, fun _ => rfl, fun a => by unfold keyOk; rw [Tryz.underlying9], fun a => (baBeq_iff a a).2 rfl,
  KT.now Tryz.underlying9 fun a b => by
   show some (a == b) = some (decide (b = a))
   congr 1
   rw [Bool.eq_iff_iff, baBeq_iff, decide_eq_true_eq]
   exact ⟨fun h => h.symm, fun h => h.symm⟩⟩
theorem ktUse {T et : TypeId} (h : mapDesc Tryz.prog T = some (78, et)) : KT Tryz.prog T 78 et usV encU :=
 ⟨h, fun _ => rfl, keyOk_us, bits_us, KT.ask Tryz.underlying78 (fun a b => by unfold usV; rfl) eqUs⟩
end Go.Proofs.YtefbaladomfccaaGreatDoor
end

section
namespace Go.Proofs.YtefbaladomfccaaGreatDoor
open Go.Eng
open Nat renaming reduceAdd → zA, reduceLT → zB, reduceLeDiff → zC, reduceMul → zD, reduceEqDiff → zE, reduceSub → zF
variable [Glob]
set_option maxHeartbeats 4000000
set_option maxRecDepth 100000
abbrev GD := List (Us × Dc)
def lookU (u : Us) (g : GD) : Option Dc := (g.find? fun e => decide (e.1 = u)).map (·.2)
def encG (g : GD) : List (Us × V) := g.map fun e => (e.1, encDc e.2)
def encS (l : List ByteArray) : List (ByteArray × V) := l.map fun s => (s, bl true)
theorem get_encG (u : Us) : ∀ g : GD, getM u (encG g) = (lookU u g).map encDc
 | [] => rfl
 | e :: g => by
  show (if e.1 = u then some (encDc e.2) else getM u (encG g)) = _
  rw [get_encG u g]
  unfold lookU
  by_cases h : e.1 = u
  ·rw [if_pos h, List.find?_cons_of_pos (by simpa using h)]; rfl
  ·rw [if_neg h, List.find?_cons_of_neg (by simpa using h)]
def hasS (l : List ByteArray) (s : ByteArray) : Bool := l.any fun t => decide (t = s)
theorem get_encS (s : ByteArray) : ∀ l : List ByteArray, getM s (encS l) = if hasS l s = true then some (bl true) else none
 | [] => rfl
 | e :: g => by
  show (if e = s then some (bl true) else getM s (encS g)) = _
  rw [get_encS s g]
  unfold hasS
  rw [List.any_cons]
  by_cases h : e = s
  ·rw [if_pos h, decide_eq_true h, Bool.true_or, if_pos rfl]
  ·rw [if_neg h, decide_eq_false h, Bool.false_or]
theorem findM_none {α : Type} [DecidableEq α] {a : α} : ∀ {g : List (α × V)} {n : Nat}, getM a g = none → findM a g n = none
 | [], _, _ => rfl
 | e :: g, n, h => by
  unfold getM at h
  unfold findM
  split at h
  ·cases h
  ·rename_i hne
   rw [if_neg hne]; exact findM_none h
theorem put_none {α : Type} [DecidableEq α] {a : α} {v : V} {g : List (α × V)} (h : getM a g = none) : putM a v g = g ++ [(a, v)] := by unfold putM; rw [findM_none h]
def stepD (path : ByteArray) (g : GD) (d : Dc) : GD := if (lookU (path, d.name) g).isSome = true then g else g ++ [((path, d.name), d)]
def stepMd (S : List ByteArray × GD) (m : Md) : List ByteArray × GD := if hasS S.1 m.path = true then S else (S.1 ++ [m.path], m.decls.foldl (stepD m.path) S.2)
def mdsO (p : List Md) (i : Nat) : List ByteArray × GD := (p.take i).foldl stepMd ([], [])
def dcsO (m : Md) (g : GD) (j : Nat) : GD := (m.decls.take j).foldl (stepD m.path) g
def decG (p : List Md) : GD := (mdsO p p.length).2
theorem mdsO_succ {p : List Md} {i : Nat} {m : Md} (h : p[i]? = some m) : mdsO p (i + 1) = stepMd (mdsO p i) m := by
 unfold mdsO; rw [List.take_add_one, h, List.foldl_append]; rfl
theorem dcsO_succ {m : Md} {g : GD} {j : Nat} {d : Dc} (h : m.decls[j]? = some d) : dcsO m g (j + 1) = stepD m.path (dcsO m g j) d := by
 unfold dcsO; rw [List.take_add_one, h, List.foldl_append]; rfl
theorem dcsO_full (m : Md) (g : GD) : dcsO m g m.decls.length = m.decls.foldl (stepD m.path) g := by unfold dcsO; rw [List.take_length]
theorem encDc_below (n : Nat) (d : Dc) : belowV n (encDc d) = true := by rw [encDc_eq]; simp [dcCells, tyCells, exCells, belowV, belowL]
theorem encG_below (n : Nat) (g : GD) : ((mkM usV 0 (encG g)).all fun e => belowV n e.2.2) = true := by
 rw [mkM_all usV (belowV n)]; unfold encG; simp [encDc_below]
theorem encS_below (n : Nat) (g : List ByteArray) : ((mkM strVal 0 (encS g)).all fun e => belowV n e.2.2) = true := by
 rw [mkM_all strVal (belowV n)]; unfold encS; simp [belowV]
theorem mapD : mapDesc Tryz.prog 94 = some (78, 109) := by kernel_rfl
theorem mapB : mapDesc Tryz.prog 172 = some (9, 4) := by kernel_rfl
theorem zeroD : zeroV Tryz.prog 109 = some (.agg [num 0, str ⟨#[]⟩, bl false, bl false, str ⟨#[]⟩, .sc (.slice none 0 0), num 0, str ⟨#[]⟩, str ⟨#[]⟩, .sc (.slice none 0 0), .sc (.slice none 0 0), num 0, str ⟨#[]⟩, str ⟨#[]⟩, .sc (.slice none 0 0), .sc (.slice none 0 0), num 0, str ⟨#[]⟩, str ⟨#[]⟩, .sc (.slice none 0 0), .sc (.slice none 0 0), num 0, str ⟨#[]⟩, str ⟨#[]⟩, str ⟨#[]⟩, num 0, .sc (.slice none 0 0), .sc (.slice none 0 0), .sc (.slice none 0 0), str ⟨#[]⟩, str ⟨#[]⟩]) := by kernel_rfl
theorem zeroB : zeroV Tryz.prog 4 = some (bl false) := by kernel_rfl
theorem lookD (u : Us) (g : GD) {mem : List Blk} {b : Nat} (hm : mem[b]? = some (.map (mkM usV 0 (encG g)) (encG g).length)) (ok : Bool) :
  lookupV Tryz.prog mem 94 (.mp b) (.agg [str u.1, str u.2]) ok = some (okV ok (lookU u g).isSome (((lookU u g).map encDc).getD (.agg [num 0, str ⟨#[]⟩, bl false, bl false, str ⟨#[]⟩, .sc (.slice none 0 0), num 0, str ⟨#[]⟩, str ⟨#[]⟩, .sc (.slice none 0 0), .sc (.slice none 0 0), num 0, str ⟨#[]⟩, str ⟨#[]⟩, .sc (.slice none 0 0), .sc (.slice none 0 0), num 0, str ⟨#[]⟩, str ⟨#[]⟩, .sc (.slice none 0 0), .sc (.slice none 0 0), num 0, str ⟨#[]⟩, str ⟨#[]⟩, str ⟨#[]⟩, num 0, .sc (.slice none 0 0), .sc (.slice none 0 0), .sc (.slice none 0 0), str ⟨#[]⟩, str ⟨#[]⟩]))) := by
 have h := (ktUse mapD).get u (encG g) hm zeroD ok
 rw [get_encG] at h
 simpa [encU] using h
theorem putD {u : Us} {g : GD} (h : lookU u g = none) (d : Dc) {mem : List Blk} {b : Nat} (hm : mem[b]? = some (.map (mkM usV 0 (encG g)) (encG g).length)) :
  insertV Tryz.prog mem 94 (.mp b) (.agg [str u.1, str u.2]) (encDc d) = some (mem.set b (.map (mkM usV 0 (encG (g ++ [(u, d)]))) (encG (g ++ [(u, d)])).length)) := by
 have h2 := (ktUse mapD).put u (encDc d) (encG g) hm
 rw [put_none (by rw [get_encG, h]; rfl)] at h2
 have e : encG g ++ [(u, encDc d)] = encG (g ++ [(u, d)]) := by simp [encG]
 rw [e] at h2
 exact h2
theorem lookS (s : ByteArray) (l : List ByteArray) {mem : List Blk} {b : Nat} (hm : mem[b]? = some (.map (mkM strVal 0 (encS l)) (encS l).length)) :
  lookupV Tryz.prog mem 172 (.mp b) (str s) false = some (bl (hasS l s)) := by
 have h := (ktStr mapB).get s (encS l) hm zeroB false
 rw [get_encS] at h
 rw [h]
 cases hasS l s <;> rfl
theorem putS {s : ByteArray} {l : List ByteArray} (h : hasS l s = false) {mem : List Blk} {b : Nat} (hm : mem[b]? = some (.map (mkM strVal 0 (encS l)) (encS l).length)) :
  insertV Tryz.prog mem 172 (.mp b) (str s) (bl true) = some (mem.set b (.map (mkM strVal 0 (encS (l ++ [s]))) (encS (l ++ [s])).length)) := by
 have h2 := (ktStr mapB).put s (bl true) (encS l) hm
 rw [put_none (by rw [get_encS, h]; rfl)] at h2
 have e : encS l ++ [(s, bl true)] = encS (l ++ [s]) := by simp [encS]
 rw [e] at h2
 exact h2
theorem newDecls_ok (p : List Md) (hl : p.length ≤ 1048576) (hw : ∀ m ∈ p, m.wt ≤ 1048576) : ∃ r_ m_, (fun r m => r = .mp 0 ∧ m = [.map (mkM usV 0 (encG (decG p))) (encG (decG p)).length]) r_ m_ ∧ FnOkS Tryz.prog 38 [.slice (p.map encMd)] ([]) r_ m_ := by
 refine vfw tt_ok [] 53 [.tmp 2] (1) (by simp) (fn := Tryz.f38) Tryz.func38 rfl Tryz.call38 ⟨rfl, rfl, by simp⟩ fun K hK => ?_
 simp only [encG_below,encS_below,List.length_map,go_sem,reduceIte,zA,zB,zC,zD,zE,zF,reduceCtorEq]
 refine xloop tt_ok [] (fun i : Nat => [(3, .mp 0), (4, .mp 1), (14, .slice (p.map encMd)), (15, num p.length), (16, num i)]) (fun i : Nat => [.map (mkM usV 0 (encG (mdsO p i).2)) (encG (mdsO p i).2).length, .map (mkM strVal 0 (encS (mdsO p i).1)) (encS (mdsO p i).1).length]) (fun i => p.length - i) (fun i => i ≤ p.length) (0) 2 (lies (by omega) (by simp only [encG_below,encS_below,List.length_map,mdsO,List.take_zero,List.foldl_nil,encG,encS,List.map_nil,mkM,List.length_nil,Int.cast_ofNat_Int,go_sem,reduceIte,zA,zB,zC,zD,zE,zF,reduceCtorEq] <;> rfl)) (Nat.zero_le _) ?_
 intro i hi
 intro Z1 hZ1
 simp only [encG_below,encS_below,List.length_map,go_sem,reduceIte,zA,zB,zC,zD,zE,zF,reduceCtorEq]
 refine gif (fun hc17 => ?_) (fun hc17 => ?_)
 ·have hlti : i < p.length := by simpa using hc17
  have hwi := i64_succ i (by omega)
  obtain ⟨m, hx⟩ : ∃ m, p[i]? = some m := ⟨_, List.getElem?_eq_getElem hlti⟩
  have hmw := hw m (List.mem_of_getElem? hx)
  have hmd : m.wt = 1 + m.path.size + sumBy Im.wt m.imports + sumBy Dc.wt m.decls := rfl
  have hdl := length_le_sum Dc.wt Dc.wt_pos m.decls
  have hlks := fun B0 B2 => lookS m.path (mdsO p i).1 (mem := [B0, .map (mkM strVal 0 (encS (mdsO p i).1)) (encS (mdsO p i).1).length, B2]) (b := 1) rfl
  simp only [encG_below,encS_below,hx,List.getElem?_map,encMd_eq,mdCells,hlks,List.length_map,go_sem,reduceIte,zA,zB,zC,zD,zE,zF,reduceCtorEq]
  refine gif (fun hc23 => ?_) (fun hc23 => ?_)
  ·have hin : hasS (mdsO p i).1 m.path = true := hc23
   have hnx : mdsO p (i + 1) = mdsO p i := by rw [mdsO_succ hx]; unfold stepMd; rw [if_pos hin]
   simp only [encG_below,encS_below,hx,List.getElem?_map,encMd_eq,mdCells,hlks,List.length_map,go_sem,reduceIte,zA,zB,zC,zD,zE,zF,reduceCtorEq]
   refine hZ1 _ ⟨i + 1, ?_, ?_, lies (by omega) (by (simp only [hwi,hnx,encG_below,encS_below,go_sem,reduceIte,zA,zB,zC,zD,zE,zF,reduceCtorEq]))⟩
   ·exact hlti
   ·omega
  ·have hnin : hasS (mdsO p i).1 m.path = false := hc23
   have hput := fun B0 B2 => putS hnin (mem := [B0, .map (mkM strVal 0 (encS (mdsO p i).1)) (encS (mdsO p i).1).length, B2]) (b := 1) rfl
   simp only [encG_below,encS_below,hx,List.getElem?_map,encMd_eq,mdCells,hlks,hput,List.length_map,go_sem,reduceIte,zA,zB,zC,zD,zE,zF,reduceCtorEq]
   refine xloop tt_ok [] (fun j : Nat => [(3, .mp 0), (4, .mp 1), (6, .ptr 2 0), (14, .slice (p.map encMd)), (15, num p.length), (16, num i), (28, .slice (m.decls.map encDc)), (29, num m.decls.length), (30, num j)]) (fun j : Nat => [.map (mkM usV 0 (encG (dcsO m (mdsO p i).2 j))) (encG (dcsO m (mdsO p i).2 j)).length, .map (mkM strVal 0 (encS ((mdsO p i).1 ++ [m.path]))) (encS ((mdsO p i).1 ++ [m.path])).length, .box [str m.path, .slice (m.imports.map encIm), .slice (m.decls.map encDc)]]) (fun j => m.decls.length - j) (fun j => j ≤ m.decls.length) (0) 3 (lies (by omega) (by simp only [encG_below,encS_below,hx,List.getElem?_map,encMd_eq,mdCells,hlks,hput,List.length_map,dcsO,List.take_zero,List.foldl_nil,Int.cast_ofNat_Int,go_sem,reduceIte,zA,zB,zC,zD,zE,zF,reduceCtorEq] <;> rfl)) (Nat.zero_le _) ?_
   intro j hj
   intro Z2 hZ2
   simp only [encG_below,encS_below,hx,List.getElem?_map,encMd_eq,mdCells,hlks,hput,List.length_map,go_sem,reduceIte,zA,zB,zC,zD,zE,zF,reduceCtorEq]
   refine gif (fun hc31 => ?_) (fun hc31 => ?_)
   ·have hltj : j < m.decls.length := by simpa using hc31
    have hwj := i64_succ j (by omega)
    obtain ⟨d, hd⟩ : ∃ d, m.decls[j]? = some d := ⟨_, List.getElem?_eq_getElem hltj⟩
    have hlook := fun B1 B2 B3 B4 => lookD (m.path, d.name) (dcsO m (mdsO p i).2 j) (mem := [.map (mkM usV 0 (encG (dcsO m (mdsO p i).2 j))) (encG (dcsO m (mdsO p i).2 j)).length, B1, B2, B3, B4]) (b := 0) rfl true
    rcases hlu : lookU (m.path, d.name) (dcsO m (mdsO p i).2 j) with _ | dd
    ·have hputd := fun B1 B2 B3 B4 B5 => putD hlu d (mem := [.map (mkM usV 0 (encG (dcsO m (mdsO p i).2 j))) (encG (dcsO m (mdsO p i).2 j)).length, B1, B2, B3, B4, B5]) (b := 0) rfl
     have hnd : dcsO m (mdsO p i).2 (j + 1) = dcsO m (mdsO p i).2 j ++ [((m.path, d.name), d)] := by rw [dcsO_succ hd]; unfold stepD; rw [hlu]; rfl
     rw [encDc_eq] at hputd
     simp only [ltb,dcCells,tyCells,exCells] at hputd
     simp only [encG_below,encS_below,hx,List.getElem?_map,encMd_eq,mdCells,hlks,hput,hd,hlook,encDc_eq,dcCells,tyCells,exCells,List.cons_append,List.nil_append,hlu,hputd,Option.isSome_none,Option.map_none,Option.getD_none,okV,List.length_map,go_sem,reduceIte,zA,zB,zC,zD,zE,zF,reduceCtorEq]
     refine hZ2 _ ⟨j + 1, ?_, ?_, lies (by omega) (by (simp only [hwj,hnd,encG_below,encS_below,go_sem,reduceIte,zA,zB,zC,zD,zE,zF,reduceCtorEq]))⟩
     ·exact hltj
     ·omega
    ·have hnd : dcsO m (mdsO p i).2 (j + 1) = dcsO m (mdsO p i).2 j := by rw [dcsO_succ hd]; unfold stepD; rw [hlu]; rfl
     simp only [encG_below,encS_below,hx,List.getElem?_map,encMd_eq,mdCells,hlks,hput,hd,hlook,encDc_eq,dcCells,tyCells,exCells,List.cons_append,List.nil_append,hlu,Option.isSome_some,Option.map_some,Option.getD_some,okV,List.length_map,go_sem,reduceIte,zA,zB,zC,zD,zE,zF,reduceCtorEq]
     refine hZ2 _ ⟨j + 1, ?_, ?_, lies (by omega) (by (simp only [hwj,hnd,encG_below,encS_below,go_sem,reduceIte,zA,zB,zC,zD,zE,zF,reduceCtorEq]))⟩
     ·exact hltj
     ·omega
   ·have hgej : j = m.decls.length := by have := of_decide_eq_false hc31; omega
    have hnx : mdsO p (i + 1) = ((mdsO p i).1 ++ [m.path], dcsO m (mdsO p i).2 j) := by rw [mdsO_succ hx]; unfold stepMd; rw [if_neg (by rw [hnin]; decide), hgej, dcsO_full]
    simp only [encG_below,encS_below,hx,List.getElem?_map,encMd_eq,mdCells,hlks,hput,List.length_map,go_sem,reduceIte,zA,zB,zC,zD,zE,zF,reduceCtorEq]
    refine hZ1 _ ⟨i + 1, ?_, ?_, lies (by omega) (by (simp only [hwi,hnx,encG_below,encS_below,go_sem,reduceIte,zA,zB,zC,zD,zE,zF,reduceCtorEq]))⟩
    ·exact hlti
    ·omega
 ·have hgei : i = p.length := by have := of_decide_eq_false hc17; omega
  rw [hgei]
  simp only [encG_below,encS_below,List.length_map,go_sem,reduceIte,zA,zB,zC,zD,zE,zF,reduceCtorEq]
  exact hK _ _ ⟨rfl, rfl⟩
end Go.Proofs.YtefbaladomfccaaGreatDoor
end

section
namespace Go.Proofs.YtefbaladomfccaaGreatDoor
open Go.Eng
open Nat renaming reduceAdd → zA, reduceLT → zB, reduceLeDiff → zC, reduceMul → zD, reduceEqDiff → zE, reduceSub → zF
variable [Glob]
set_option maxHeartbeats 4000000
set_option maxRecDepth 100000
def leadF (look : Us → Option Dc) : Nat → Us → Option Us
 | 0, _ => none
 | n + 1, u => match look u with
  | none => none
  | some d => if d.kind = 1 then some u else if d.kind = 2 then leadF look n (d.mod, d.target) else none
def leads (look : Us → Option Dc) (u : Us) : Option Us := leadF look 4097 u
def u0 : Us := (⟨#[]⟩, ⟨#[]⟩)
def leadV (look : Us → Option Dc) (u : Us) : V := .tup [encU ((leads look u).getD u0), bl (leads look u).isSome]
theorem lead_at {look : Us → Option Dc} {u v : Us} {i : Nat} (hi : i < 4097) (h : leads look u = leadF look (4097 - i) v) : leads look u = (match look v with
  | none => none
  | some d => if d.kind = 1 then some v else if d.kind = 2 then leadF look (4097 - (i + 1)) (d.mod, d.target) else none) := by
 rw [h, show 4097 - i = (4097 - (i + 1)) + 1 by omega, leadF]
theorem lead_no {look : Us → Option Dc} {u : Us} (h : leads look u = none) : leadV look u = .tup [.agg [str ⟨#[]⟩, str ⟨#[]⟩], bl false] := by unfold leadV; rw [h]; rfl
theorem lead_yes {look : Us → Option Dc} {u v : Us} (h : leads look u = some v) : leadV look u = .tup [.agg [str v.1, str v.2], bl true] := by unfold leadV; rw [h]; rfl
theorem end_ok (g : GD) (u : Us) : ∃ r_, (fun w => w = leadV (fun v => lookU v g) u) r_ ∧ FnOkS Tryz.prog 39 [.mp 0, encU u] ([.map (mkM usV 0 (encG g)) (encG g).length]) r_ ([.map (mkM usV 0 (encG g)) (encG g).length]) := by
 refine vfs tt_ok [] 37 [.cell 4 78, .tmp 5] (fn := Tryz.f39) Tryz.func39 rfl Tryz.call39 ⟨rfl, rfl, by simp⟩ fun K hK => ?_
 simp only [encU]
 simp only [encG_below,go_sem,reduceIte,zA,zB,zC,zD,zE,zF,reduceCtorEq]
 refine xloop tt_ok [] (fun a : Nat × Us => [(0, .mp 0), (3, .ptr 1 0), (4, .ptr 2 0), (8, num a.1)]) (fun a : Nat × Us => [.map (mkM usV 0 (encG g)) (encG g).length, .box [str a.2.1, str a.2.2], .box [str ⟨#[]⟩, str ⟨#[]⟩]]) (fun a => 4097 - a.1) (fun a => a.1 ≤ 4097 ∧ leads (fun v => lookU v g) u = leadF (fun v => lookU v g) (4097 - a.1) a.2) ((0, u)) 3 (lies (by omega) (by simp only [encG_below,Int.cast_ofNat_Int,go_sem,reduceIte,zA,zB,zC,zD,zE,zF,reduceCtorEq] <;> rfl)) (⟨Nat.zero_le _, rfl⟩) ?_
 intro ⟨i, v⟩ ⟨hi, hld⟩
 try dsimp only at hi hld
 try dsimp only
 intro Z1 hZ1
 simp only [encG_below,go_sem,reduceIte,zA,zB,zC,zD,zE,zF,reduceCtorEq]
 refine gif (fun hc9 => ?_) (fun hc9 => ?_)
 ·have hlt : i < 4097 := by have := of_decide_eq_true hc9; omega
  have hwi := i64_succ i (by omega)
  have hlook := fun B1 B2 => lookD v g (mem := [.map (mkM usV 0 (encG g)) (encG g).length, B1, B2]) (b := 0) rfl true
  rcases hlu : lookU v g with _ | d
  ·have hres := lead_no (u := u) (look := fun v => lookU v g) (by rw [lead_at hlt hld]; (try dsimp only); rw [hlu])
   simp only [encG_below,hlook,hlu,Option.isSome_none,Option.map_none,Option.getD_none,okV,go_sem,reduceIte,zA,zB,zC,zD,zE,zF,reduceCtorEq]
   exact hK _ _ ⟨hres.symm, rfl⟩
  ·simp only [ltb,encG_below,hlook,hlu,Option.isSome_some,Option.map_some,Option.getD_some,okV,encDc_eq,dcCells,tyCells,exCells,go_sem,reduceIte,zA,zB,zC,zD,zE,zF,reduceCtorEq]
   refine gif (fun hc20 => ?_) (fun hc20 => ?_)
   ·have hk1 : d.kind = 1 := of_decide_eq_true hc20
    have hres := lead_yes (u := u) (look := fun v => lookU v g) (v := v) (by rw [lead_at hlt hld]; (try dsimp only); rw [hlu]; (try dsimp only); rw [if_pos hk1])
    simp only [ltb,encG_below,hlook,hlu,Option.isSome_some,Option.map_some,Option.getD_some,okV,encDc_eq,dcCells,tyCells,exCells,go_sem,reduceIte,zA,zB,zC,zD,zE,zF,reduceCtorEq]
    exact hK _ _ ⟨hres.symm, rfl⟩
   ·have hk1 : ¬ d.kind = 1 := of_decide_eq_false hc20
    simp only [ltb,encG_below,hlook,hlu,Option.isSome_some,Option.map_some,Option.getD_some,okV,encDc_eq,dcCells,tyCells,exCells,go_sem,reduceIte,zA,zB,zC,zD,zE,zF,reduceCtorEq]
    refine gif (fun hc25 => ?_) (fun hc25 => ?_)
    ·have hk2 : ¬ d.kind = 2 := by simpa using hc25
     have hres := lead_no (u := u) (look := fun v => lookU v g) (by rw [lead_at hlt hld]; (try dsimp only); rw [hlu]; (try dsimp only); rw [if_neg hk1, if_neg hk2])
     simp only [ltb,encG_below,hlook,hlu,Option.isSome_some,Option.map_some,Option.getD_some,okV,encDc_eq,dcCells,tyCells,exCells,go_sem,reduceIte,zA,zB,zC,zD,zE,zF,reduceCtorEq]
     exact hK _ _ ⟨hres.symm, rfl⟩
    ·have hk2 : d.kind = 2 := by simpa using hc25
     simp only [ltb,encG_below,hlook,hlu,Option.isSome_some,Option.map_some,Option.getD_some,okV,encDc_eq,dcCells,tyCells,exCells,go_sem,reduceIte,zA,zB,zC,zD,zE,zF,reduceCtorEq]
     refine hZ1 _ ⟨(i + 1, (d.mod, d.target)), ?_, ?_, lies (by omega) (by (simp only [hwi,encG_below,go_sem,reduceIte,zA,zB,zC,zD,zE,zF,reduceCtorEq]))⟩
     ·exact ⟨hlt, by rw [lead_at hlt hld]; (try dsimp only); rw [hlu]; (try dsimp only); rw [if_neg hk1, if_pos hk2]⟩
     ·dsimp only; omega
 ·have hge : i = 4097 := by have := of_decide_eq_false hc9; omega
  have hres := lead_no (u := u) (look := fun v => lookU v g) (by rw [hld, hge]; rfl)
  simp only [encG_below,go_sem,reduceIte,zA,zB,zC,zD,zE,zF,reduceCtorEq]
  exact hK _ _ ⟨hres.symm, rfl⟩
theorem encDc_ren (σ : Nat → Nat) (d : Dc) : renV σ (encDc d) = encDc d := renV_pure σ (encDc_below 0 d)
theorem renB_encG (σ : Nat → Nat) (g : GD) (c : Nat) : renB σ (.map (mkM usV 0 (encG g)) c) = .map (mkM usV 0 (encG g)) c := by
 have key : ∀ (g : GD) (n : Nat), (mkM usV n (encG g)).map (fun e => (e.1, e.2.1, renV σ e.2.2)) = mkM usV n (encG g) := by
  intro g
  induction g with
  | nil => intro n; rfl
  | cons e r ih =>
   intro n
   show (usV e.1, n, renV σ (encDc e.2)) :: (mkM usV (n + 1) (encG r)).map _ = _
   rw [ih (n + 1), encDc_ren]; rfl
 simp only [renB]
 rw [key g 0]
theorem fnOkS_one {P : Program} {f : FuncId} {vs : List V} {r : V} {B0 : Blk} (h : FnOkS P f vs [B0] r [B0]) (M : List Blk) (k : Nat) (hv : vs.all (belowV 1) = true) (hm : [B0].all (belowB 1) = true) (hr : belowV 1 r = true) (h1 : ∀ σ, renB σ B0 = B0) (hk : M[k]? = some B0) :
  FnOkS P f (renL (fun j => if j = 0 then k else M.length + (j - 1)) vs) M (renV (fun j => if j = 0 then k else M.length + (j - 1)) r) M := by
 have h3 := h.ren M (fun j => if j = 0 then k else M.length + (j - 1)) 1 rfl hv hm hr hm (by simp) (fun i B hi => by
  match i with
  | 0 => simp at hi; subst hi; rw [h1]; simpa using hk
  | i + 1 => simp at hi) (fun i j hi hj he => by omega) (fun j hj => by rw [if_neg (by omega)])
 have hM : putR (fun j => if j = 0 then k else M.length + (j - 1)) 1 [B0] M = M := by
  unfold putR
  simp only [ltb,List.map_nil,List.append_nil,setAll]
  show M.set k (renB _ B0) = _
  rw [h1]; exact set_same hk
 rwa [hM] at h3
theorem end_at (g : GD) (u : Us) (M : List Blk) (k : Nat) (hk : M[k]? = some (.map (mkM usV 0 (encG g)) (encG g).length)) : FnOkS Tryz.prog 39 [.mp k, .agg [str u.1, str u.2]] M (leadV (fun v => lookU v g) u) M := by
 obtain ⟨_, rfl, h⟩ := end_ok g u
 have hb : ∀ n, belowB n (.map (mkM usV 0 (encG g)) (encG g).length) = true := fun n => encG_below n g
 have h3 := fnOkS_one h M k (by simp [belowV, belowL, encU]) (by simp [hb]) (by unfold leadV encU; simp [belowV, belowL]) (fun σ => renB_encG σ g _) hk
 have e : ∀ σ, renV σ (leadV (fun v => lookU v g) u) = leadV (fun v => lookU v g) u := fun σ => renV_pure σ (by unfold leadV encU; simp [belowV, belowL])
 rw [e] at h3
 simpa [renL, renV, encU] using h3
end Go.Proofs.YtefbaladomfccaaGreatDoor
end

section
namespace Go.Eng
variable [Glob]
section
variable {P : Program} {tt : Table} {ρ : Option Nat} {n0 : Nat} {st : St} {Q : Exit → St → Prop}
theorem tri_mid {x y : Code} (J : St → Prop) (hx : Tri P ρ n0 x st (thenQ (fun st' => Trims n0 st' J) Q)) (hy : ∀ st1, J st1 → Tri P ρ n0 y st1 Q) : Tri P ρ n0 (.seq x y) st Q := by
 refine tri_seq (Tri.mono hx fun ex st' h => ?_)
 cases ex with
 | normal =>
  obtain ⟨n, m, h1, h2, h3, h4⟩ := h
  exact tri_mask n m h1 h2 h3 (hy _ h4)
 | _ => exact h
end
end Go.Eng
namespace Go.Proofs.YtefbaladomfccaaGreatDoor
open Go.Eng
open Nat renaming reduceAdd → zA, reduceLT → zB, reduceLeDiff → zC, reduceMul → zD, reduceEqDiff → zE, reduceSub → zF
variable [Glob]
set_option maxHeartbeats 4000000
set_option maxRecDepth 100000
section
variable (look : Us → Option Dc)
def ownU (e : Ex) : List Us := if decide (e.kind = 4) = true then (match leads look (e.mod, e.name) with | some u => [u] | none => []) else []
mutual
def usedE : Ex → List Us
 | .mk k m n t i ts ls ks => ownU look (.mk k m n t i ts ls ks) ++ usedEs ks
def usedEs : List Ex → List Us
 | [] => []
 | e :: r => usedE e ++ usedEs r
end
theorem usedEs_flat (l : List Ex) : usedEs look l = l.flatMap (usedE look) := by
 induction l with
 | nil => rfl
 | cons e r ih => rw [usedEs, ih, List.flatMap_cons]
theorem usedE_eq (e : Ex) : usedE look e = ownU look e ++ e.kids.flatMap (usedE look) := by
 obtain ⟨k, m, n, t, i, ts, ls, ks⟩ := e
 rw [usedE, usedEs_flat]; rfl
theorem ownU_len (e : Ex) : (ownU look e).length ≤ 1 := by
 unfold ownU
 split
 ·split <;> simp
 ·simp
mutual
theorem usedE_len : ∀ e : Ex, (usedE look e).length ≤ e.wt
 | .mk k m n t i ts ls ks => by
  have h1 := usedEs_len ks
  have h2 := ownU_len look (.mk k m n t i ts ls ks)
  rw [usedE, List.length_append]
  simp only [Ex.wt]; omega
theorem usedEs_len : ∀ l : List Ex, (usedEs look l).length ≤ wtExs l
 | [] => Nat.le_refl _
 | e :: r => by
  have h1 := usedE_len e
  have h2 := usedEs_len r
  rw [usedEs, List.length_append]
  simp only [wtExs]; omega
end
end
abbrev usedG (g : GD) (e : Ex) : List Us := usedE (fun v => lookU v g) e
section
variable {σ : Type} {step : σ → Us → σ} {G : Nat → σ → Prop} {B : Nat}
theorem foldG (h : ∀ c s u, c < B → G c s → G (c + 1) (step s u)) : ∀ (l : List Us) (c : Nat) (s : σ), G c s → c + l.length ≤ B → G (c + l.length) (l.foldl step s)
 | [], c, s, hg, _ => hg
 | u :: r, c, s, hg, hc => by
  rw [List.length_cons] at hc
  have := foldG h r (c + 1) (step s u) (h c s u (by omega) hg) (by omega)
  rw [List.length_cons, List.foldl_cons, show c + (r.length + 1) = c + 1 + r.length by omega]
  exact this
end
section
variable {σ : Type} {M : σ → List Blk} {n k k1 k2 k3 km : Nat}
theorem walkA_ok (g : GD) (hn : ∀ s, (M s).length = n) (hk : k < n) (hk1 : k1 < n) (hk2 : k2 < n) (hk3 : k3 < n) (hkm : km < n) (h1 : ∀ s, (M s)[k1]? = some (.box [.mp km])) (hm : ∀ s, (M s)[km]? = some (.map (mkM usV 0 (encG g)) (encG g).length)) (h2 : ∀ s, (M s)[k2]? = some (.box [.yld k])) (h3 : ∀ s, (M s)[k3]? = some (.box [.clo (.func 179) [] [.ptr k1 0, .ptr k2 0, .ptr k3 0]])) (hb : ∀ s, (M s).all (belowB n) = true)
  (step : σ → Us → σ) (G : Nat → σ → Prop) {B : Nat} (hy : ∀ c s u, c < B → G c s → YOk Tryz.prog k [encU u] (M s) true (M (step s u)) ∧ G (c + 1) (step s u)) :
  ∀ (N : Nat) (e : Ex) (c : Nat) (s : σ), G c s → c + (usedG g e).length ≤ B → e.wt ≤ N → N ≤ 1048576 → FnOkS Tryz.prog 179 [encEx e, .ptr k1 0, .ptr k2 0, .ptr k3 0] (M s) (bl true) (M ((usedG g e).foldl step s)) := by
 have g0 : ∀ s (l : List Blk), (M s ++ l)[n]? = l[0]? := fun s l => by rw [List.getElem?_append_right (by rw [hn]; exact Nat.le_refl _), hn, Nat.sub_self]
 have g1 : ∀ s (l : List Blk), (M s ++ l)[n + 1]? = l[1]? := fun s l => by rw [List.getElem?_append_right (by rw [hn]; omega), hn, Nat.add_sub_cancel_left]
 have gk1 : ∀ s (l : List Blk), (M s ++ l)[k1]? = some (.box [.mp km]) := fun s l => by rw [List.getElem?_append_left (by rw [hn]; exact hk1)]; exact h1 s
 have gkm : ∀ s (l : List Blk), (M s ++ l)[km]? = some (.map (mkM usV 0 (encG g)) (encG g).length) := fun s l => by rw [List.getElem?_append_left (by rw [hn]; exact hkm)]; exact hm s
 have gk2 : ∀ s (l : List Blk), (M s ++ l)[k2]? = some (.box [.yld k]) := fun s l => by rw [List.getElem?_append_left (by rw [hn]; exact hk2)]; exact h2 s
 have gk3 : ∀ s (l : List Blk), (M s ++ l)[k3]? = some (.box [.clo (.func 179) [] [.ptr k1 0, .ptr k2 0, .ptr k3 0]]) := fun s l => by rw [List.getElem?_append_left (by rw [hn]; exact hk3)]; exact h3 s
 have gs : ∀ s (l : List Blk) X, (M s ++ l).set n X = M s ++ l.set 0 X := fun s l X => by rw [List.set_append_right _ _ (by rw [hn]; exact Nat.le_refl _), hn, Nat.sub_self]
 have gs1 : ∀ s (l : List Blk) X, (M s ++ l).set (n + 1) X = M s ++ l.set 1 X := fun s l X => by rw [List.set_append_right _ _ (by rw [hn]; omega), hn, Nat.add_sub_cancel_left]
 have gt : ∀ s (l : List Blk), (M s ++ l).take n = M s := fun s l => by rw [← hn s, List.take_left]
 have gt1 : ∀ s (l : List Blk), (M s ++ l).take (n + 1) = M s ++ l.take 1 := fun s l => by rw [List.take_append, hn, List.take_of_length_le (by rw [hn]; omega), Nat.add_sub_cancel_left]
 have gt' : ∀ s, (M s).take n = M s := fun s => by rw [List.take_of_length_le (by rw [hn]; exact Nat.le_refl _)]
 have hG1 : ∀ c s u, c < B → G c s → G (c + 1) (step s u) := fun c s u h h' => (hy c s u h h').2
 have fy : ∀ c s u (l : List Blk), c < B → G c s → YOk Tryz.prog k [encU u] (M s ++ l) true (M (step s u) ++ l) := fun c s u l hc hg => by
  refine (hy c s u hc hg).1.frame (by rw [hn]; exact hk) ?_ (by rw [hn]; exact hb s) (by rw [hn, hn]) (by rw [hn]; exact hb _) l
  simp [encU, belowV, belowL]
 have hbe : ∀ s (e : Ex) (l : List Blk), ((M s ++ Blk.box [num e.kind, str e.mod, str e.name, str e.text, num e.num, .slice (encTys e.types), .slice (e.labels.map encLb), .slice (encExs e.kids)] :: l).take (n + 1)).all (belowB (n + 1)) = true := fun s e l => by
  rw [gt1, List.all_append, Bool.and_eq_true]
  exact ⟨belowBs_mono (by omega) (hb s), by simp [belowB, belowV, belowL]⟩
 have hk1s : k1 < n + 1 := by omega
 have hk2s : k2 < n + 1 := by omega
 have hk3s : k3 < n + 1 := by omega
 have hns : n < n + 1 := by omega
 intro N
 induction N with
 | zero => intro e c s hg hc h; have := e.wt_pos; omega
 | succ N ih =>
  intro e c s hg hc hN hNB
  have hln := e.wt_lens
  have hue : usedG g e = ownU (fun v => lookU v g) e ++ e.kids.flatMap (usedG g) := usedE_eq (fun v => lookU v g) e
  have ihf : ∀ u c s (l : List Blk), G c s → c + (usedG g u).length ≤ B → u.wt ≤ N → FnOkS Tryz.prog 179 [encEx u, .ptr k1 0, .ptr k2 0, .ptr k3 0] (M s ++ l) (bl true) (M ((usedG g u).foldl step s) ++ l) := fun u c s l hg hc hu => by
   refine (ih u c s hg hc hu (by omega)).frame ?_ (by rw [hn]; exact hb s) rfl (by rw [hn, hn]) (by rw [hn]; exact hb _) l
   rw [encEx_eq, hn]; simp [belowV, belowL, exCells, hk1, hk2, hk3]
  simp only [encEx_eq,exCells] at ihf
  refine fns_ok tt_ok (fn := Tryz.f179) n (by rw [hn]; exact Nat.le_refl _) Tryz.func179 rfl Tryz.call179 ?_
  simp only [ltb,startSt,Tryz.ntmps179,List.length_cons,List.length_nil,zA,zF,List.replicate_succ,List.replicate_zero]
  rw [encEx_eq]
  simp only [exCells]
  refine tri_seq_region tt_ok fun K hK => ?_
  simp only [hn,go_sem,reduceIte,zA,zB,zC,zD,zE,zF,reduceCtorEq]
  refine hK _ ?_
  obtain ⟨O, hO⟩ : ∃ O, O = ownU (fun v => lookU v g) e := ⟨_, rfl⟩
  have hcO : c + O.length + (e.kids.flatMap (usedG g)).length ≤ B := by rw [hue, List.length_append, ← hO] at hc; omega
  have hgO := foldG hG1 O c s hg (by omega)
  have hmid : ∀ O', O' = O → O'.foldl step s = O.foldl step s := fun _ h => by rw [h]
  cases h4 : decide (e.kind = 4) with
  | false =>
   have hO0 : O = [] := by rw [hO]; unfold ownU; rw [h4]; rfl
   refine tri_mid (fun st => st = { fr := [.undef, .ptr k1 0, .ptr k2 0, .ptr k3 0, .ptr n 0, .undef, .undef, .undef, .undef, .undef, .undef, .undef, .undef, .undef, .undef, .undef, .undef, .undef, .undef, .undef, .undef, .undef, .undef, .undef, .undef, .undef, .undef, .undef, .undef, .undef, .undef, .undef, .undef, .undef, .undef, .undef, .undef, .undef, .undef, .undef, .undef, .undef], mem := M (O.foldl step s) ++ [.box [num e.kind, str e.mod, str e.name, str e.text, num e.num, .slice (encTys e.types), .slice (e.labels.map encLb), .slice (encExs e.kids)]] }) ?_ ?_
   ·refine tri_seq_region tt_ok fun K hK => ?_
    simp only [hn,g0,h4,go_sem,reduceIte,zA,zB,zC,zD,zE,zF,reduceCtorEq]
    refine hK _ ?_
    refine tri_cond rfl (tri_skip ?_)
    refine ⟨n + 1, [false,true,true,true,true], by rw [hn]; omega, by simp only [maskFr,belowV,belowL,belowB,zB,hk1s,hk2s,hk3s,hns,mkb], hbe _ _ _, ?_⟩
    dsimp only; rw [gt1, hO0]; rfl
   ·intro st1 hst1
    subst hst1
    obtain ⟨s1, hs1⟩ : ∃ s1, s1 = O.foldl step s := ⟨_, rfl⟩
    rw [← hs1] at hgO ⊢
    rw [hue, ← hO, List.foldl_append, ← hs1]
    have hks : ∀ y ∈ e.kids, y.wt ≤ N := fun y hy => by have := Ex.wt_kid hy; omega
    have hkl : e.kids.length ≤ 1048576 := by omega
    obtain ⟨ks, hkse⟩ : ∃ ks, ks = e.kids := ⟨_, rfl⟩
    rw [← hkse] at hcO hks hkl ⊢
    refine tri_seq ?_
    refine tri_seq_region tt_ok fun K hK => ?_
    simp only [hn,g0,length_encExs,go_sem,reduceIte,zA,zB,zC,zD,zE,zF,reduceCtorEq]
    refine hK _ ?_
    refine tri_block (tri_loop_inv (fun N st => ∃ i : Nat, N = ks.length - i ∧ i ≤ ks.length ∧ st = { fr := [.undef, .ptr k1 0, .ptr k2 0, .ptr k3 0, .undef, .undef, .undef, .undef, .undef, .undef, .undef, .undef, .undef, .undef, .undef, .undef, .undef, .undef, .undef, .undef, .undef, .undef, .undef, .undef, .undef, .undef, .undef, .undef, .undef, .undef, .undef, .slice (encExs ks), num ks.length, num i, .undef, .undef, .undef, .undef, .undef, .undef, .undef, .undef], mem := M (((ks.take i).flatMap (usedG g)).foldl step s1) }) ks.length ?_ ?_)
    ·refine ⟨n, (false::true::true::true::(rp 27 false [true,true,true])), by rw [hn]; exact Nat.le_refl _, by simp only [maskFr,belowV,belowL,belowB,zB,hk1,hk2,hk3,mkb], by dsimp only; rw [gt]; exact hb _, 0, by omega, by omega, ?_⟩
     dsimp only; rw [gt]; rfl
    ·rintro N' st ⟨i, rfl, hi, rfl⟩
     by_cases hlt : i < ks.length
     ·have hd := lt_dec hlt
      refine tri_seq_region tt_ok fun K hK => ?_
      simp only [length_encExs,hd,go_sem,reduceIte,zA,zB,zC,zD,zE,zF,reduceCtorEq]
      refine hK _ ?_
      refine tri_seq (tri_cond rfl (tri_skip ?_))
      refine tri_seq (tri_block ?_)
      obtain ⟨u, hu⟩ : ∃ u, ks[i]? = some u := ⟨_, List.getElem?_eq_getElem hlt⟩
      have htk : (ks.take (i + 1)).flatMap (usedG g) = (ks.take i).flatMap (usedG g) ++ usedG g u := by rw [List.take_add_one, hu]; simp
      have hsp : ks.flatMap (usedG g) = (ks.take (i + 1)).flatMap (usedG g) ++ (ks.drop (i + 1)).flatMap (usedG g) := by rw [← List.flatMap_append, List.take_append_drop]
      have hlen : ((ks.take i).flatMap (usedG g)).length + (usedG g u).length ≤ (ks.flatMap (usedG g)).length := by rw [hsp, htk, List.length_append, List.length_append]; omega
      have hgi := foldG hG1 ((ks.take i).flatMap (usedG g)) _ s1 hgO (by omega)
      have hrec := fun l => ihf u _ _ l hgi (by omega) (hks u (List.mem_of_getElem? hu))
      rw [← List.foldl_append, ← htk] at hrec
      obtain ⟨s', hs'⟩ : ∃ s', s' = ((ks.take i).flatMap (usedG g)).foldl step s1 := ⟨_, rfl⟩
      rw [← hs'] at hrec ⊢
      refine tri_seq_region tt_ok fun K hK => ?_
      simp only [get_encExs,hu,encEx_eq,exCells,hn,g0,gs,go_sem,reduceIte,zA,zB,zC,zD,zE,zF,reduceCtorEq]
      refine hK _ ?_
      refine tri_seq_region tt_ok fun K hK => ?_
      simp only [gk3,g0,hn,go_sem,reduceIte,zA,zB,zC,zD,zE,zF,reduceCtorEq]
      refine .inr <| .inl ⟨_, _, hrec _, ?_⟩
      try simp only [go_sem,reduceIte,zA,zB,zC,zD,zE,zF,reduceCtorEq]
      refine hK _ ?_
      refine tri_cond rfl (tri_skip ?_)
      show Tri _ _ _ _ _ _
      refine tri_last_region tt_ok fun K hK => ?_
      simp only [go_sem,reduceIte,zA,zB,zC,zD,zE,zF,reduceCtorEq]
      refine hK _ ?_
      have hw2 := i64_succ i (by omega)
      rw [hw2]
      refine ⟨ks.length - (i + 1), by omega, n, (false::true::true::true::(rp 27 false [true,true,true])), by rw [hn]; exact Nat.le_refl _, by simp only [maskFr,belowV,belowL,belowB,zB,hk1,hk2,hk3,mkb], by dsimp only; rw [gt]; exact hb _, i + 1, rfl, hlt, ?_⟩
      dsimp only; rw [gt]; rfl
     ·have hd := ge_dec hlt
      refine tri_seq_region tt_ok fun K hK => ?_
      simp only [length_encExs,hd,go_sem,reduceIte,zA,zB,zC,zD,zE,zF,reduceCtorEq]
      refine hK _ ?_
      refine tri_seq (tri_cond rfl (tri_exit ?_))
      have hie : i = ks.length := by omega
      subst hie
      show Tri _ _ _ _ _ _
      refine tri_seq_region tt_ok fun K hK => ?_
      simp only [go_sem,reduceIte,zA,zB,zC,zD,zE,zF,reduceCtorEq]
      refine hK _ ?_
      refine tri_ret ⟨.inl rfl, ?_⟩
      try rw [List.take_length]
      exact ⟨rfl, rfl, by dsimp only; rw [gt']; exact hb _, (gt' _).symm⟩
  | true =>
   have he := end_at g (e.mod, e.name)
   have hO1 : O = (match leads (fun v => lookU v g) (e.mod, e.name) with | some u => [u] | none => []) := by rw [hO]; unfold ownU; rw [h4]; rfl
   rcases hld : leads (fun v => lookU v g) (e.mod, e.name) with _ | v
   ·rw [lead_no hld] at he
    rw [hld] at hO1
    refine tri_mid (fun st => st = { fr := [.undef, .ptr k1 0, .ptr k2 0, .ptr k3 0, .ptr n 0, .undef, .undef, .undef, .undef, .undef, .undef, .undef, .undef, .undef, .undef, .undef, .undef, .undef, .undef, .undef, .undef, .undef, .undef, .undef, .undef, .undef, .undef, .undef, .undef, .undef, .undef, .undef, .undef, .undef, .undef, .undef, .undef, .undef, .undef, .undef, .undef, .undef], mem := M (O.foldl step s) ++ [.box [num e.kind, str e.mod, str e.name, str e.text, num e.num, .slice (encTys e.types), .slice (e.labels.map encLb), .slice (encExs e.kids)]] }) ?_ ?_
    ·refine tri_seq_region tt_ok fun K hK => ?_
     simp only [hn,g0,h4,go_sem,reduceIte,zA,zB,zC,zD,zE,zF,reduceCtorEq]
     refine hK _ ?_
     refine tri_cond rfl ?_
     refine tri_seq_region tt_ok fun K hK => ?_
     simp only [hn,g0,gk1,go_sem,reduceIte,zA,zB,zC,zD,zE,zF,reduceCtorEq]
     refine .inr <| .inl ⟨_, _, he _ km (gkm _ _), ?_⟩
     try simp only [hn,g0,g1,gs1,List.length_append,List.append_assoc,go_sem,reduceIte,zA,zB,zC,zD,zE,zF,reduceCtorEq]
     refine hK _ ?_
     refine tri_seq_region tt_ok fun K hK => ?_
     simp only [go_sem,reduceIte,zA,zB,zC,zD,zE,zF,reduceCtorEq]
     refine hK _ ?_
     refine tri_cond rfl (tri_skip ?_)
     refine ⟨n + 1, [false,true,true,true,true], by rw [hn]; omega, by simp only [maskFr,belowV,belowL,belowB,zB,hk1s,hk2s,hk3s,hns,mkb], hbe _ _ _, ?_⟩
     dsimp only; rw [gt1, hO1]; rfl
    ·intro st1 hst1
     subst hst1
     obtain ⟨s1, hs1⟩ : ∃ s1, s1 = O.foldl step s := ⟨_, rfl⟩
     rw [← hs1] at hgO ⊢
     rw [hue, ← hO, List.foldl_append, ← hs1]
     have hks : ∀ y ∈ e.kids, y.wt ≤ N := fun y hy => by have := Ex.wt_kid hy; omega
     have hkl : e.kids.length ≤ 1048576 := by omega
     obtain ⟨ks, hkse⟩ : ∃ ks, ks = e.kids := ⟨_, rfl⟩
     rw [← hkse] at hcO hks hkl ⊢
     refine tri_seq ?_
     refine tri_seq_region tt_ok fun K hK => ?_
     simp only [hn,g0,length_encExs,go_sem,reduceIte,zA,zB,zC,zD,zE,zF,reduceCtorEq]
     refine hK _ ?_
     refine tri_block (tri_loop_inv (fun N st => ∃ i : Nat, N = ks.length - i ∧ i ≤ ks.length ∧ st = { fr := [.undef, .ptr k1 0, .ptr k2 0, .ptr k3 0, .undef, .undef, .undef, .undef, .undef, .undef, .undef, .undef, .undef, .undef, .undef, .undef, .undef, .undef, .undef, .undef, .undef, .undef, .undef, .undef, .undef, .undef, .undef, .undef, .undef, .undef, .undef, .slice (encExs ks), num ks.length, num i, .undef, .undef, .undef, .undef, .undef, .undef, .undef, .undef], mem := M (((ks.take i).flatMap (usedG g)).foldl step s1) }) ks.length ?_ ?_)
     ·refine ⟨n, (false::true::true::true::(rp 27 false [true,true,true])), by rw [hn]; exact Nat.le_refl _, by simp only [maskFr,belowV,belowL,belowB,zB,hk1,hk2,hk3,mkb], by dsimp only; rw [gt]; exact hb _, 0, by omega, by omega, ?_⟩
      dsimp only; rw [gt]; rfl
     ·rintro N' st ⟨i, rfl, hi, rfl⟩
      by_cases hlt : i < ks.length
      ·have hd := lt_dec hlt
       refine tri_seq_region tt_ok fun K hK => ?_
       simp only [length_encExs,hd,go_sem,reduceIte,zA,zB,zC,zD,zE,zF,reduceCtorEq]
       refine hK _ ?_
       refine tri_seq (tri_cond rfl (tri_skip ?_))
       refine tri_seq (tri_block ?_)
       obtain ⟨u, hu⟩ : ∃ u, ks[i]? = some u := ⟨_, List.getElem?_eq_getElem hlt⟩
       have htk : (ks.take (i + 1)).flatMap (usedG g) = (ks.take i).flatMap (usedG g) ++ usedG g u := by rw [List.take_add_one, hu]; simp
       have hsp : ks.flatMap (usedG g) = (ks.take (i + 1)).flatMap (usedG g) ++ (ks.drop (i + 1)).flatMap (usedG g) := by rw [← List.flatMap_append, List.take_append_drop]
       have hlen : ((ks.take i).flatMap (usedG g)).length + (usedG g u).length ≤ (ks.flatMap (usedG g)).length := by rw [hsp, htk, List.length_append, List.length_append]; omega
       have hgi := foldG hG1 ((ks.take i).flatMap (usedG g)) _ s1 hgO (by omega)
       have hrec := fun l => ihf u _ _ l hgi (by omega) (hks u (List.mem_of_getElem? hu))
       rw [← List.foldl_append, ← htk] at hrec
       obtain ⟨s', hs'⟩ : ∃ s', s' = ((ks.take i).flatMap (usedG g)).foldl step s1 := ⟨_, rfl⟩
       rw [← hs'] at hrec ⊢
       refine tri_seq_region tt_ok fun K hK => ?_
       simp only [get_encExs,hu,encEx_eq,exCells,hn,g0,gs,go_sem,reduceIte,zA,zB,zC,zD,zE,zF,reduceCtorEq]
       refine hK _ ?_
       refine tri_seq_region tt_ok fun K hK => ?_
       simp only [gk3,g0,hn,go_sem,reduceIte,zA,zB,zC,zD,zE,zF,reduceCtorEq]
       refine .inr <| .inl ⟨_, _, hrec _, ?_⟩
       try simp only [go_sem,reduceIte,zA,zB,zC,zD,zE,zF,reduceCtorEq]
       refine hK _ ?_
       refine tri_cond rfl (tri_skip ?_)
       show Tri _ _ _ _ _ _
       refine tri_last_region tt_ok fun K hK => ?_
       simp only [go_sem,reduceIte,zA,zB,zC,zD,zE,zF,reduceCtorEq]
       refine hK _ ?_
       have hw2 := i64_succ i (by omega)
       rw [hw2]
       refine ⟨ks.length - (i + 1), by omega, n, (false::true::true::true::(rp 27 false [true,true,true])), by rw [hn]; exact Nat.le_refl _, by simp only [maskFr,belowV,belowL,belowB,zB,hk1,hk2,hk3,mkb], by dsimp only; rw [gt]; exact hb _, i + 1, rfl, hlt, ?_⟩
       dsimp only; rw [gt]; rfl
      ·have hd := ge_dec hlt
       refine tri_seq_region tt_ok fun K hK => ?_
       simp only [length_encExs,hd,go_sem,reduceIte,zA,zB,zC,zD,zE,zF,reduceCtorEq]
       refine hK _ ?_
       refine tri_seq (tri_cond rfl (tri_exit ?_))
       have hie : i = ks.length := by omega
       subst hie
       show Tri _ _ _ _ _ _
       refine tri_seq_region tt_ok fun K hK => ?_
       simp only [go_sem,reduceIte,zA,zB,zC,zD,zE,zF,reduceCtorEq]
       refine hK _ ?_
       refine tri_ret ⟨.inl rfl, ?_⟩
       try rw [List.take_length]
       exact ⟨rfl, rfl, by dsimp only; rw [gt']; exact hb _, (gt' _).symm⟩
   ·rw [lead_yes hld] at he
    rw [hld] at hO1
    have hyt := fun l => fy c s v l (by rw [hO1] at hcO; simp only [List.length_cons,List.length_nil] at hcO; omega) hg
    simp only [encU] at hyt
    refine tri_mid (fun st => st = { fr := [.undef, .ptr k1 0, .ptr k2 0, .ptr k3 0, .ptr n 0, .undef, .undef, .undef, .undef, .undef, .undef, .undef, .undef, .undef, .undef, .undef, .undef, .undef, .undef, .undef, .undef, .undef, .undef, .undef, .undef, .undef, .undef, .undef, .undef, .undef, .undef, .undef, .undef, .undef, .undef, .undef, .undef, .undef, .undef, .undef, .undef, .undef], mem := M (O.foldl step s) ++ [.box [num e.kind, str e.mod, str e.name, str e.text, num e.num, .slice (encTys e.types), .slice (e.labels.map encLb), .slice (encExs e.kids)]] }) ?_ ?_
    ·refine tri_seq_region tt_ok fun K hK => ?_
     simp only [hn,g0,h4,go_sem,reduceIte,zA,zB,zC,zD,zE,zF,reduceCtorEq]
     refine hK _ ?_
     refine tri_cond rfl ?_
     refine tri_seq_region tt_ok fun K hK => ?_
     simp only [hn,g0,gk1,go_sem,reduceIte,zA,zB,zC,zD,zE,zF,reduceCtorEq]
     refine .inr <| .inl ⟨_, _, he _ km (gkm _ _), ?_⟩
     try simp only [hn,g0,g1,gs1,List.length_append,List.append_assoc,go_sem,reduceIte,zA,zB,zC,zD,zE,zF,reduceCtorEq]
     refine hK _ ?_
     refine tri_seq_region tt_ok fun K hK => ?_
     simp only [gk2,g0,g1,hn,go_sem,reduceIte,zA,zB,zC,zD,zE,zF,reduceCtorEq]
     refine .inl ⟨_, _, hyt _, ?_⟩
     try simp only [go_sem,reduceIte,zA,zB,zC,zD,zE,zF,reduceCtorEq]
     refine hK _ ?_
     refine tri_cond rfl (tri_skip ?_)
     refine ⟨n + 1, [false,true,true,true,true], by rw [hn]; omega, by simp only [maskFr,belowV,belowL,belowB,zB,hk1s,hk2s,hk3s,hns,mkb], hbe _ _ _, ?_⟩
     dsimp only; rw [gt1, hO1]; rfl
    ·intro st1 hst1
     subst hst1
     obtain ⟨s1, hs1⟩ : ∃ s1, s1 = O.foldl step s := ⟨_, rfl⟩
     rw [← hs1] at hgO ⊢
     rw [hue, ← hO, List.foldl_append, ← hs1]
     have hks : ∀ y ∈ e.kids, y.wt ≤ N := fun y hy => by have := Ex.wt_kid hy; omega
     have hkl : e.kids.length ≤ 1048576 := by omega
     obtain ⟨ks, hkse⟩ : ∃ ks, ks = e.kids := ⟨_, rfl⟩
     rw [← hkse] at hcO hks hkl ⊢
     refine tri_seq ?_
     refine tri_seq_region tt_ok fun K hK => ?_
     simp only [hn,g0,length_encExs,go_sem,reduceIte,zA,zB,zC,zD,zE,zF,reduceCtorEq]
     refine hK _ ?_
     refine tri_block (tri_loop_inv (fun N st => ∃ i : Nat, N = ks.length - i ∧ i ≤ ks.length ∧ st = { fr := [.undef, .ptr k1 0, .ptr k2 0, .ptr k3 0, .undef, .undef, .undef, .undef, .undef, .undef, .undef, .undef, .undef, .undef, .undef, .undef, .undef, .undef, .undef, .undef, .undef, .undef, .undef, .undef, .undef, .undef, .undef, .undef, .undef, .undef, .undef, .slice (encExs ks), num ks.length, num i, .undef, .undef, .undef, .undef, .undef, .undef, .undef, .undef], mem := M (((ks.take i).flatMap (usedG g)).foldl step s1) }) ks.length ?_ ?_)
     ·refine ⟨n, (false::true::true::true::(rp 27 false [true,true,true])), by rw [hn]; exact Nat.le_refl _, by simp only [maskFr,belowV,belowL,belowB,zB,hk1,hk2,hk3,mkb], by dsimp only; rw [gt]; exact hb _, 0, by omega, by omega, ?_⟩
      dsimp only; rw [gt]; rfl
     ·rintro N' st ⟨i, rfl, hi, rfl⟩
      by_cases hlt : i < ks.length
      ·have hd := lt_dec hlt
       refine tri_seq_region tt_ok fun K hK => ?_
       simp only [length_encExs,hd,go_sem,reduceIte,zA,zB,zC,zD,zE,zF,reduceCtorEq]
       refine hK _ ?_
       refine tri_seq (tri_cond rfl (tri_skip ?_))
       refine tri_seq (tri_block ?_)
       obtain ⟨u, hu⟩ : ∃ u, ks[i]? = some u := ⟨_, List.getElem?_eq_getElem hlt⟩
       have htk : (ks.take (i + 1)).flatMap (usedG g) = (ks.take i).flatMap (usedG g) ++ usedG g u := by rw [List.take_add_one, hu]; simp
       have hsp : ks.flatMap (usedG g) = (ks.take (i + 1)).flatMap (usedG g) ++ (ks.drop (i + 1)).flatMap (usedG g) := by rw [← List.flatMap_append, List.take_append_drop]
       have hlen : ((ks.take i).flatMap (usedG g)).length + (usedG g u).length ≤ (ks.flatMap (usedG g)).length := by rw [hsp, htk, List.length_append, List.length_append]; omega
       have hgi := foldG hG1 ((ks.take i).flatMap (usedG g)) _ s1 hgO (by omega)
       have hrec := fun l => ihf u _ _ l hgi (by omega) (hks u (List.mem_of_getElem? hu))
       rw [← List.foldl_append, ← htk] at hrec
       obtain ⟨s', hs'⟩ : ∃ s', s' = ((ks.take i).flatMap (usedG g)).foldl step s1 := ⟨_, rfl⟩
       rw [← hs'] at hrec ⊢
       refine tri_seq_region tt_ok fun K hK => ?_
       simp only [get_encExs,hu,encEx_eq,exCells,hn,g0,gs,go_sem,reduceIte,zA,zB,zC,zD,zE,zF,reduceCtorEq]
       refine hK _ ?_
       refine tri_seq_region tt_ok fun K hK => ?_
       simp only [gk3,g0,hn,go_sem,reduceIte,zA,zB,zC,zD,zE,zF,reduceCtorEq]
       refine .inr <| .inl ⟨_, _, hrec _, ?_⟩
       try simp only [go_sem,reduceIte,zA,zB,zC,zD,zE,zF,reduceCtorEq]
       refine hK _ ?_
       refine tri_cond rfl (tri_skip ?_)
       show Tri _ _ _ _ _ _
       refine tri_last_region tt_ok fun K hK => ?_
       simp only [go_sem,reduceIte,zA,zB,zC,zD,zE,zF,reduceCtorEq]
       refine hK _ ?_
       have hw2 := i64_succ i (by omega)
       rw [hw2]
       refine ⟨ks.length - (i + 1), by omega, n, (false::true::true::true::(rp 27 false [true,true,true])), by rw [hn]; exact Nat.le_refl _, by simp only [maskFr,belowV,belowL,belowB,zB,hk1,hk2,hk3,mkb], by dsimp only; rw [gt]; exact hb _, i + 1, rfl, hlt, ?_⟩
       dsimp only; rw [gt]; rfl
      ·have hd := ge_dec hlt
       refine tri_seq_region tt_ok fun K hK => ?_
       simp only [length_encExs,hd,go_sem,reduceIte,zA,zB,zC,zD,zE,zF,reduceCtorEq]
       refine hK _ ?_
       refine tri_seq (tri_cond rfl (tri_exit ?_))
       have hie : i = ks.length := by omega
       subst hie
       show Tri _ _ _ _ _ _
       refine tri_seq_region tt_ok fun K hK => ?_
       simp only [go_sem,reduceIte,zA,zB,zC,zD,zE,zF,reduceCtorEq]
       refine hK _ ?_
       refine tri_ret ⟨.inl rfl, ?_⟩
       try rw [List.take_length]
       exact ⟨rfl, rfl, by dsimp only; rw [gt']; exact hb _, (gt' _).symm⟩
end
end Go.Proofs.YtefbaladomfccaaGreatDoor
end

section
namespace Go.Proofs.YtefbaladomfccaaGreatDoor
open Go.Eng
open Nat renaming reduceAdd → zA, reduceLT → zB, reduceLeDiff → zC, reduceMul → zD, reduceEqDiff → zE, reduceSub → zF
variable [Glob]
set_option maxHeartbeats 4000000
set_option maxRecDepth 100000
section
variable {σ : Type} {M : σ → List Blk} {n k kb ke km : Nat}
theorem iterA_ok (g : GD) (e : Ex) (hn : ∀ s, (M s).length = n) (hk : k < n) (hkb : kb < n) (hke : ke < n) (hkm : km < n) (h1 : ∀ s, (M s)[kb]? = some (.box [.mp km])) (hm : ∀ s, (M s)[km]? = some (.map (mkM usV 0 (encG g)) (encG g).length)) (h2 : ∀ s, (M s)[ke]? = some (.box (exCells e))) (hb : ∀ s, (M s).all (belowB n) = true)
  (step : σ → Us → σ) (G : Nat → σ → Prop) {B : Nat} (hy : ∀ c s u, c < B → G c s → YOk Tryz.prog k [encU u] (M s) true (M (step s u)) ∧ G (c + 1) (step s u)) (hB : (usedG g e).length ≤ B) (he : e.wt ≤ 1048576) (s : σ) (hs : G 0 s) :
  FnOkS Tryz.prog 178 [.yld k, .ptr kb 0, .ptr ke 0] (M s) (.tup []) (M ((usedG g e).foldl step s)) := by
 have g0 : ∀ s (l : List Blk), (M s ++ l)[n]? = l[0]? := fun s l => by rw [List.getElem?_append_right (by rw [hn]; exact Nat.le_refl _), hn, Nat.sub_self]
 have g1 : ∀ s (l : List Blk), (M s ++ l)[n + 1]? = l[1]? := fun s l => by rw [List.getElem?_append_right (by rw [hn]; omega), hn, Nat.add_sub_cancel_left]
 have gke : ∀ s (l : List Blk), (M s ++ l)[ke]? = some (.box (exCells e)) := fun s l => by rw [List.getElem?_append_left (by rw [hn]; exact hke)]; exact h2 s
 have gs : ∀ s (l : List Blk) X, (M s ++ l).set (n + 1) X = M s ++ l.set 1 X := fun s l X => by rw [List.set_append_right _ _ (by rw [hn]; omega), hn, Nat.add_sub_cancel_left]
 have gt : ∀ s (l : List Blk), (M s ++ l).take n = M s := fun s l => by rw [← hn s, List.take_left]
 have hw : FnOkS Tryz.prog 179 [encEx e, .ptr kb 0, .ptr n 0, .ptr (n + 1) 0] (M s ++ [.box [.yld k], .box [.clo (.func 179) [] [.ptr kb 0, .ptr n 0, .ptr (n + 1) 0]]]) (bl true) (M ((usedG g e).foldl step s) ++ [.box [.yld k], .box [.clo (.func 179) [] [.ptr kb 0, .ptr n 0, .ptr (n + 1) 0]]]) := by
  refine walkA_ok (M := fun s => M s ++ [.box [.yld k], .box [.clo (.func 179) [] [.ptr kb 0, .ptr n 0, .ptr (n + 1) 0]]]) (n := n + 2) (k := k) (k1 := kb) (k2 := n) (k3 := n + 1) (km := km) g (fun s => by simp [hn]) (by omega) (by omega) (by omega) (by omega) (by omega) (fun s => by rw [List.getElem?_append_left (by rw [hn]; exact hkb)]; exact h1 s) (fun s => by rw [List.getElem?_append_left (by rw [hn]; exact hkm)]; exact hm s) (fun s => g0 _ _) (fun s => g1 _ _) (fun s => ?_) step G (B := B) (fun c s u hc hg => ⟨?_, (hy c s u hc hg).2⟩) e.wt e 0 s hs (by omega) (Nat.le_refl _) he
  ·rw [List.all_append, Bool.and_eq_true]
   refine ⟨belowBs_mono (by omega) (hb s), ?_⟩
   simp [belowB, belowV, belowL]; omega
  ·refine (hy c s u hc hg).1.frame (by rw [hn]; exact hk) ?_ (by rw [hn]; exact hb s) (by rw [hn, hn]) (by rw [hn]; exact hb _) _
   simp [encU, belowV, belowL]
 refine fns_ok tt_ok (fn := Tryz.f178) n (by rw [hn]; exact Nat.le_refl _) Tryz.func178 rfl Tryz.call178 ?_
 simp only [ltb,startSt,Tryz.ntmps178,List.length_cons,List.length_nil,zA,zF,List.replicate_succ,List.replicate_zero]
 rw [encEx_eq] at hw
 simp only [exCells] at hw gke
 refine tri_seq_region tt_ok fun K hK => ?_
 simp only [hn,go_sem,reduceIte,zA,zB,zC,zD,zE,zF,reduceCtorEq]
 refine hK _ ?_
 refine tri_seq_region tt_ok fun K hK => ?_
 simp only [hn,List.length_append,List.append_assoc,go_sem,reduceIte,zA,zB,zC,zD,zE,zF,reduceCtorEq]
 refine hK _ ?_
 refine tri_seq_region tt_ok fun K hK => ?_
 simp only [hn,g1,gs,go_sem,reduceIte,zA,zB,zC,zD,zE,zF,reduceCtorEq]
 refine hK _ ?_
 refine tri_last_region tt_ok fun K hK => ?_
 simp only [hn,g1,gke,go_sem,reduceIte,zA,zB,zC,zD,zE,zF,reduceCtorEq]
 refine .inr <| .inl ⟨_, _, hw, ?_⟩
 try simp only [go_sem,reduceIte,zA,zB,zC,zD,zE,zF,reduceCtorEq]
 refine hK _ ?_
 refine ⟨.inr rfl, rfl, rfl, ?_, ?_⟩
 ·dsimp only; rw [gt]; exact hb _
 ·dsimp only; rw [gt]
end
theorem take_set {mem pre : List Blk} {n : Nat} {X Y : Blk} (hn : pre.length = n) (h1 : mem[n]? = some Y) (h2 : mem.take n = pre) : (mem.set n X).take (n + 1) = pre ++ [X] := by
 have hlt : n < mem.length := (List.getElem?_eq_some_iff.1 h1).1
 refine List.ext_getElem? fun i => ?_
 by_cases hi : i < n
 ·rw [List.getElem?_take_of_lt (by omega), List.getElem?_set_ne (by omega), List.getElem?_append_left (by omega), ← h2, List.getElem?_take_of_lt hi]
 ·by_cases hin : i = n
  ·subst hin
   rw [List.getElem?_take_of_lt (by omega), List.getElem?_set_self hlt, List.getElem?_append_right (by omega)]
   simp [hn]
  ·rw [List.getElem?_eq_none (by simp; omega), List.getElem?_eq_none (by simp [hn]; omega)]
section
variable {σ : Type}
theorem tri_used {n0 : Nat} {st : St} {Q : Exit → St → Prop} {f : Operand} {params : Array Tmp} {assign body : Code} (g : GD) (e : Ex) (pre : σ → List Blk) (s0 : σ) (n kb ke km : Nat) (hmem : st.mem = pre s0) (hn : ∀ s, (pre s).length = n) (hkb : kb < n) (hke : ke < n) (hkm : km < n)
  (h1 : ∀ s, (pre s)[kb]? = some (.box [.mp km])) (hm : ∀ s, (pre s)[km]? = some (.map (mkM usV 0 (encG g)) (encG g).length)) (h2 : ∀ s, (pre s)[ke]? = some (.box (exCells e))) (hb : ∀ s, (pre s).all (belowB (n + 1)) = true) (hfr : st.fr.all (belowV (n + 1)) = true) (hf : st.eval f = .clo (.func 178) [] [.ptr kb 0, .ptr ke 0]) (hp : params.size = 1)
  (step : σ → Us → σ) (G : Nat → σ → Prop) {B : Nat} (hB : (usedG g e).length ≤ B) (he : e.wt ≤ 1048576)
  (hbody : ∀ i s u, i < B → G i s → G (i + 1) (step s u) ∧ ∀ (l : Nat) (LR LB : Blk), belowB (n + 1) LR = true → belowB (n + 1) LB = true → Tri Tryz.prog (some l) (n + 1) assign { fr := setPs params.toList [encU u] st.fr, mem := pre s ++ [LR] } fun ex st1 => ex = .normal ∧ st1.mem[n]? = some LR ∧
   Tri Tryz.prog (some l) (n + 1) body { st1 with mem := st1.mem.set n LB } fun ex st2 => jumpOf ex = some none ∧ st2.mem[n]? = some LB ∧ st2.mem.take n = pre (step s u))
  (h0 : G 0 s0) (hq : Q .normal { st with mem := pre ((usedG g e).foldl step s0) ++ [.dead] }) : Tri Tryz.prog none n0 (.rangeFunc f params assign body) st Q := by
 have hlen : st.mem.length = n := by rw [hmem, hn]
 have gn : ∀ s X, (pre s ++ [X])[n]? = some X := fun s X => by rw [List.getElem?_append_right (by rw [hn]; exact Nat.le_refl _), hn, Nat.sub_self]; rfl
 have gl : ∀ s X j, j < n → (pre s ++ [X])[j]? = (pre s)[j]? := fun s X j hj => List.getElem?_append_left (by rw [hn]; exact hj)
 have gset : ∀ s (X Y : Blk), (pre s ++ [X]).set n Y = pre s ++ [Y] := fun s X Y => by rw [List.set_append_right _ _ (by rw [hn]; exact Nat.le_refl _), hn, Nat.sub_self]; rfl
 have hball : ∀ (s : σ) (a : LoopState) (b : Option Code), (pre s ++ [Blk.loop a b st.fr params assign body]).all (belowB (n + 1)) = true := fun s a b => by
  rw [List.all_append, Bool.and_eq_true]
  exact ⟨hb s, by simp only [List.all_cons,List.all_nil,Bool.and_true,belowB]; exact hfr⟩
 have it := iterA_ok (M := fun s : σ => pre s ++ [.loop .ready none st.fr params assign body]) (n := n + 1) (k := n) (kb := kb) (ke := ke) (km := km) g e (fun s => by simp [hn]) (by omega) (by omega) (by omega) (by omega) (fun s => by rw [gl _ _ _ hkb]; exact h1 s) (fun s => by rw [gl _ _ _ hkm]; exact hm s) (fun s => by rw [gl _ _ _ hke]; exact h2 s) (fun s => hball _ _ _)
  step G (B := B) (fun i s u hi hG => by
   obtain ⟨hG', hbd⟩ := hbody i s u hi hG
   refine ⟨?_, hG'⟩
   refine yok_of_body (fr := st.fr) (params := params) (assign := assign) (body := body) (gn _ _) (by simp [hp]) fun l => ?_
   have hl : (pre s ++ [Blk.loop .ready none st.fr params assign body]).length = n + 1 := by simp [hn]
   simp only [hl]
   refine Tri.mono (hbd l (.loop .ready none st.fr params assign body) (.loop .busy none st.fr params assign body) hfr hfr) ?_
   rintro ex st1 ⟨h1, h2, h3⟩
   refine ⟨h1, h2, Tri.mono h3 ?_⟩
   rintro ex st2 ⟨h4, h5, h6⟩
   refine ⟨_, h4, rfl, h5, ?_, ?_⟩
   ·rw [take_set (hn _) h5 h6]; exact hball _ _ _
   ·rw [take_set (hn _) h5 h6]; rfl) hB he s0 h0
 refine tri_rangeFunc (g := 178) (vs := [.yld n, .ptr kb 0, .ptr ke 0]) (by rw [hf, hlen]; rfl) (by rw [hmem]; exact it) ?_
 rw [hlen]
 refine ⟨.ready, none, _, _, _, _, gn _ _, by simp, ?_⟩
 dsimp only
 rw [gset]
 exact hq
end
theorem foldl_push (l : List Us) : ∀ a : List Us, l.foldl (fun acc u => acc ++ [u]) a = a ++ l := by
 induction l with
 | nil => simp
 | cons u r ih => intro a; rw [List.foldl_cons, ih]; simp
theorem aseq_ok (g : GD) (e : Ex) (m : List Blk) (kb ke km : Nat) (hkb : m[kb]? = some (.box [.mp km])) (hkm : m[km]? = some (.map (mkM usV 0 (encG g)) (encG g).length)) (hke : m[ke]? = some (.box (exCells e))) (he : e.wt ≤ 1048576) (hb : m.all (belowB m.length) = true) :
  FnOkS Tryz.prog 177 [.sc (.slice none 0 0), .clo (.func 178) [] [.ptr kb 0, .ptr ke 0]] m (.ms (m.length + 1) (usedG g e).length 0 (usedG g e).length) (m ++ [.box [.ms (m.length + 1) (usedG g e).length 0 (usedG g e).length], .rows (usedG g e).length 2 ((usedG g e).map encU)]) := by
 have hlb : kb < m.length := (List.getElem?_eq_some_iff.1 hkb).1
 have hle : ke < m.length := (List.getElem?_eq_some_iff.1 hke).1
 have hlm : km < m.length := (List.getElem?_eq_some_iff.1 hkm).1
 have hul : (usedG g e).length ≤ e.wt := usedE_len (fun v => lookU v g) e
 have a0 : ∀ l : List Blk, (m ++ l)[m.length]? = l[0]? := fun l => by rw [List.getElem?_append_right (by omega), Nat.sub_self]
 have a1 : ∀ l : List Blk, (m ++ l)[m.length + 1]? = l[1]? := fun l => by rw [List.getElem?_append_right (by omega), Nat.add_sub_cancel_left]
 have a2 : ∀ l : List Blk, (m ++ l)[m.length + 2]? = l[2]? := fun l => by rw [List.getElem?_append_right (by omega), Nat.add_sub_cancel_left]
 have a3 : ∀ l : List Blk, (m ++ l)[m.length + 3]? = l[3]? := fun l => by rw [List.getElem?_append_right (by omega), Nat.add_sub_cancel_left]
 have a4 : ∀ l : List Blk, (m ++ l)[m.length + 4]? = l[4]? := fun l => by rw [List.getElem?_append_right (by omega), Nat.add_sub_cancel_left]
 have s0 : ∀ (l : List Blk) X, (m ++ l).set (m.length) X = m ++ l.set 0 X := fun l X => by rw [List.set_append_right _ _ (by omega), Nat.sub_self]
 have s1 : ∀ (l : List Blk) X, (m ++ l).set (m.length + 1) X = m ++ l.set 1 X := fun l X => by rw [List.set_append_right _ _ (by omega), Nat.add_sub_cancel_left]
 have s2 : ∀ (l : List Blk) X, (m ++ l).set (m.length + 2) X = m ++ l.set 2 X := fun l X => by rw [List.set_append_right _ _ (by omega), Nat.add_sub_cancel_left]
 have s3 : ∀ (l : List Blk) X, (m ++ l).set (m.length + 3) X = m ++ l.set 3 X := fun l X => by rw [List.set_append_right _ _ (by omega), Nat.add_sub_cancel_left]
 refine fns_ok tt_ok (fn := Tryz.f177) (m.length + 2) (by omega) Tryz.func177 rfl Tryz.call177 ?_
 simp only [ltb,startSt,Tryz.ntmps177,List.length_cons,List.length_nil,zA,zF,List.replicate_succ,List.replicate_zero]
 refine tri_seq_region tt_ok fun K hK => ?_
 simp only [go_sem,reduceIte,zA,zB,zC,zD,zE,zF,reduceCtorEq]
 refine hK _ ?_
 refine tri_seq ?_
 refine tri_seq_region tt_ok fun K hK => ?_
 simp only [go_sem,reduceIte,zA,zB,zC,zD,zE,zF,reduceCtorEq]
 refine hK _ ?_
 refine tri_nilBox m.length 0 0 2 (by dsimp only; rw [a0]; rfl) rfl ?_
 dsimp only
 simp only [ltb,s0,List.set_cons_zero,List.append_assoc,List.length_append,List.length_cons,List.length_nil,Nat.zero_add,zA]
 refine tri_block (tri_used g e (fun l : List Us => m ++ [.box [.ms (m.length + 1) l.length 0 l.length], .rows l.length 2 (l.map encU)]) [] (m.length + 2) kb ke km rfl (fun l => by simp) (by omega) (by omega) (by omega) (fun l => by rw [List.getElem?_append_left hlb]; exact hkb) (fun l => by rw [List.getElem?_append_left hlm]; exact hkm) (fun l => by rw [List.getElem?_append_left hle]; exact hke) (fun l => ?_) ?_ rfl rfl (fun l u => l ++ [u]) (fun i l => l.length = i) (B := 1048576) (by omega) he ?_ rfl ?_)
 ·rw [List.all_append, Bool.and_eq_true]
  exact ⟨belowBs_mono (by omega) hb, by simp [belowB, belowV] <;> omega⟩
 ·simp [belowV, belowL] <;> omega
 ·intro i acc u hi hG
  refine ⟨by simp [hG], fun l LR LB hLR hLB => ?_⟩
  have hacc : acc.length + 1 ≤ 34359738368 := by omega
  have hf2 : firstOk [V.agg [V.sc (.string u.1), V.sc (.string u.2)]] 0 2 = true := rfl
  simp only [setPs,List.set_cons_succ,List.set_cons_zero,encU]
  refine tri_last_region tt_ok fun K hK => ?_
  simp only [a3,s3,List.length_append,List.append_assoc,go_sem,reduceIte,zA,zB,zC,zD,zE,zF,reduceCtorEq]
  refine hK _ ?_
  refine ⟨rfl, by dsimp only; rw [a2]; rfl, tri_block ?_⟩
  simp only [s2,List.set_cons_succ,List.set_cons_zero]
  have hml : (acc.map encU).length = acc.length := List.length_map ..
  refine tri_last_region tt_ok fun K hK => ?_
  simp only [a0,a1,a3,a4,s0,s1,hf2,hml,hacc,List.length_append,List.append_assoc,go_sem,reduceIte,zA,zB,zC,zD,zE,zF,reduceCtorEq]
  refine hK _ ?_
  refine ⟨rfl, by dsimp only; rw [a2]; rfl, ?_⟩
  dsimp only
  rw [List.take_append, List.take_of_length_le (by omega), Nat.add_sub_cancel_left]
  simp [encU]
 ·rw [foldl_push, List.nil_append]
  show Tri _ _ _ _ _ _
  refine tri_seq_region tt_ok fun K hK => ?_
  simp only [a0,List.append_assoc,go_sem,reduceIte,zA,zB,zC,zD,zE,zF,reduceCtorEq]
  refine hK _ ?_
  have ht : ∀ l : List Blk, (m ++ l).take (m.length + 2) = m ++ l.take 2 := fun l => by rw [List.take_append, List.take_of_length_le (by omega), Nat.add_sub_cancel_left]
  refine tri_ret ⟨.inl rfl, rfl, by simp [belowV], ?_, ?_⟩
  ·dsimp only
   rw [ht, List.all_append, Bool.and_eq_true]
   exact ⟨belowBs_mono (by omega) hb, by simp [belowB, belowV]⟩
  ·dsimp only
   rw [ht]; rfl
theorem acoll_ok (g : GD) (e : Ex) (m : List Blk) (kb ke km : Nat) (hkb : m[kb]? = some (.box [.mp km])) (hkm : m[km]? = some (.map (mkM usV 0 (encG g)) (encG g).length)) (hke : m[ke]? = some (.box (exCells e))) (he : e.wt ≤ 1048576) (hb : m.all (belowB m.length) = true) :
  FnOkS Tryz.prog 124 [.clo (.func 178) [] [.ptr kb 0, .ptr ke 0]] m (.ms (m.length + 1) (usedG g e).length 0 (usedG g e).length) (m ++ [.box [.ms (m.length + 1) (usedG g e).length 0 (usedG g e).length], .rows (usedG g e).length 2 ((usedG g e).map encU)]) := by
 refine fns_ok tt_ok (fn := Tryz.f124) (m.length + 2) (by omega) Tryz.func124 rfl Tryz.call124 ?_
 simp only [ltb,startSt,Tryz.ntmps124,List.length_cons,List.length_nil,zA,zF,List.replicate_succ,List.replicate_zero]
 refine tri_seq_region tt_ok fun K hK => ?_
 simp only [go_sem,reduceIte,zA,zB,zC,zD,zE,zF,reduceCtorEq]
 refine hK _ ?_
 refine tri_seq_region tt_ok fun K hK => ?_
 simp only [go_sem,reduceIte,zA,zB,zC,zD,zE,zF,reduceCtorEq]
 refine .inr <| .inl ⟨_, _, aseq_ok g e m kb ke km hkb hkm hke he hb, ?_⟩
 try simp only [go_sem,reduceIte,zA,zB,zC,zD,zE,zF,reduceCtorEq]
 refine hK _ ?_
 have ht : ∀ l : List Blk, (m ++ l).take (m.length + 2) = m ++ l.take 2 := fun l => by rw [List.take_append, List.take_of_length_le (by omega), Nat.add_sub_cancel_left]
 refine tri_ret ⟨.inl rfl, rfl, by simp [belowV], ?_, ?_⟩
 ·dsimp only
  rw [ht, List.all_append, Bool.and_eq_true]
  exact ⟨belowBs_mono (by omega) hb, by simp [belowB, belowV]⟩
 ·dsimp only
  rw [ht]; rfl
theorem used_ok (e : Ex) (m : List Blk) (km : Nat) (hkm : km < m.length) (hb : m.all (belowB m.length) = true) :
  FnOkS Tryz.prog 125 [.mp km, encEx e] m (.clo (.func 178) [] [.ptr m.length 0, .ptr (m.length + 1) 0]) (m ++ [.box [.mp km], .box (exCells e)]) := by
 refine fns_ok tt_ok (fn := Tryz.f125) (m.length + 2) (by omega) Tryz.func125 rfl Tryz.call125 ?_
 simp only [ltb,startSt,Tryz.ntmps125,List.length_cons,List.length_nil,zA,zF,List.replicate_succ,List.replicate_zero]
 rw [encEx_eq]
 simp only [exCells]
 refine tri_seq_region tt_ok fun K hK => ?_
 simp only [List.length_append,List.append_assoc,go_sem,reduceIte,zA,zB,zC,zD,zE,zF,reduceCtorEq]
 refine hK _ ?_
 refine tri_seq_region tt_ok fun K hK => ?_
 simp only [go_sem,reduceIte,zA,zB,zC,zD,zE,zF,reduceCtorEq]
 refine hK _ ?_
 have ht : ∀ l : List Blk, (m ++ l).take (m.length + 2) = m ++ l.take 2 := fun l => by rw [List.take_append, List.take_of_length_le (by omega), Nat.add_sub_cancel_left]
 refine tri_ret ⟨.inl rfl, rfl, by simp [belowV, belowL], ?_, ?_⟩
 ·dsimp only
  rw [ht, List.all_append, Bool.and_eq_true]
  exact ⟨belowBs_mono (by omega) hb, by simp [belowB, belowV]; omega⟩
 ·dsimp only
  rw [ht]; rfl
end Go.Proofs.YtefbaladomfccaaGreatDoor
end
