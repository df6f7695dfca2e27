/-
  MAPS with keys of one kind: what reading and writing come to, as lists of keys and values.
  USES: their equality, their order, as keys of maps; insertion in order.
-/
import Derived.Test.YtefbaladomfccaaGreatDoorH5
set_option linter.all false
section
namespace Go.Proofs.YtefbaladomfccaaGreatDoor
open Go.Eng
variable [Glob]
section
variable {α : Type} [DecidableEq α]
def mkM (kv : α → Value) : Nat → List (α × V) → List (Value × Nat × V)
 | _, [] => []
 | n, (k, v) :: r => (kv k, n, v) :: mkM kv (n + 1) r
theorem mkM_length (kv : α → Value) : ∀ (g : List (α × V)) (n : Nat), (mkM kv n g).length = g.length
 | [], _ => rfl
 | _ :: r, n => by simp [mkM, mkM_length kv r (n + 1)]
theorem mkM_get (kv : α → Value) : ∀ (g : List (α × V)) (n i : Nat), (mkM kv n g)[i]? = g[i]?.map fun e => (kv e.1, n + i, e.2)
 | [], _, _ => rfl
 | e :: r, n, 0 => rfl
 | e :: r, n, i + 1 => by
  show (mkM kv (n + 1) r)[i]? = _
  rw [mkM_get kv r (n + 1) i, show n + 1 + i = n + (i + 1) by omega]; rfl
theorem mkM_snoc (kv : α → Value) (k : α) (v : V) : ∀ (g : List (α × V)) (n : Nat), mkM kv n (g ++ [(k, v)]) = mkM kv n g ++ [(kv k, n + g.length, v)]
 | [], _ => rfl
 | e :: r, n => by
  show (kv e.1, n, e.2) :: mkM kv (n + 1) (r ++ [(k, v)]) = (kv e.1, n, e.2) :: (mkM kv (n + 1) r ++ _)
  rw [mkM_snoc kv k v r (n + 1), List.length_cons, show n + 1 + r.length = n + (r.length + 1) by omega]
theorem mkM_set (kv : α → Value) (k : α) (v : V) : ∀ (g : List (α × V)) (n i : Nat), i < g.length → mkM kv n (g.set i (k, v)) = (mkM kv n g).set i (kv k, n + i, v)
 | [], _, _, h => by simp at h
 | e :: r, n, 0, _ => rfl
 | e :: r, n, i + 1, h => by
  show (kv e.1, n, e.2) :: mkM kv (n + 1) (r.set i (k, v)) = (kv e.1, n, e.2) :: (mkM kv (n + 1) r).set i _
  rw [mkM_set kv k v r (n + 1) i (by simpa using h), show n + 1 + i = n + (i + 1) by omega]
theorem mkM_all (kv : α → Value) (p : V → Bool) : ∀ (g : List (α × V)) (n : Nat), ((mkM kv n g).all fun e => p e.2.2) = g.all fun e => p e.2
 | [], _ => rfl
 | _ :: r, n => by simp [mkM, mkM_all kv p r (n + 1)]
def findM (a : α) : List (α × V) → Nat → Option (Nat × V)
 | [], _ => none
 | e :: r, i => if e.1 = a then some (i, e.2) else findM a r (i + 1)
def getM (a : α) : List (α × V) → Option V
 | [] => none
 | e :: r => if e.1 = a then some e.2 else getM a r
theorem findM_val (a : α) : ∀ (g : List (α × V)) (i : Nat), (findM a g i).map (·.2) = getM a g
 | [], _ => rfl
 | e :: r, i => by
  unfold findM getM
  split
  ·rfl
  ·exact findM_val a r (i + 1)
theorem findM_at {a : α} : ∀ {g : List (α × V)} {n i : Nat} {v : V}, findM a g n = some (i, v) → n ≤ i ∧ g[i - n]? = some (a, v)
 | [], _, _, _, h => by simp [findM] at h
 | e :: r, n, i, v, h => by
  unfold findM at h
  split at h
  ·rename_i he; cases h; subst he; simp
  ·obtain ⟨h1, h2⟩ := findM_at h
   refine ⟨by omega, ?_⟩
   rw [show i - n = (i - (n + 1)) + 1 by omega]; simpa using h2
structure KT (P : Program) (T kt et : TypeId) (kv : α → Value) (ky : α → V) : Prop where
 map : mapDesc P T = some (kt, et)
 val : ∀ a, toVal (ky a) = some (kv a)
 ok : ∀ a, keyOk P kt (kv a) = true
 bits : ∀ a, Instr.sameBits 10000 (kv a) (kv a) = true
 find : ∀ (a : α) (g : List (α × V)), findV P kt (kv a) (mkM kv 0 g) = some (findM a g 0)
theorem KT.now {P : Program} {kt : TypeId} {kv : α → Value} {d : TypeDesc} (hd : P.underlying kt = some d) (h : ∀ a b, Instr.sameNow d (kv a) (kv b) = some (decide (b = a))) (a : α) (g : List (α × V)) : findV P kt (kv a) (mkM kv 0 g) = some (findM a g 0) := by
 have key : ∀ (g : List (α × V)) (n i : Nat), findNowV d (kv a) (mkM kv n g) i = some (findM a g i) := by
  intro g
  induction g with
  | nil => intro n i; rfl
  | cons e r ih =>
   intro n i
   obtain ⟨k, v⟩ := e
   simp only [mkM,findNowV,findM,h]
   by_cases hk : k = a
   ·simp [hk]
   ·rw [decide_eq_false hk, if_neg hk]; exact ih _ _
 unfold findV
 rw [hd]
 dsimp only
 rw [key]
theorem KT.ask {P : Program} {kt : TypeId} {kv : α → Value} {d : TypeDesc} (hd : P.underlying kt = some d) (h0 : ∀ a b, Instr.sameNow d (kv a) (kv b) = none) (h : ∀ a b, scRunP P (Op.equal kt (kv a) (kv b)) = some (decide (a = b))) (a : α) (g : List (α × V)) : findV P kt (kv a) (mkM kv 0 g) = some (findM a g 0) := by
 have key : ∀ (g : List (α × V)) (n i : Nat), findAskV P kt (kv a) (mkM kv n g) i = some (findM a g i) := by
  intro g
  induction g with
  | nil => intro n i; rfl
  | cons e r ih =>
   intro n i
   obtain ⟨k, v⟩ := e
   simp only [mkM,findAskV,findM,h]
   by_cases hk : k = a
   ·simp [hk]
   ·rw [decide_eq_false (fun e => hk e.symm), if_neg hk]; exact ih _ _
 unfold findV
 rw [hd]
 dsimp only
 cases g with
 | nil => rfl
 | cons e r =>
  have : findNowV d (kv a) (mkM kv 0 (e :: r)) 0 = none := by
   obtain ⟨k, v⟩ := e
   simp only [mkM,findNowV,h0]
  rw [this]
  dsimp only
  exact key _ _ _
section
variable {P : Program} {T kt et : TypeId} {kv : α → Value} {ky : α → V}
def putM (a : α) (v : V) (g : List (α × V)) : List (α × V) := match findM a g 0 with
 | none => g ++ [(a, v)]
 | some (i, _) => g.set i (a, v)
theorem KT.put (h : KT P T kt et kv ky) (a : α) (v : V) (g : List (α × V)) {mem : List Blk} {b : Nat} (hm : mem[b]? = some (.map (mkM kv 0 g) g.length)) :
  insertV P mem T (.mp b) (ky a) v = some (mem.set b (.map (mkM kv 0 (putM a v g)) (putM a v g).length)) := by
 unfold insertV
 rw [h.map]
 dsimp only
 rw [h.val]
 dsimp only
 rw [if_pos (h.ok a), hm]
 dsimp only
 unfold insertAt
 rw [h.find]
 unfold putM
 cases hf : findM a g 0 with
 | none =>
  dsimp only
  rw [mkM_snoc, Nat.zero_add, List.length_append, List.length_singleton]
 | some p =>
  obtain ⟨i, w⟩ := p
  obtain ⟨-, h2⟩ := findM_at hf
  rw [Nat.sub_zero] at h2
  dsimp only
  rw [mkM_get, h2]
  dsimp only [Option.map_some]
  rw [if_pos (h.bits a)]
  dsimp only
  rw [mkM_set _ _ _ _ _ _ (List.getElem?_eq_some_iff.1 h2).1, List.length_set]
theorem KT.get (h : KT P T kt et kv ky) (a : α) (g : List (α × V)) {mem : List Blk} {b : Nat} (hm : mem[b]? = some (.map (mkM kv 0 g) g.length)) {z : V} (hz : zeroV P et = some z) (ok : Bool) :
  lookupV P mem T (.mp b) (ky a) ok = some (okV ok (getM a g).isSome ((getM a g).getD z)) := by
 unfold lookupV
 rw [h.map]
 dsimp only
 rw [h.val]
 dsimp only
 rw [if_pos (h.ok a)]
 unfold lookupIn
 dsimp only
 rw [hm]
 dsimp only
 rw [h.find, ← findM_val a g 0]
 cases hf : findM a g 0 with
 | none => dsimp only; rw [hz]; rfl
 | some p => rfl
end
end
end Go.Proofs.YtefbaladomfccaaGreatDoor
end

section
namespace Go.Proofs.YtefbaladomfccaaGreatDoor
open Go.Eng
variable [Glob]
set_option maxHeartbeats 4000000
set_option maxRecDepth 100000
structure Lin {α : Type} (lt : α → α → Bool) : Prop where
 irrefl : ∀ x, lt x x = false
 trans : ∀ x y z, lt x y = true → lt y z = true → lt x z = true
 tri : ∀ x y, lt x y = false → lt y x = false → x = y
section
variable {α : Type} [DecidableEq α] {lt : α → α → Bool}
theorem Lin.asymm (h : Lin lt) {x y : α} (hx : lt x y = true) : lt y x = false := by
 cases hy : lt y x with
 | false => rfl
 | true => have := h.trans x y x hx hy; rw [h.irrefl] at this; cases this
def insL (lt : α → α → Bool) : List α → α → List α
 | [], s => [s]
 | a :: r, s => if lt a s = true then a :: insL lt r s else if a = s then a :: r else s :: a :: r
def Asc (lt : α → α → Bool) (l : List α) : Prop := l.Pairwise fun a b => lt a b = true
theorem insL_mem {s : α} : ∀ {l : List α} {x : α}, x ∈ insL lt l s ↔ x = s ∨ x ∈ l
 | [], x => by simp [insL]
 | a :: r, x => by
  unfold insL
  split
  ·rw [List.mem_cons, insL_mem, List.mem_cons]
   constructor
   ·rintro (h | h | h)
    ·exact .inr (.inl h)
    ·exact .inl h
    ·exact .inr (.inr h)
   ·rintro (h | h | h)
    ·exact .inr (.inl h)
    ·exact .inl h
    ·exact .inr (.inr h)
  ·split
   ·rename_i h; subst h
    constructor
    ·exact .inr
    ·rintro (rfl | h)
     ·exact List.mem_cons_self ..
     ·exact h
   ·simp
theorem insL_asc (h : Lin lt) {s : α} : ∀ {l : List α}, Asc lt l → Asc lt (insL lt l s)
 | [], _ => by simp [insL, Asc]
 | a :: r, hl => by
  have h1 := List.pairwise_cons.1 hl
  unfold insL
  split
  ·rename_i ha
   refine List.pairwise_cons.2 ⟨fun b hb => ?_, insL_asc h h1.2⟩
   rcases insL_mem.1 hb with rfl | hb
   ·exact ha
   ·exact h1.1 b hb
  ·rename_i ha
   split
   ·exact hl
   ·rename_i he
    have hs : lt s a = true := by
     cases hsa : lt s a with
     | true => rfl
     | false => exact absurd (h.tri a s (by simpa using ha) hsa) he
    refine List.pairwise_cons.2 ⟨fun b hb => ?_, hl⟩
    rcases List.mem_cons.1 hb with rfl | hb
    ·exact hs
    ·exact h.trans _ _ _ hs (h1.1 b hb)
theorem Asc.ext (h : Lin lt) : ∀ {l m : List α}, Asc lt l → Asc lt m → (∀ x, x ∈ l ↔ x ∈ m) → l = m
 | [], [], _, _, _ => rfl
 | [], b :: r, _, _, he => by have := (he b).2 (List.mem_cons_self ..); simp at this
 | a :: r, [], _, _, he => by have := (he a).1 (List.mem_cons_self ..); simp at this
 | a :: r, b :: t, hl, hm, he => by
  have h1 := List.pairwise_cons.1 hl
  have h2 := List.pairwise_cons.1 hm
  have hab : a = b := by
   rcases List.mem_cons.1 ((he a).1 (List.mem_cons_self ..)) with e | ha
   ·exact e
   ·rcases List.mem_cons.1 ((he b).2 (List.mem_cons_self ..)) with e | hb
    ·exact e.symm
    ·have q1 := h2.1 a ha
     have q2 := h.asymm (h1.1 b hb)
     rw [q1] at q2; cases q2
  subst hab
  rw [Asc.ext h h1.2 h2.2 fun x => ?_]
  constructor
  ·intro hx
   rcases List.mem_cons.1 ((he x).1 (List.mem_cons_of_mem _ hx)) with rfl | hx'
   ·have := h1.1 x hx; rw [h.irrefl] at this; cases this
   ·exact hx'
  ·intro hx
   rcases List.mem_cons.1 ((he x).2 (List.mem_cons_of_mem _ hx)) with rfl | hx'
   ·have := h2.1 x hx; rw [h.irrefl] at this; cases this
   ·exact hx'
def insAll (lt : α → α → Bool) (l m : List α) : List α := m.foldl (insL lt) l
theorem insAll_mem : ∀ {m l : List α} {x : α}, x ∈ insAll lt l m ↔ x ∈ l ∨ x ∈ m
 | [], l, x => by simp [insAll]
 | s :: m, l, x => by
  show x ∈ insAll lt (insL lt l s) m ↔ _
  rw [insAll_mem, insL_mem, List.mem_cons]
  constructor
  ·rintro ((h | h) | h)
   ·exact .inr (.inl h)
   ·exact .inl h
   ·exact .inr (.inr h)
  ·rintro (h | h | h)
   ·exact .inl (.inr h)
   ·exact .inl (.inl h)
   ·exact .inr h
theorem insAll_asc (h : Lin lt) : ∀ {m l : List α}, Asc lt l → Asc lt (insAll lt l m)
 | [], _, hl => hl
 | s :: m, l, hl => insAll_asc (m := m) (l := insL lt l s) h (insL_asc h hl)
end

theorem lin_str : Lin ltB := by
 refine ⟨fun x => ?_, fun x y z h1 h2 => ?_, fun x y h1 h2 => ?_⟩
 ·rw [ltB_eq]; exact decide_eq_false (List.lt_irrefl _)
 ·rw [ltB_eq] at *
  exact decide_eq_true (List.lt_trans (of_decide_eq_true h1) (of_decide_eq_true h2))
 ·rw [ltB_eq] at h1 h2
  have h1 := of_decide_eq_false h1
  have h2 := of_decide_eq_false h2
  have := List.le_antisymm (List.not_lt.1 h2) (List.not_lt.1 h1)
  exact ByteArray.ext (Array.toList_inj.1 this)
abbrev Us := ByteArray × ByteArray
def encU (u : Us) : V := .agg [str u.1, str u.2]
theorem scRunP_seq2 {P : Program} {T : TypeId} (hT : P.underlying T = some .string) (d : Nat) (a b : ByteArray) : scRunP P (Op.equalIn (d + 1) T (.string a) (.string b)) = some (a == b) := by
 rw [Op.equalIn, scRunP_bind, scRunP_underlying hT]
 rfl
theorem eqUse (a b c d : ByteArray) : scRunP Tryz.prog (Op.equal 78 (.agg #[.string a, .string b]) (.agg #[.string c, .string d])) = some (a == c && b == d) := by
 show scRunP Tryz.prog (Op.equalIn (9999 + 1) 78 _ _) = _
 have h1 := scRunP_seq2 Tryz.underlying9 9998 a c
 have h2 := scRunP_seq2 Tryz.underlying9 9998 b d
 have hs : Tryz.prog.stoodInHeld 78 = false := by kernel_rfl
 have hp1 : ∀ x y, scRunP Tryz.prog (part 9 #[x, y] 0) = some x := fun x y => by kernel_rfl
 have hp2 : ∀ x y, scRunP Tryz.prog (part 9 #[x, y] 1) = some y := fun x y => by kernel_rfl
 rw [Op.equalIn, scRunP_bind, scRunP_underlying Tryz.underlying78]
 dsimp only [Option.bind_some]
 rw [scRunP_bind]
 show ((some Tryz.prog).bind _) = _
 rw [Option.bind_some, if_neg (by rw [hs]; simp)]
 rw [← Array.forIn_toList]
 have n1 : ("Module" ≠ "_") := by decide
 have n2 : ("Name" ≠ "_") := by decide
 have q1 : scRunP Tryz.prog (Op.equalIn 9999 9 (Value.string a) (Value.string c)) = some (a == c) := h1
 have q2 : scRunP Tryz.prog (Op.equalIn 9999 9 (Value.string b) (Value.string d)) = some (b == d) := h2
 have pr : ∀ {α : Type} (x : α), scRunP Tryz.prog (pure x : Sem α) = some x := fun x => rfl
 simp only [List.forIn_cons,List.forIn_nil,scRunP_bind,if_pos n1,if_pos n2,hp1,hp2,Option.bind_some,q1,pr]
 cases hac : (a == c)
 ·simp [pr, Option.bind_some]
 ·simp only [Bool.not_true,Bool.false_eq_true,if_false,pr,Option.bind_some,scRunP_bind,if_pos n2,hp2,q2,Bool.true_and]
  cases hbd : (b == d) <;> simp [pr, scRunP_bind]
theorem us_beq (u v : Us) : (u.1 == v.1 && u.2 == v.2) = decide (u = v) := by
 rw [Bool.eq_iff_iff, Bool.and_eq_true, baBeq_iff, baBeq_iff, decide_eq_true_eq, Prod.ext_iff]
theorem ev_usneq (x y : Operand) (u v : Us) : lift2 Tryz.prog (opB .neq 78 x y) (.agg [str u.1, str u.2]) (.agg [str v.1, str v.2]) = some (bl (!decide (u = v))) := by
 have : scRunP Tryz.prog (do eqGuard .neq 78 x y (.agg #[.string u.1, .string u.2]) (.agg #[.string v.1, .string v.2]); binOp .neq 78 (.agg #[.string u.1, .string u.2]) (.agg #[.string v.1, .string v.2])) = some (.bool (!decide (u = v))) := by
  have hg : scRunP Tryz.prog (eqGuard .neq 78 x y (.agg #[.string u.1, .string u.2]) (.agg #[.string v.1, .string v.2])) = some () := by kernel_rfl
  rw [scRunP_bind, hg, Option.bind_some]
  have hb : ∀ u v : Array Value, binOp .neq 78 (.agg u) (.agg v) = (Op.equal 78 (.agg u) (.agg v) >>= fun r => Pure.pure (Value.bool !r)) := fun u v => rfl
  rw [hb, scRunP_bind, eqUse, us_beq]; rfl
 simp only [lift2,toVal,allSc,opB]
 rw [this]; rfl
theorem ev_useql (x y : Operand) (u v : Us) : lift2 Tryz.prog (opB .eql 78 x y) (.agg [str u.1, str u.2]) (.agg [str v.1, str v.2]) = some (bl (decide (u = v))) := by
 have : scRunP Tryz.prog (do eqGuard .eql 78 x y (.agg #[.string u.1, .string u.2]) (.agg #[.string v.1, .string v.2]); binOp .eql 78 (.agg #[.string u.1, .string u.2]) (.agg #[.string v.1, .string v.2])) = some (.bool (decide (u = v))) := by
  have hg : scRunP Tryz.prog (eqGuard .eql 78 x y (.agg #[.string u.1, .string u.2]) (.agg #[.string v.1, .string v.2])) = some () := by kernel_rfl
  rw [scRunP_bind, hg, Option.bind_some]
  have hb : ∀ u v : Array Value, binOp .eql 78 (.agg u) (.agg v) = (Op.equal 78 (.agg u) (.agg v) >>= fun r => Pure.pure (Value.bool r)) := fun u v => rfl
  rw [hb, scRunP_bind, eqUse, us_beq]; rfl
 simp only [lift2,toVal,allSc,opB]
 rw [this]; rfl
def ltU (u v : Us) : Bool := ltB u.1 v.1 || decide (u.1 = v.1) && ltB u.2 v.2
theorem lin_us : Lin ltU := by
 have hl := lin_str
 refine ⟨fun x => ?_, fun x y z h1 h2 => ?_, fun x y h1 h2 => ?_⟩
 ·simp [ltU, hl.irrefl]
 ·unfold ltU at *
  rw [Bool.or_eq_true, Bool.and_eq_true, decide_eq_true_eq] at *
  rcases h1 with h1 | ⟨h1, h1'⟩
  ·rcases h2 with h2 | ⟨h2, h2'⟩
   ·exact .inl (hl.trans _ _ _ h1 h2)
   ·rw [← h2]; exact .inl h1
  ·rcases h2 with h2 | ⟨h2, h2'⟩
   ·rw [h1]; exact .inl h2
   ·exact .inr ⟨h1.trans h2, hl.trans _ _ _ h1' h2'⟩
 ·unfold ltU at h1 h2
  rw [Bool.or_eq_false_iff, Bool.and_eq_false_iff] at h1 h2
  have e1 : x.1 = y.1 := hl.tri _ _ h1.1 h2.1
  have a1 : ltB x.2 y.2 = false := h1.2.elim (fun h => absurd e1 (of_decide_eq_false h)) id
  have a2 : ltB y.2 x.2 = false := h2.2.elim (fun h => absurd e1.symm (of_decide_eq_false h)) id
  exact Prod.ext e1 (hl.tri _ _ a1 a2)
def usV (u : Us) : Value := .agg #[.string u.1, .string u.2]
theorem eqUs (u v : Us) : scRunP Tryz.prog (Op.equal 78 (usV u) (usV v)) = some (decide (u = v)) := by
 show scRunP Tryz.prog (Op.equal 78 (.agg #[.string u.1, .string u.2]) (.agg #[.string v.1, .string v.2])) = _
 rw [eqUse, us_beq]
theorem keyOk_us (u : Us) : keyOk Tryz.prog 78 (usV u) = true := by
 obtain ⟨a, b⟩ := u
 kernel_rfl
theorem bits_us (u : Us) : Instr.sameBits 10000 (usV u) (usV u) = true := by
 have h : ∀ s : ByteArray, Instr.sameBits 9999 (.string s) (.string s) = true := fun s => (baBeq_iff s s).2 rfl
 show Instr.sameBits (9999 + 1) (usV u) (usV u) = true
 unfold usV
 rw [Instr.sameBits]
 simp [h]
def strVal (s : ByteArray) : Value := .string s
theorem ktStr {T et : TypeId} (h : mapDesc Tryz.prog T = some (9, et)) : KT Tryz.prog T 9 et strVal str :=
 ⟨h, fun _ => rfl, fun a => by unfold keyOk; rw [Tryz.underlying9], fun a => (baBeq_iff a a).2 rfl,
  KT.now Tryz.underlying9 fun a b => by
   show some (a == b) = some (decide (b = a))
   congr 1
   rw [Bool.eq_iff_iff, baBeq_iff, decide_eq_true_eq]
   exact ⟨fun h => h.symm, fun h => h.symm⟩⟩
theorem ktUse {T et : TypeId} (h : mapDesc Tryz.prog T = some (78, et)) : KT Tryz.prog T 78 et usV encU :=
 ⟨h, fun _ => rfl, keyOk_us, bits_us, KT.ask Tryz.underlying78 (fun a b => by unfold usV; rfl) eqUs⟩
end Go.Proofs.YtefbaladomfccaaGreatDoor
end
