/-
  MAPS with keys of one kind: what reading and writing come to, as lists of keys and values.
  USES: their equality, their order, as keys of maps; insertion in order.
-/
import Derived.Test.YtefbaladomfccaaGreatDoorJ5
set_option linter.all false
section
namespace Go.Proofs.YtefbaladomfccaaGreatDoor
open Go.Eng
variable [aK]
section
variable {α : Type} [DecidableEq α]
def b8 (kv : α → Value) : Nat → List (α × V) → List (Value × Nat × V)
 | _, [] => []
 | n, (k, v) :: r => (kv k, n, v) :: b8 kv (n + 1) r
theorem Bz (kv : α → Value) : ∀ (g : List (α × V)) (n : Nat), (b8 kv n g).length = g.length
 | [], _ => rfl
 | _ :: r, n => by simp [b8, Bz kv r (n + 1)]
theorem Dq (kv : α → Value) : ∀ (g : List (α × V)) (n i : Nat), (b8 kv n g)[i]? = g[i]?.map fun e => (kv e.1, n + i, e.2)
 | [], _, _ => rfl
 | e :: r, n, 0 => rfl
 | e :: r, n, i + 1 => by
  show (b8 kv (n + 1) r)[i]? = _
  rw [Dq kv r (n + 1) i, show n + 1 + i = n + (i + 1) by omega]; rfl
theorem zb (kv : α → Value) (k : α) (v : V) : ∀ (g : List (α × V)) (n : Nat), b8 kv n (g ++ [(k, v)]) = b8 kv n g ++ [(kv k, n + g.length, v)]
 | [], _ => rfl
 | e :: r, n => by
  show (kv e.1, n, e.2) :: b8 kv (n + 1) (r ++ [(k, v)]) = (kv e.1, n, e.2) :: (b8 kv (n + 1) r ++ _)
  rw [zb kv k v r (n + 1), List.length_cons, show n + 1 + r.length = n + (r.length + 1) by omega]
theorem Dr (kv : α → Value) (k : α) (v : V) : ∀ (g : List (α × V)) (n i : Nat), i < g.length → b8 kv n (g.set i (k, v)) = (b8 kv n g).set i (kv k, n + i, v)
 | [], _, _, h => by simp at h
 | e :: r, n, 0, _ => rfl
 | e :: r, n, i + 1, h => by
  show (kv e.1, n, e.2) :: b8 kv (n + 1) (r.set i (k, v)) = (kv e.1, n, e.2) :: (b8 kv (n + 1) r).set i _
  rw [Dr kv k v r (n + 1) i (by simpa using h), show n + 1 + i = n + (i + 1) by omega]
theorem pc (kv : α → Value) (p : V → Bool) : ∀ (g : List (α × V)) (n : Nat), ((b8 kv n g).all fun e => p e.2.2) = g.all fun e => p e.2
 | [], _ => rfl
 | _ :: r, n => by simp [b8, pc kv p r (n + 1)]
def fo (a : α) : List (α × V) → Nat → Option (Nat × V)
 | [], _ => none
 | e :: r, i => if e.1 = a then some (i, e.2) else fo a r (i + 1)
def getM (a : α) : List (α × V) → Option V
 | [] => none
 | e :: r => if e.1 = a then some e.2 else getM a r
theorem va (a : α) : ∀ (g : List (α × V)) (i : Nat), (fo a g i).map (·.2) = getM a g
 | [], _ => rfl
 | e :: r, i => by
  unfold fo getM
  split
  ·rfl
  ·exact va a r (i + 1)
theorem sU {a : α} : ∀ {g : List (α × V)} {n i : Nat} {v : V}, fo a g n = some (i, v) → n ≤ i ∧ g[i - n]? = some (a, v)
 | [], _, _, _, h => by simp [fo] at h
 | e :: r, n, i, v, h => by
  unfold fo at h
  split at h
  ·rename_i he; cases h; subst he; simp
  ·obtain ⟨h1, h2⟩ := sU h
   refine ⟨by omega, ?_⟩
   rw [show i - n = (i - (n + 1)) + 1 by omega]; simpa using h2
structure KT (P : Program) (T kt et : TypeId) (kv : α → Value) (ky : α → V) : Prop where
 map : dG P T = some (kt, et)
 val : ∀ a, cb (ky a) = some (kv a)
 ok : ∀ a, nf P kt (kv a) = true
 bits : ∀ a, Instr.sameBits 10000 (kv a) (kv a) = true
 find : ∀ (a : α) (g : List (α × V)), ll P kt (kv a) (b8 kv 0 g) = some (fo a g 0)
theorem KT.now {P : Program} {kt : TypeId} {kv : α → Value} {d : TypeDesc} (hd : P.underlying kt = some d) (h : ∀ a b, Instr.sameNow d (kv a) (kv b) = some (decide (b = a))) (a : α) (g : List (α × V)) : ll P kt (kv a) (b8 kv 0 g) = some (fo a g 0) := by
 have key : ∀ (g : List (α × V)) (n i : Nat), eB d (kv a) (b8 kv n g) i = some (fo a g i) := by
  intro g
  induction g with
  | nil => intro n i; rfl
  | cons e r ih =>
   intro n i
   obtain ⟨k, v⟩ := e
   simp only [b8,eB,fo,h]
   by_cases hk : k = a
   ·simp [hk]
   ·rw [decide_eq_false hk, if_neg hk]; exact ih _ _
 unfold ll
 rw [hd]
 dsimp only
 rw [key]
theorem KT.ask {P : Program} {kt : TypeId} {kv : α → Value} {d : TypeDesc} (hd : P.underlying kt = some d) (h0 : ∀ a b, Instr.sameNow d (kv a) (kv b) = none) (h : ∀ a b, aU P (Op.equal kt (kv a) (kv b)) = some (decide (a = b))) (a : α) (g : List (α × V)) : ll P kt (kv a) (b8 kv 0 g) = some (fo a g 0) := by
 have key : ∀ (g : List (α × V)) (n i : Nat), jh P kt (kv a) (b8 kv n g) i = some (fo a g i) := by
  intro g
  induction g with
  | nil => intro n i; rfl
  | cons e r ih =>
   intro n i
   obtain ⟨k, v⟩ := e
   simp only [b8,jh,fo,h]
   by_cases hk : k = a
   ·simp [hk]
   ·rw [decide_eq_false (fun e => hk e.symm), if_neg hk]; exact ih _ _
 unfold ll
 rw [hd]
 dsimp only
 cases g with
 | nil => rfl
 | cons e r =>
  have : eB d (kv a) (b8 kv 0 (e :: r)) 0 = none := by
   obtain ⟨k, v⟩ := e
   simp only [b8,eB,h0]
  rw [this]
  dsimp only
  exact key _ _ _
section
variable {P : Program} {T kt et : TypeId} {kv : α → Value} {ky : α → V}
def BA (a : α) (v : V) (g : List (α × V)) : List (α × V) := match fo a g 0 with
 | none => g ++ [(a, v)]
 | some (i, _) => g.set i (a, v)
theorem KT.put (h : KT P T kt et kv ky) (a : α) (v : V) (g : List (α × V)) {mem : List aC} {b : Nat} (hm : mem[b]? = some (.map (b8 kv 0 g) g.length)) :
  cD P mem T (.mp b) (ky a) v = some (mem.set b (.map (b8 kv 0 (BA a v g)) (BA a v g).length)) := by
 unfold cD
 rw [h.map]
 dsimp only
 rw [h.val]
 dsimp only
 rw [if_pos (h.ok a), hm]
 dsimp only
 unfold insertAt
 rw [h.find]
 unfold BA
 cases hf : fo a g 0 with
 | none =>
  dsimp only
  rw [zb, Nat.zero_add, List.length_append, List.length_singleton]
 | some p =>
  obtain ⟨i, w⟩ := p
  obtain ⟨-, h2⟩ := sU hf
  rw [Nat.sub_zero] at h2
  dsimp only
  rw [Dq, h2]
  dsimp only [Option.map_some]
  rw [if_pos (h.bits a)]
  dsimp only
  rw [Dr _ _ _ _ _ _ (List.getElem?_eq_some_iff.1 h2).1, List.length_set]
theorem KT.get (h : KT P T kt et kv ky) (a : α) (g : List (α × V)) {mem : List aC} {b : Nat} (hm : mem[b]? = some (.map (b8 kv 0 g) g.length)) {z : V} (hz : zeroV P et = some z) (ok : Bool) :
  e8 P mem T (.mp b) (ky a) ok = some (rL ok (getM a g).isSome ((getM a g).getD z)) := by
 unfold e8
 rw [h.map]
 dsimp only
 rw [h.val]
 dsimp only
 rw [if_pos (h.ok a)]
 unfold oo
 dsimp only
 rw [hm]
 dsimp only
 rw [h.find, ← va a g 0]
 cases hf : fo a g 0 with
 | none => dsimp only; rw [hz]; rfl
 | some p => rfl
end
end
end Go.Proofs.YtefbaladomfccaaGreatDoor
end

section
namespace Go.Proofs.YtefbaladomfccaaGreatDoor
open Go.Eng
variable [aK]
set_option maxHeartbeats 4000000
set_option maxRecDepth 100000
structure Ap {α : Type} (lt : α → α → Bool) : Prop where
 irrefl : ∀ x, lt x x = false
 trans : ∀ x y z, lt x y = true → lt y z = true → lt x z = true
 Mq : ∀ x y, lt x y = false → lt y x = false → x = y
section
variable {α : Type} [DecidableEq α] {lt : α → α → Bool}
theorem Ap.asymm (h : Ap lt) {x y : α} (hx : lt x y = true) : lt y x = false := by
 cases hy : lt y x with
 | false => rfl
 | true => have := h.trans x y x hx hy; rw [h.irrefl] at this; cases this
def im (lt : α → α → Bool) : List α → α → List α
 | [], s => [s]
 | a :: r, s => if lt a s = true then a :: im lt r s else if a = s then a :: r else s :: a :: r
def zd (lt : α → α → Bool) (l : List α) : Prop := l.Pairwise fun a b => lt a b = true
theorem sW {s : α} : ∀ {l : List α} {x : α}, x ∈ im lt l s ↔ x = s ∨ x ∈ l
 | [], x => by simp [im]
 | a :: r, x => by
  unfold im
  split
  ·rw [List.mem_cons, sW, List.mem_cons]
   constructor
   ·rintro (h | h | h)
    ·exact .inr (.inl h)
    ·exact .inl h
    ·exact .inr (.inr h)
   ·rintro (h | h | h)
    ·exact .inr (.inl h)
    ·exact .inl h
    ·exact .inr (.inr h)
  ·split
   ·rename_i h; subst h
    constructor
    ·exact .inr
    ·rintro (rfl | h)
     ·exact List.mem_cons_self ..
     ·exact h
   ·simp
theorem ze (h : Ap lt) {s : α} : ∀ {l : List α}, zd lt l → zd lt (im lt l s)
 | [], _ => by simp [im, zd]
 | a :: r, hl => by
  have h1 := List.pairwise_cons.1 hl
  unfold im
  split
  ·rename_i ha
   refine List.pairwise_cons.2 ⟨fun b hb => ?_, ze h h1.2⟩
   rcases sW.1 hb with rfl | hb
   ·exact ha
   ·exact h1.1 b hb
  ·rename_i ha
   split
   ·exact hl
   ·rename_i he
    have hs : lt s a = true := by
     cases QM : lt s a with
     | true => rfl
     | false => exact absurd (h.Mq a s (by simpa using ha) QM) he
    refine List.pairwise_cons.2 ⟨fun b hb => ?_, hl⟩
    rcases List.mem_cons.1 hb with rfl | hb
    ·exact hs
    ·exact h.trans _ _ _ hs (h1.1 b hb)
theorem zd.ext (h : Ap lt) : ∀ {l m : List α}, zd lt l → zd lt m → (∀ x, x ∈ l ↔ x ∈ m) → l = m
 | [], [], _, _, _ => rfl
 | [], b :: r, _, _, he => by have := (he b).2 (List.mem_cons_self ..); simp at this
 | a :: r, [], _, _, he => by have := (he a).1 (List.mem_cons_self ..); simp at this
 | a :: r, b :: t, hl, hm, he => by
  have h1 := List.pairwise_cons.1 hl
  have h2 := List.pairwise_cons.1 hm
  have jA : a = b := by
   rcases List.mem_cons.1 ((he a).1 (List.mem_cons_self ..)) with e | ha
   ·exact e
   ·rcases List.mem_cons.1 ((he b).2 (List.mem_cons_self ..)) with e | hb
    ·exact e.symm
    ·have q1 := h2.1 a ha
     have q2 := h.asymm (h1.1 b hb)
     rw [q1] at q2; cases q2
  subst jA
  rw [zd.ext h h1.2 h2.2 fun x => ?_]
  constructor
  ·intro hx
   rcases List.mem_cons.1 ((he x).1 (List.mem_cons_of_mem _ hx)) with rfl | vJ
   ·have := h1.1 x hx; rw [h.irrefl] at this; cases this
   ·exact vJ
  ·intro hx
   rcases List.mem_cons.1 ((he x).2 (List.mem_cons_of_mem _ hx)) with rfl | vJ
   ·have := h2.1 x hx; rw [h.irrefl] at this; cases this
   ·exact vJ
theorem Ds {s : α} : ∀ {l : List α} {i : Nat}, (∀ j < i, ∀ b, l[j]? = some b → lt b s = true) → i ≤ l.length →
  (∀ b, l[i]? = some b → lt b s = false) → im lt l s = if l[i]? = some s then l else l.take i ++ [s] ++ l.drop i
 | [], i, _, hi, _ => by
  have : i = 0 := by simpa using hi
  subst this; simp [im]
 | a :: r, 0, _, _, hb => by
  have h0 := hb a rfl
  unfold im
  rw [if_neg (by rw [h0]; simp)]
  by_cases he : a = s
  ·subst he; simp
  ·rw [if_neg he, if_neg (by simpa using he)]; simp
 | a :: r, i + 1, hj, hi, hb => by
  have h0 := hj 0 (by omega) a rfl
  have ih := Ds (l := r) (i := i) (fun j HL b dt => hj (j + 1) (by omega) b (by simpa using dt)) (by simpa using hi) fun b dt => hb b (by simpa using dt)
  unfold im
  rw [if_pos h0, ih]
  simp only [List.getElem?_cons_succ,List.take_succ_cons,List.drop_succ_cons]
  split
  ·rfl
  ·rfl
def a7 (lt : α → α → Bool) (l m : List α) : List α := m.foldl (im lt) l
theorem k8 : ∀ {m l : List α} {x : α}, x ∈ a7 lt l m ↔ x ∈ l ∨ x ∈ m
 | [], l, x => by simp [a7]
 | s :: m, l, x => by
  show x ∈ a7 lt (im lt l s) m ↔ _
  rw [k8, sW, List.mem_cons]
  constructor
  ·rintro ((h | h) | h)
   ·exact .inr (.inl h)
   ·exact .inl h
   ·exact .inr (.inr h)
  ·rintro (h | h | h)
   ·exact .inl (.inr h)
   ·exact .inl (.inl h)
   ·exact .inr h
theorem k9 (h : Ap lt) : ∀ {m l : List α}, zd lt l → zd lt (a7 lt l m)
 | [], _, hl => hl
 | s :: m, l, hl => k9 (m := m) (l := im lt l s) h (ze h hl)
end

theorem HM {α : Type} (l : List α) (f : α → V) (size : Nat) (hs : ∀ a, (f a).cells.length = size) (i : Nat) (hi : i ≤ l.length) (mem : List aC) : cutAt mem size 0 (some (i : Int)) (.slice (l.map f)) = some (.slice ((l.take i).map f)) := by
 unfold cutAt
 have h1 : cd (l.map f) (0 : Int).toNat size = true := by
  unfold cd; split
  ·rename_i h; rw [List.getElem?_map, Option.map_eq_some_iff] at h; obtain ⟨t, -, rfl⟩ := h; simp [hs]
  ·rfl
 dsimp only
 rw [if_pos ⟨Int.le_refl _, by simp, by simpa using hi, h1⟩]
 simp [List.map_take]
theorem zf {α : Type} (l : List α) (f : α → V) (size : Nat) (hs : ∀ a, (f a).cells.length = size) (i : Nat) (hi : i ≤ l.length) (mem : List aC) : cutAt mem size (i : Int) none (.slice (l.map f)) = some (.slice ((l.drop i).map f)) := by
 unfold cutAt
 have h1 : cd (l.map f) (i : Int).toNat size = true := by
  unfold cd; split
  ·rename_i h; rw [List.getElem?_map, Option.map_eq_some_iff] at h; obtain ⟨t, -, rfl⟩ := h; simp [hs]
  ·rfl
 dsimp only
 rw [if_pos ⟨Int.natCast_nonneg _, by simpa using hi, by simp, h1⟩]
 congr 2
 rw [← List.map_drop, Int.toNat_natCast]
 refine List.take_of_length_le ?_
 simp only [Option.getD_none,List.length_map,List.length_drop]
 omega
theorem zg {α : Type} (l : List α) (f : α → V) (size : Nat) (hs : ∀ a, (f a).cells.length = size) : cd (l.map f) 0 size = true := by
 unfold cd; split
 ·rename_i h; rw [List.getElem?_map, Option.map_eq_some_iff] at h; obtain ⟨t, -, rfl⟩ := h; simp [hs]
 ·rfl
theorem w7 : Ap qb := by
 refine ⟨fun x => ?_, fun x y z h1 h2 => ?_, fun x y h1 h2 => ?_⟩
 ·rw [Bw]; exact decide_eq_false (List.lt_irrefl _)
 ·rw [Bw] at *
  exact decide_eq_true (List.lt_trans (of_decide_eq_true h1) (of_decide_eq_true h2))
 ·rw [Bw] at h1 h2
  have h1 := of_decide_eq_false h1
  have h2 := of_decide_eq_false h2
  have := List.le_antisymm (List.not_lt.1 h2) (List.not_lt.1 h1)
  exact ByteArray.ext (Array.toList_inj.1 this)
abbrev Us := ByteArray × ByteArray
def az (u : Us) : V := .agg [str u.1, str u.2]
theorem qR {P : Program} {T : TypeId} (hT : P.underlying T = some .string) (d : Nat) (a b : ByteArray) : aU P (Op.equalIn (d + 1) T (.string a) (.string b)) = some (a == b) := by
 rw [Op.equalIn, bB, eU hT]
 rfl
theorem HN (a b c d : ByteArray) : aU Tryz.prog (Op.equal 78 (.agg #[.string a, .string b]) (.agg #[.string c, .string d])) = some (a == c && b == d) := by
 show aU Tryz.prog (Op.equalIn (9999 + 1) 78 _ _) = _
 have h1 := qR Tryz.underlying9 9998 a c
 have h2 := qR Tryz.underlying9 9998 b d
 have hs : Tryz.prog.stoodInHeld 78 = false := by kernel_rfl
 have Rm : ∀ x y, aU Tryz.prog (part 9 #[x, y] 0) = some x := fun x y => by kernel_rfl
 have AP : ∀ x y, aU Tryz.prog (part 9 #[x, y] 1) = some y := fun x y => by kernel_rfl
 rw [Op.equalIn, bB, eU Tryz.underlying78]
 dsimp only [Option.bind_some]
 rw [bB]
 show ((some Tryz.prog).bind _) = _
 rw [Option.bind_some, if_neg (by rw [hs]; simp)]
 rw [← Array.forIn_toList]
 have n1 : ("Module" ≠ "_") := by decide
 have n2 : ("Name" ≠ "_") := by decide
 have q1 : aU Tryz.prog (Op.equalIn 9999 9 (Value.string a) (Value.string c)) = some (a == c) := h1
 have q2 : aU Tryz.prog (Op.equalIn 9999 9 (Value.string b) (Value.string d)) = some (b == d) := h2
 have pr : ∀ {α : Type} (x : α), aU Tryz.prog (pure x : Sem α) = some x := fun x => rfl
 simp only [List.forIn_cons,List.forIn_nil,bB,if_pos n1,if_pos n2,Rm,AP,Option.bind_some,q1,pr]
 cases hac : (a == c)
 ·simp [pr, Option.bind_some]
 ·simp only [Bool.not_true,Bool.false_eq_true,if_false,pr,Option.bind_some,bB,if_pos n2,AP,q2,Bool.true_and]
  cases nu : (b == d) <;> simp [pr, bB]
theorem BB (u v : Us) : (u.1 == v.1 && u.2 == v.2) = decide (u = v) := by
 rw [Bool.eq_iff_iff, Bool.and_eq_true, kn, kn, decide_eq_true_eq, Prod.ext_iff]
theorem aZ (x y : Operand) (u v : Us) : bE Tryz.prog (kM .neq 78 x y) (.agg [str u.1, str u.2]) (.agg [str v.1, str v.2]) = some (bl (!decide (u = v))) := by
 have : aU Tryz.prog (do eqGuard .neq 78 x y (.agg #[.string u.1, .string u.2]) (.agg #[.string v.1, .string v.2]); binOp .neq 78 (.agg #[.string u.1, .string u.2]) (.agg #[.string v.1, .string v.2])) = some (.bool (!decide (u = v))) := by
  have hg : aU Tryz.prog (eqGuard .neq 78 x y (.agg #[.string u.1, .string u.2]) (.agg #[.string v.1, .string v.2])) = some () := by kernel_rfl
  rw [bB, hg, Option.bind_some]
  have hb : ∀ u v : Array Value, binOp .neq 78 (.agg u) (.agg v) = (Op.equal 78 (.agg u) (.agg v) >>= fun r => Pure.pure (Value.bool !r)) := fun u v => rfl
  rw [hb, bB, HN, BB]; rfl
 simp only [bE,cb,oj,kM]
 rw [this]; rfl
theorem aX (x y : Operand) (u v : Us) : bE Tryz.prog (kM .eql 78 x y) (.agg [str u.1, str u.2]) (.agg [str v.1, str v.2]) = some (bl (decide (u = v))) := by
 have : aU Tryz.prog (do eqGuard .eql 78 x y (.agg #[.string u.1, .string u.2]) (.agg #[.string v.1, .string v.2]); binOp .eql 78 (.agg #[.string u.1, .string u.2]) (.agg #[.string v.1, .string v.2])) = some (.bool (decide (u = v))) := by
  have hg : aU Tryz.prog (eqGuard .eql 78 x y (.agg #[.string u.1, .string u.2]) (.agg #[.string v.1, .string v.2])) = some () := by kernel_rfl
  rw [bB, hg, Option.bind_some]
  have hb : ∀ u v : Array Value, binOp .eql 78 (.agg u) (.agg v) = (Op.equal 78 (.agg u) (.agg v) >>= fun r => Pure.pure (Value.bool r)) := fun u v => rfl
  rw [hb, bB, HN, BB]; rfl
 simp only [bE,cb,oj,kM]
 rw [this]; rfl
def dM (u v : Us) : Bool := qb u.1 v.1 || decide (u.1 = v.1) && qb u.2 v.2
theorem jr : Ap dM := by
 have hl := w7
 refine ⟨fun x => ?_, fun x y z h1 h2 => ?_, fun x y h1 h2 => ?_⟩
 ·simp [dM, hl.irrefl]
 ·unfold dM at *
  rw [Bool.or_eq_true, Bool.and_eq_true, decide_eq_true_eq] at *
  rcases h1 with h1 | ⟨h1, OX⟩
  ·rcases h2 with h2 | ⟨h2, MB⟩
   ·exact .inl (hl.trans _ _ _ h1 h2)
   ·rw [← h2]; exact .inl h1
  ·rcases h2 with h2 | ⟨h2, MB⟩
   ·rw [h1]; exact .inl h2
   ·exact .inr ⟨h1.trans h2, hl.trans _ _ _ OX MB⟩
 ·unfold dM at h1 h2
  rw [Bool.or_eq_false_iff, Bool.and_eq_false_iff] at h1 h2
  have e1 : x.1 = y.1 := hl.Mq _ _ h1.1 h2.1
  have a1 : qb x.2 y.2 = false := h1.2.elim (fun h => absurd e1 (of_decide_eq_false h)) id
  have a2 : qb y.2 x.2 = false := h2.2.elim (fun h => absurd e1.symm (of_decide_eq_false h)) id
  exact Prod.ext e1 (hl.Mq _ _ a1 a2)
def cI (u : Us) : Value := .agg #[.string u.1, .string u.2]
theorem WU (u v : Us) : aU Tryz.prog (Op.equal 78 (cI u) (cI v)) = some (decide (u = v)) := by
 show aU Tryz.prog (Op.equal 78 (.agg #[.string u.1, .string u.2]) (.agg #[.string v.1, .string v.2])) = _
 rw [HN, BB]
theorem HO (u : Us) : nf Tryz.prog 78 (cI u) = true := by
 obtain ⟨a, b⟩ := u
 kernel_rfl
theorem KW (u : Us) : Instr.sameBits 10000 (cI u) (cI u) = true := by
 have h : ∀ s : ByteArray, Instr.sameBits 9999 (.string s) (.string s) = true := fun s => (kn s s).2 rfl
 show Instr.sameBits (9999 + 1) (cI u) (cI u) = true
 unfold cI
 rw [Instr.sameBits]
 simp [h]
def strVal (s : ByteArray) : Value := .string s
theorem MC {T et : TypeId} (h : dG Tryz.prog T = some (9, et)) : KT Tryz.prog T 9 et strVal str :=
 ⟨h, fun _ => rfl, fun a => by unfold nf; rw [Tryz.underlying9], fun a => (kn a a).2 rfl,
  KT.now Tryz.underlying9 fun a b => by
   show some (a == b) = some (decide (b = a))
   congr 1
   rw [Bool.eq_iff_iff, kn, decide_eq_true_eq]
   exact ⟨fun h => h.symm, fun h => h.symm⟩⟩
theorem vb {T et : TypeId} (h : dG Tryz.prog T = some (78, et)) : KT Tryz.prog T 78 et cI az :=
 ⟨h, fun _ => rfl, HO, KW, KT.ask Tryz.underlying78 (fun a b => by unfold cI; rfl) WU⟩
end Go.Proofs.YtefbaladomfccaaGreatDoor
end
